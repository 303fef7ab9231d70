/-
  Each function of the program computes the plain function of its name.
-/
import Derived.Test.YtcdboppghnchpaaFactsA
import Derived.Test.YtcdboppghnchpaaCoreB
import Derived.Sort.AssemblyPlain
namespace Go.Proofs.Ytcdboppghnchpaa
open Go Go.Proofs.Ytcdboppghnchpaa.Gw Go.RowKit
set_option linter.unusedVariables false
attribute [local irreducible] Ev EvQ EvS EvH
def plan_size_S (f : Int → Option Bool) : Prop := ∀ (w0 : World) (I0 : Nat → Prop) (x1 : Int) (hI : ∀ g, I0 g → g < w0.heap.size) (r : Bool), f x1 = some r →
    Ret Try.prog 26 #[(.int .i64 x1)] w0 fun v w1 => v = (.bool r) ∧ Ch [] w0 w1
theorem plan_size_ok (n : Nat) : plan_size_S (plan_size n) := by
  intro w0 I0 x1 hI r h
  unfold plan_size at h
  refine enter Try.func26 rfl (Nat.le_of_ble_eq_true rfl) ?_
  have hp : Hp ⟨w0, I0, []⟩ I0 [] w0 := Hp.start hI
  apply go
  apply go
  obtain ⟨y3, q4, h⟩ := bind_some h
  refine W.cut (γ := Bool) (fun g => [(2, (.bool (g)))]) (fun g w' => y3 = (g) ∧ w0 = w') ?_ ?_
  ·
    apply go
    refine sel_of (fun hc => ?_) (fun hc => ?_)
    ·
      have q4 := cond_t q4 hc
      obtain rfl := Option.some.inj q4
      exact ⟨(decide (x1 ≤ 64)), (.c rfl .n), rfl, rfl⟩
    ·
      have q4 := cond_f q4 hc
      obtain rfl := Option.some.inj q4
      exact ⟨false, (.c rfl .n), rfl, rfl⟩
  ·
    rintro x2 _ ⟨hy, rfl⟩
    replace hy := hy.symm
    subst hy
    apply go
    obtain rfl := Option.some.inj h
    exact ⟨rfl, hp.ch⟩

end Go.Proofs.Ytcdboppghnchpaa

namespace Go.Proofs.Ytcdboppghnchpaa
open Go Go.Proofs.Ytcdboppghnchpaa.Gw Go.RowKit
set_option linter.unusedVariables false
attribute [local irreducible] Ev EvQ EvS EvH
def slices_Maxbyte_byte__S (f : (List Int) → Option Int) : Prop := ∀ (w0 : World) (I0 : Nat → Prop) (x5 : (List Int)) (v6 : Value) (r7 : RepS (dI .u8) w0 I0 v6 x5) (hI : ∀ g, I0 g → g < w0.heap.size) (r : Int), f x5 = some r →
    Ret Try.prog 27 #[v6] w0 fun v w1 => v = (.int .u8 r) ∧ Ch [] w0 w1
theorem slices_Maxbyte_byte__ok (n : Nat) : slices_Maxbyte_byte__S (slices_Maxbyte_byte_ n) := by
  intro w0 I0 x5 v6 r7 hI r h
  unfold slices_Maxbyte_byte_ at h
  refine enter Try.func27 rfl (Nat.le_of_ble_eq_true rfl) ?_
  have hp : Hp ⟨w0, I0, []⟩ I0 [] w0 := Hp.start hI
  apply go
  apply go
  obtain ⟨y8, q9, h⟩ := bind_some h
  refine W.cut (γ := Unit) (fun _ => [(0, v6)]) (fun _ w' => y8 = () ∧ w0 = w') ?_ ?_
  ·
    apply go
    apply go
    refine ev0 (rn_len rfl rfl Try.underlying22 r7) ?_
    apply go
    refine sel_of (fun hc => ?_) (fun hc => ?_)
    ·
      have q9 := cond_t q9 hc
      apply go
      cases q9
    ·
      have q9 := cond_f q9 hc
      apply go
      obtain rfl := Option.some.inj q9
      exact ⟨(), (.c rfl .n), rfl, rfl⟩
  ·
    rintro ⟨⟩ _ ⟨hy, rfl⟩
    replace hy := hy.symm
    subst hy
    apply go
    apply go
    obtain ⟨x10, q11, h⟩ := bind_some h
    refine ev_index rfl rfl rfl Try.underlying22 T5 r7 q11 ?_
    intro p12 c13 d14 a15
    obtain rfl : c13 = [(.int .u8 x10)] := d14
    refine ev (rn_load rfl rfl (run_loadVar1 T5 (a15.2 0 _ rfl))) ?_
    obtain ⟨y43, q44, h⟩ := bind_some h
    refine W.cut (γ := Int) (fun g => [(3, (.int .u8 (g)))]) (fun g w' => y43 = (g) ∧ w0 = w') ?_ ?_
    ·
      apply go
      apply go
      apply go
      refine W.loop q44 (γ := Unit) (fun s _ => [(0, v6), (3, (.int .u8 (s.1))), (4, (.int .i64 (s.2)))]) (fun s _ w' => w0 = w') () (.c rfl (.c rfl (.c rfl .n))) rfl ?_
      rintro ⟨x51, x52⟩ ⟨⟩ _ y61 rfl q62 q63
      unfold slices_Maxbyte_byte__L1 at q62
      apply go
      apply go
      apply go
      refine ev0 (rn_len rfl rfl Try.underlying22 r7) ?_
      apply go
      refine sel_of (fun hc => ?_) (fun hc => ?_)
      ·
        have q62 := cond_t q62 hc
        apply go
        apply go
        apply go
        apply go
        obtain ⟨x64, q65, q62⟩ := bind_some q62
        refine ev_index rfl rfl rfl Try.underlying22 T5 r7 q65 ?_
        intro p66 c67 d68 a69
        obtain rfl : c67 = [(.int .u8 x64)] := d68
        refine ev (rn_load rfl rfl (run_loadVar1 T5 (a69.2 0 _ rfl))) ?_
        refine ev0 (rn_max rfl rfl rfl) ?_
        apply go
        exact ⟨_, (Option.some.inj q62).symm, (), (.c rfl (.c rfl (.c rfl .n))), rfl⟩
      ·
        have q62 := cond_f q62 hc
        apply go
        have q70 := congrArg some (q63 _ (Option.some.inj q62).symm)
        obtain rfl := Option.some.inj q70
        exact ⟨x51, (.c rfl .n), rfl, rfl⟩
    ·
      rintro x42 _ ⟨hy, rfl⟩
      replace hy := hy.symm
      subst hy
      apply go
      apply go
      apply go
      obtain rfl := Option.some.inj h
      exact ⟨rfl, hp.ch⟩

end Go.Proofs.Ytcdboppghnchpaa

namespace Go.Proofs.Ytcdboppghnchpaa
open Go Go.Proofs.Ytcdboppghnchpaa.Gw Go.RowKit
set_option linter.unusedVariables false
attribute [local irreducible] Ev EvQ EvS EvH
def plan_Valid_S (f : Plan → Option Bool) : Prop := ∀ (w0 : World) (I0 : Nat → Prop) (x71 : Plan) (v72 : Value) (r73 : RepS (dI .u8) w0 I0 v72 x71.Cells) (hI : ∀ g, I0 g → g < w0.heap.size) (r : Bool), f x71 = some r →
    Ret Try.prog 13 #[(.agg #[(.int .i64 x71.W), (.int .i64 x71.H), v72])] w0 fun v w1 => v = (.bool r) ∧ Ch [] w0 w1
theorem plan_Valid_ok (n : Nat) : plan_Valid_S (plan_Valid n) := by
  intro w0 I0 x71 v72 r73 hI r h
  unfold plan_Valid at h
  refine enter Try.func13 rfl (Nat.le_of_ble_eq_true rfl) ?_
  have hp : Hp ⟨w0, I0, []⟩ I0 [] w0 := Hp.start hI
  apply go
  apply go
  refine ev_boxI hp rfl rfl ?_
  intro p76 I77 w75 hp hs a78
  replace r73 := r73.step hs
  apply go
  obtain ⟨y87, q88, h⟩ := bind_some h
  refine W.cut (γ := Bool) (fun g => [(1, (.pointer (some (p76)))), (23, (.bool (g)))]) (fun g w' => y87 = (g) ∧ Hp ⟨w0, I0, []⟩ I77 [] w' ∧ RepS (dI .u8) w' I77 v72 x71.Cells ∧ At w' I77 p76 [(.int .i64 x71.W), (.int .i64 x71.H), v72]) ?_ ?_
  ·
    apply go
    refine ev0 (rn_field rfl rfl FO24_0) ?_
    refine ev (rn_load rfl rfl (run_loadVar1 T3 (a78.2 0 _ rfl))) ?_
    obtain ⟨x89, q90, q88⟩ := bind_some q88
    refine ev_call rfl rfl C26 (((plan_size_ok n) _ _  x71.W hp.imm _ q90).mono ?_)
    rintro _ w91 ⟨rfl, hc⟩
    have hs := hp.stp hc
    replace hp := hp.ext hc
    replace a78 := a78.step hs
    replace r73 := r73.step hs
    refine sel_of (fun hc => ?_) (fun hc => ?_)
    ·
      have q88 := cond_t q88 hc
      obtain rfl := Option.some.inj q88
      exact ⟨true, (.c rfl (.c rfl .n)), rfl, hp, r73, a78⟩
    ·
      have q88 := cond_f q88 hc
      refine ev0 (rn_field rfl rfl FO24_1) ?_
      refine ev (rn_load rfl rfl (run_loadVar1 T3 (a78.2 1 _ rfl))) ?_
      obtain ⟨x92, q93, q88⟩ := bind_some q88
      refine ev_call rfl rfl C26 (((plan_size_ok n) _ _  x71.H hp.imm _ q93).mono ?_)
      rintro _ w94 ⟨rfl, hc⟩
      have hs := hp.stp hc
      replace hp := hp.ext hc
      replace a78 := a78.step hs
      replace r73 := r73.step hs
      refine sel_of (fun hc => ?_) (fun hc => ?_)
      ·
        have q88 := cond_t q88 hc
        obtain rfl := Option.some.inj q88
        exact ⟨true, (.c rfl (.c rfl .n)), rfl, hp, r73, a78⟩
      ·
        have q88 := cond_f q88 hc
        refine ev0 (rn_field rfl rfl FO24_2) ?_
        refine ev (rn_load rfl rfl (run_loadVar1 T22 (a78.2 2 _ rfl))) ?_
        refine ev0 (rn_len rfl rfl Try.underlying22 r73) ?_
        refine ev0 (rn_field rfl rfl FO24_0) ?_
        refine ev (rn_load rfl rfl (run_loadVar1 T3 (a78.2 0 _ rfl))) ?_
        refine ev0 (rn_field rfl rfl FO24_1) ?_
        refine ev (rn_load rfl rfl (run_loadVar1 T3 (a78.2 1 _ rfl))) ?_
        obtain rfl := Option.some.inj q88
        exact ⟨((x71.Cells.length : Int) != (IntKind.i64.wrap (x71.W * x71.H))), (.c rfl (.c rfl .n)), rfl, hp, r73, a78⟩
  ·
    rintro x85 w86 ⟨hy, hp, r73, a78⟩
    replace hy := hy.symm
    subst hy
    apply go
    refine sel_of (fun hc => ?_) (fun hc => ?_)
    ·
      have h := cond_t h hc
      apply go
      apply go
      apply go
      obtain rfl := Option.some.inj h
      exact ⟨rfl, hp.ch⟩
    ·
      have h := cond_f h hc
      apply go
      obtain ⟨y100, q101, h⟩ := bind_some h
      refine W.cut (γ := Bool) (fun g => [(2, (.bool (g)))]) (fun g w' => y100 = (g) ∧ Hp ⟨w0, I0, []⟩ I77 [] w') ?_ ?_
      ·
        apply go
        refine ev0 (rn_field rfl rfl FO24_2) ?_
        refine ev (rn_load rfl rfl (run_loadVar1 T22 (a78.2 2 _ rfl))) ?_
        refine ev0 (rn_len rfl rfl Try.underlying22 r73) ?_
        refine sel_of (fun hc => ?_) (fun hc => ?_)
        ·
          have q101 := cond_t q101 hc
          obtain rfl := Option.some.inj q101
          exact ⟨true, (.c rfl .n), rfl, hp⟩
        ·
          have q101 := cond_f q101 hc
          refine ev0 (rn_field rfl rfl FO24_2) ?_
          refine ev (rn_load rfl rfl (run_loadVar1 T22 (a78.2 2 _ rfl))) ?_
          obtain ⟨x102, q103, q101⟩ := bind_some q101
          refine ev_call rfl rfl C27 (((slices_Maxbyte_byte__ok n) _ _  x71.Cells v72 r73 hp.imm _ q103).mono ?_)
          rintro _ w104 ⟨rfl, hc⟩
          have hs := hp.stp hc
          replace hp := hp.ext hc
          obtain rfl := Option.some.inj q101
          exact ⟨(decide (x102 ≤ 2)), (.c rfl .n), rfl, hp⟩
      ·
        rintro x98 w99 ⟨hy, hp⟩
        replace hy := hy.symm
        subst hy
        apply go
        obtain rfl := Option.some.inj h
        exact ⟨rfl, hp.ch⟩

end Go.Proofs.Ytcdboppghnchpaa

namespace Go.Proofs.Ytcdboppghnchpaa
open Go Go.Proofs.Ytcdboppghnchpaa.Gw Go.RowKit
set_option linter.unusedVariables false
attribute [local irreducible] Ev EvQ EvS EvH
def tour_free_S (f : Plan → Cell → Option Bool) : Prop := ∀ (w0 : World) (I0 : Nat → Prop) (x105 : Plan) (v106 : Value) (r107 : RepS (dI .u8) w0 I0 v106 x105.Cells) (x108 : Cell) (hI : ∀ g, I0 g → g < w0.heap.size) (r : Bool), f x105 x108 = some r →
    Ret Try.prog 14 #[(.agg #[(.int .i64 x105.W), (.int .i64 x105.H), v106]), (.agg #[(.int .i64 x108.X), (.int .i64 x108.Y)])] w0 fun v w1 => v = (.bool r) ∧ Ch [] w0 w1
theorem tour_free_ok (n : Nat) : tour_free_S (tour_free n) := by
  intro w0 I0 x105 v106 r107 x108 hI r h
  unfold tour_free at h
  refine enter Try.func14 rfl (Nat.le_of_ble_eq_true rfl) ?_
  have hp : Hp ⟨w0, I0, []⟩ I0 [] w0 := Hp.start hI
  apply go
  apply go
  refine ev_boxI hp rfl rfl ?_
  intro p111 I112 w110 hp hs a113
  replace r107 := r107.step hs
  refine ev_boxI hp rfl rfl ?_
  intro p116 I117 w115 hp hs a118
  replace a113 := a113.step hs
  replace r107 := r107.step hs
  obtain ⟨y126, q127, h⟩ := bind_some h
  refine W.cut (γ := Bool) (fun g => [(4, (.bool (g)))]) (fun g w' => y126 = (g) ∧ w115 = w') ?_ ?_
  ·
    apply go
    refine ev0 (rn_field rfl rfl FO26_0) ?_
    refine ev (rn_load rfl rfl (run_loadVar1 T3 (a118.2 0 _ rfl))) ?_
    refine sel_of (fun hc => ?_) (fun hc => ?_)
    ·
      have q127 := cond_t q127 hc
      refine ev0 (rn_field rfl rfl FO26_1) ?_
      refine ev (rn_load rfl rfl (run_loadVar1 T3 (a118.2 1 _ rfl))) ?_
      refine sel_of (fun hc => ?_) (fun hc => ?_)
      ·
        have q127 := cond_t q127 hc
        refine ev0 (rn_field rfl rfl FO26_0) ?_
        refine ev (rn_load rfl rfl (run_loadVar1 T3 (a118.2 0 _ rfl))) ?_
        refine ev0 (rn_field rfl rfl FO24_0) ?_
        refine ev (rn_load rfl rfl (run_loadVar1 T3 (a113.2 0 _ rfl))) ?_
        refine sel_of (fun hc => ?_) (fun hc => ?_)
        ·
          have q127 := cond_t q127 hc
          refine ev0 (rn_field rfl rfl FO26_1) ?_
          refine ev (rn_load rfl rfl (run_loadVar1 T3 (a118.2 1 _ rfl))) ?_
          refine ev0 (rn_field rfl rfl FO24_1) ?_
          refine ev (rn_load rfl rfl (run_loadVar1 T3 (a113.2 1 _ rfl))) ?_
          refine sel_of (fun hc => ?_) (fun hc => ?_)
          ·
            have q127 := cond_t q127 hc
            refine ev0 (rn_field rfl rfl FO24_2) ?_
            refine ev (rn_load rfl rfl (run_loadVar1 T22 (a113.2 2 _ rfl))) ?_
            refine ev0 (rn_field rfl rfl FO26_1) ?_
            refine ev (rn_load rfl rfl (run_loadVar1 T3 (a118.2 1 _ rfl))) ?_
            refine ev0 (rn_field rfl rfl FO24_0) ?_
            refine ev (rn_load rfl rfl (run_loadVar1 T3 (a113.2 0 _ rfl))) ?_
            refine ev0 (rn_field rfl rfl FO26_0) ?_
            refine ev (rn_load rfl rfl (run_loadVar1 T3 (a118.2 0 _ rfl))) ?_
            obtain ⟨x128, q129, q127⟩ := bind_some q127
            refine ev_index rfl rfl rfl Try.underlying22 T5 r107 q129 ?_
            intro p130 c131 d132 a133
            obtain rfl : c131 = [(.int .u8 x128)] := d132
            refine ev (rn_load rfl rfl (run_loadVar1 T5 (a133.2 0 _ rfl))) ?_
            obtain rfl := Option.some.inj q127
            exact ⟨(x128 == 1), (.c rfl .n), rfl, rfl⟩
          ·
            have q127 := cond_f q127 hc
            obtain rfl := Option.some.inj q127
            exact ⟨false, (.c rfl .n), rfl, rfl⟩
        ·
          have q127 := cond_f q127 hc
          obtain rfl := Option.some.inj q127
          exact ⟨false, (.c rfl .n), rfl, rfl⟩
      ·
        have q127 := cond_f q127 hc
        obtain rfl := Option.some.inj q127
        exact ⟨false, (.c rfl .n), rfl, rfl⟩
    ·
      have q127 := cond_f q127 hc
      obtain rfl := Option.some.inj q127
      exact ⟨false, (.c rfl .n), rfl, rfl⟩
  ·
    rintro x125 _ ⟨hy, rfl⟩
    replace hy := hy.symm
    subst hy
    apply go
    obtain rfl := Option.some.inj h
    exact ⟨rfl, hp.ch⟩

end Go.Proofs.Ytcdboppghnchpaa

namespace Go.Proofs.Ytcdboppghnchpaa
open Go Go.Proofs.Ytcdboppghnchpaa.Gw Go.RowKit
set_option linter.unusedVariables false
attribute [local irreducible] Ev EvQ EvS EvH
def tour_sides_S (f : Cell → Option (List Cell)) : Prop := ∀ (w0 : World) (I0 : Nat → Prop) (x134 : Cell) (hI : ∀ g, I0 g → g < w0.heap.size) (r : (List Cell)), f x134 = some r →
    Ret Try.prog 15 #[(.agg #[(.int .i64 x134.X), (.int .i64 x134.Y)])] w0 fun v w1 => ∃ (I1 : Nat → Prop) (u135 : List Value), v = (.agg u135.toArray) ∧ Hp ⟨w0, I0, []⟩ I1 [] w1 ∧ (dA 4 dCell).rep w1 I1 u135 r
theorem tour_sides_ok (n : Nat) : tour_sides_S (tour_sides n) := by
  intro w0 I0 x134 hI r h
  unfold tour_sides at h
  refine enter Try.func15 rfl (Nat.le_of_ble_eq_true rfl) ?_
  have hp : Hp ⟨w0, I0, []⟩ I0 [] w0 := Hp.start hI
  apply go
  apply go
  refine ev_boxI hp rfl rfl ?_
  intro p138 I139 w137 hp hs a140
  refine ev_allocA (d := (dA 4 dCell)) (x0 := (List.replicate 4 (Cell.mk 0 0))) hp rfl T49 (fun _ _ => (rep_zero 4 (dCell_m (x := (Cell.mk 0 0))))) ?_
  intro g141 c144 w142 hp hs r143
  replace a140 := a140.step hs
  apply go
  apply go
  refine ev0 (rn_field rfl rfl FO26_0) ?_
  refine ev (rn_load rfl rfl (run_loadVar1 T3 (a140.2 0 _ rfl))) ?_
  refine ev0 (rn_field rfl rfl FO26_1) ?_
  refine ev (rn_load rfl rfl (run_loadVar1 T3 (a140.2 1 _ rfl))) ?_
  refine ev0 (fun w => rn_build (cs := [(.int .i64 (IntKind.i64.wrap (x134.X + 1))), (.int .i64 x134.Y)]) rfl rfl T26 PL26 rfl) ?_
  refine ev0 (rn_field rfl rfl FO26_0) ?_
  refine ev (rn_load rfl rfl (run_loadVar1 T3 (a140.2 0 _ rfl))) ?_
  refine ev0 (rn_field rfl rfl FO26_1) ?_
  refine ev (rn_load rfl rfl (run_loadVar1 T3 (a140.2 1 _ rfl))) ?_
  refine ev0 (fun w => rn_build (cs := [(.int .i64 x134.X), (.int .i64 (IntKind.i64.wrap (x134.Y + 1)))]) rfl rfl T26 PL26 rfl) ?_
  refine ev0 (rn_field rfl rfl FO26_0) ?_
  refine ev (rn_load rfl rfl (run_loadVar1 T3 (a140.2 0 _ rfl))) ?_
  refine ev0 (rn_field rfl rfl FO26_1) ?_
  refine ev (rn_load rfl rfl (run_loadVar1 T3 (a140.2 1 _ rfl))) ?_
  refine ev0 (fun w => rn_build (cs := [(.int .i64 (IntKind.i64.wrap (x134.X - 1))), (.int .i64 x134.Y)]) rfl rfl T26 PL26 rfl) ?_
  refine ev0 (rn_field rfl rfl FO26_0) ?_
  refine ev (rn_load rfl rfl (run_loadVar1 T3 (a140.2 0 _ rfl))) ?_
  refine ev0 (rn_field rfl rfl FO26_1) ?_
  refine ev (rn_load rfl rfl (run_loadVar1 T3 (a140.2 1 _ rfl))) ?_
  refine ev0 (fun w => rn_build (cs := [(.int .i64 x134.X), (.int .i64 (IntKind.i64.wrap (x134.Y - 1)))]) rfl rfl T26 PL26 rfl) ?_
  refine ev0 (fun w => rn_buildA (cs := [(.int .i64 (IntKind.i64.wrap (x134.X + 1))), (.int .i64 x134.Y), (.int .i64 x134.X), (.int .i64 (IntKind.i64.wrap (x134.Y + 1))), (.int .i64 (IntKind.i64.wrap (x134.X - 1))), (.int .i64 x134.Y), (.int .i64 x134.X), (.int .i64 (IntKind.i64.wrap (x134.Y - 1)))]) rfl rfl T49 Try.underlying49 T26 (by kernel_rfl)) ?_
  have r145 : (dA 4 dCell).rep w142 I139 [(.int .i64 (IntKind.i64.wrap (x134.X + 1))), (.int .i64 x134.Y), (.int .i64 x134.X), (.int .i64 (IntKind.i64.wrap (x134.Y + 1))), (.int .i64 (IntKind.i64.wrap (x134.X - 1))), (.int .i64 x134.Y), (.int .i64 x134.X), (.int .i64 (IntKind.i64.wrap (x134.Y - 1)))] [(Cell.mk (IntKind.i64.wrap (x134.X + 1)) x134.Y), (Cell.mk x134.X (IntKind.i64.wrap (x134.Y + 1))), (Cell.mk (IntKind.i64.wrap (x134.X - 1)) x134.Y), (Cell.mk x134.X (IntKind.i64.wrap (x134.Y - 1)))] := ⟨rfl, rfl, (Elems.cons (d := dCell) (xs := _) dCell_m (Elems.cons (d := dCell) (xs := _) dCell_m (Elems.cons (d := dCell) (xs := _) dCell_m (Elems.cons (d := dCell) (xs := _) dCell_m (Elems.nil _ _ _ _)))))⟩
  refine ev_storeW (d := (dA 4 dCell)) hp (i := 0) rfl rfl rfl rfl T49 rfl r143 r145 ?_
  intro w146 hp hs r147
  apply go
  obtain rfl := Option.some.inj h
  refine ⟨_, run_loadVarA T49 (Desc.len _ r147) (hp.at_ (i := 0) rfl), ?_⟩
  have hp := hp.sel [] (by decide)
  exact ⟨I139, [(.int .i64 (IntKind.i64.wrap (x134.X + 1))), (.int .i64 x134.Y), (.int .i64 x134.X), (.int .i64 (IntKind.i64.wrap (x134.Y + 1))), (.int .i64 (IntKind.i64.wrap (x134.X - 1))), (.int .i64 x134.Y), (.int .i64 x134.X), (.int .i64 (IntKind.i64.wrap (x134.Y - 1)))], rfl, hp, r147⟩

end Go.Proofs.Ytcdboppghnchpaa

namespace Go.Proofs.Ytcdboppghnchpaa
open Go Go.Proofs.Ytcdboppghnchpaa.Gw Go.RowKit
set_option linter.unusedVariables false
attribute [local irreducible] Ev EvQ EvS EvH
def tour_Tour_S (f : Plan → Cell → Option ((List Cell) × Int)) : Prop := ∀ (w0 : World) (I0 : Nat → Prop) (x191 : Plan) (v192 : Value) (r193 : RepS (dI .u8) w0 I0 v192 x191.Cells) (x194 : Cell) (hI : ∀ g, I0 g → g < w0.heap.size) (r : ((List Cell) × Int)), f x191 x194 = some r →
    Ret Try.prog 5 #[(.agg #[(.int .i64 x191.W), (.int .i64 x191.H), v192]), (.agg #[(.int .i64 x194.X), (.int .i64 x194.Y)])] w0 fun v w1 => ∃ (I1 : Nat → Prop) (u195 : Value), v = (.tuple #[u195, (.int .i64 r.2)]) ∧ Hp ⟨w0, I0, []⟩ I1 [] w1 ∧ RepS dCell w1 I1 u195 r.1
theorem tour_Tour_ok (n : Nat) : tour_Tour_S (tour_Tour n) := by
  intro w0 I0 x191 v192 r193 x194 hI r h
  unfold tour_Tour at h
  refine enter Try.func5 rfl (Nat.le_of_ble_eq_true rfl) ?_
  have hp : Hp ⟨w0, I0, []⟩ I0 [] w0 := Hp.start hI
  apply go
  apply go
  refine ev_boxI hp rfl rfl ?_
  intro p198 I199 w197 hp hs a200
  replace r193 := r193.step hs
  refine ev_boxI hp rfl rfl ?_
  intro p203 I204 w202 hp hs a205
  replace a200 := a200.step hs
  replace r193 := r193.step hs
  apply go
  apply go
  apply go
  apply go
  refine ev (rn_load rfl rfl (run_loadVarA T24 rfl a200)) ?_
  obtain ⟨x206, q207, h⟩ := bind_some h
  refine ev_call rfl rfl C13 (((plan_Valid_ok n) _ _  (Plan.mk x191.W x191.H x191.Cells) v192 r193 hp.imm _ q207).mono ?_)
  rintro _ w208 ⟨rfl, hc⟩
  have hs := hp.stp hc
  replace hp := hp.ext hc
  replace a200 := a200.step hs
  replace r193 := r193.step hs
  replace a205 := a205.step hs
  apply go
  refine sel_of (fun hc => ?_) (fun hc => ?_)
  ·
    have h := cond_t h hc
    apply go
    apply go
    apply go
    obtain rfl := Option.some.inj h
    exact ⟨I204, .slice none 0 0, rfl, hp, RepS.nil _ _ _⟩
  ·
    have h := cond_f h hc
    apply go
    apply go
    refine ev (rn_load rfl rfl (run_loadVarA T24 rfl a200)) ?_
    refine ev (rn_load rfl rfl (run_loadVarA T26 rfl a205)) ?_
    obtain ⟨x209, q210, h⟩ := bind_some h
    refine ev_call rfl rfl C14 (((tour_free_ok n) _ _  (Plan.mk x191.W x191.H x191.Cells) v192 r193 (Cell.mk x194.X x194.Y) hp.imm _ q210).mono ?_)
    rintro _ w211 ⟨rfl, hc⟩
    have hs := hp.stp hc
    replace hp := hp.ext hc
    replace a200 := a200.step hs
    replace r193 := r193.step hs
    replace a205 := a205.step hs
    apply go
    refine sel_of (fun hc => ?_) (fun hc => ?_)
    ·
      have h := cond_t h hc
      apply go
      apply go
      apply go
      obtain rfl := Option.some.inj h
      exact ⟨I204, .slice none 0 0, rfl, hp, RepS.nil _ _ _⟩
    ·
      have h := cond_f h hc
      apply go
      apply go
      apply go
      refine ev_makeMap (kc := kc48) (vc := vc48) hp rfl ?_
      intro g212 I213 w214 hp hs m215
      replace a200 := a200.step hs
      replace r193 := r193.step hs
      replace a205 := a205.step hs
      refine ev (rn_load rfl rfl (run_loadVarA T26 rfl a205)) ?_
      refine ev_mapInsert (k := (Cell.mk x194.X x194.Y)) (v := true) hp rfl rfl rfl rfl Try.underlying48 KE48 m215 ?_
      intro w216 hp hs m217
      replace a200 := a200.wk hs
      replace r193 := r193.wk hs
      replace a205 := a205.wk hs
      obtain ⟨y259, q260, h⟩ := bind_some h
      refine W.cut (γ := ((List Cell) × (List Cell) × Value × Ent × Value × Ent)) (fun g => [(2, (.pointer (some (p198)))), (6, (.map (some g212))), (7, (g.2.2.1)), (8, (g.2.2.2.2.1))]) (fun g w' => y259 = ((g.1), (g.2.1)) ∧ Hp ⟨w0, I0, []⟩ I213 [(g.2.2.2.1), (g.2.2.2.2.2)] w' ∧ RepS (dI .u8) w' I213 v192 x191.Cells ∧ At w' I213 p198 [(.int .i64 x191.W), (.int .i64 x191.H), v192] ∧ MapAt kc48 vc48 ⟨w0, I0, []⟩ w' I213 g212 (mput ke48 (Cell.mk x194.X x194.Y) true ([] : (List (Cell × Bool)))) ∧ OwnS dCell 26 w' I213 (g.2.2.1) (g.2.2.2.1) (g.1) ∧ OwnS dCell 26 w' I213 (g.2.2.2.2.1) (g.2.2.2.2.2) (g.2.1)) ?_ ?_
      ·
        have hs := hp.stp (Ch.drew [] w216)
        have hp := hp.drew
        replace a200 := a200.step hs
        replace r193 := r193.step hs
        replace a205 := a205.step hs
        replace m217 := m217.step hs
        refine W.heldG (.q 0 (.q 2 (.l 1 (.q 4 (.l 3 (.q 5 .done) .no)) (.l 3 (.l 1 (.q 4 (.q 5 .done)) .no) .no)))) (SK (Stp I213 w216.drew I213) [] []) MX (by kernel_rfl) ⟨Stp.refl _ _, kp_nil⟩ ?_
        have hz := Stp.refl I213 w216.drew
        refine ⟨SK.same (by kernel_rfl), ?_⟩
        refine evh (fun w' hw => rn_load rfl rfl (run_loadVarA T26 rfl (a205.step (S0.si hw)))) ?_
        refine ⟨SK.same (by kernel_rfl), ?_⟩
        refine evh (fun w' hw => rn_load rfl rfl (run_loadVarA T26 rfl (a205.step (S0.si hw)))) ?_
        refine ⟨?_, ?_⟩
        ·
          refine ev_litON (d := dCell) (xs := [(Cell.mk x194.X x194.Y)]) (cs := [(.int .i64 x194.X), (.int .i64 x194.Y)]) hp rfl rfl Try.underlying28 T26 (by decide) (by decide) rfl rfl (Elems.cons (d := dCell) (xs := _) dCell_m (Elems.nil _ _ _ _)) ?_
          intro v277 e279 w278 hp hs o280
          replace hz := hz.trans hs
          replace a200 := a200.step hs
          replace r193 := r193.step hs
          replace m217 := m217.step hs
          refine ⟨SK (Stp I213 w278 I213) [] [], ⟨Stp.refl _ _, kp_nil⟩, fun L x h => ⟨hz.held h.1, h.2⟩, ?_⟩
          have hz := Stp.refl I213 w278
          refine ⟨SK.same (by kernel_rfl), ?_⟩
          refine ⟨?_, trivial⟩
          refine ev_litON (d := dCell) (xs := [(Cell.mk x194.X x194.Y)]) (cs := [(.int .i64 x194.X), (.int .i64 x194.Y)]) hp rfl rfl Try.underlying28 T26 (by decide) (by decide) rfl rfl (Elems.cons (d := dCell) (xs := _) dCell_m (Elems.nil _ _ _ _)) ?_
          intro v281 e283 w282 hp hs o284
          replace hz := hz.trans hs
          replace a200 := a200.step hs
          replace r193 := r193.step hs
          replace m217 := m217.step hs
          replace o280 := o280.step hs
          refine ⟨SK (Stp I213 w282 I213) [] [], ⟨Stp.refl _ _, kp_nil⟩, fun L x h => ⟨hz.held h.1, h.2⟩, ?_⟩
          have hz := Stp.refl I213 w282
          refine ⟨SK.same (by kernel_rfl), ?_⟩
          obtain rfl := Option.some.inj q260
          have hp := hp.perm [1, 0] (by decide)
          exact ⟨([(Cell.mk x194.X x194.Y)], [(Cell.mk x194.X x194.Y)], v277, e279, v281, e283), (.c rfl (.c rfl (.c rfl (.c rfl .n)))), rfl, hp, r193, a200, m217, o280, o284⟩
        refine ⟨?_, trivial⟩
        refine ev_litON (d := dCell) (xs := [(Cell.mk x194.X x194.Y)]) (cs := [(.int .i64 x194.X), (.int .i64 x194.Y)]) hp rfl rfl Try.underlying28 T26 (by decide) (by decide) rfl rfl (Elems.cons (d := dCell) (xs := _) dCell_m (Elems.nil _ _ _ _)) ?_
        intro v285 e287 w286 hp hs o288
        replace hz := hz.trans hs
        replace a200 := a200.step hs
        replace r193 := r193.step hs
        replace m217 := m217.step hs
        refine ⟨SK (Stp I213 w286 I213) [] [], ⟨Stp.refl _ _, kp_nil⟩, fun L x h => ⟨hz.held h.1, h.2⟩, ?_⟩
        have hz := Stp.refl I213 w286
        refine ⟨?_, trivial⟩
        refine ev_litON (d := dCell) (xs := [(Cell.mk x194.X x194.Y)]) (cs := [(.int .i64 x194.X), (.int .i64 x194.Y)]) hp rfl rfl Try.underlying28 T26 (by decide) (by decide) rfl rfl (Elems.cons (d := dCell) (xs := _) dCell_m (Elems.nil _ _ _ _)) ?_
        intro v289 e291 w290 hp hs o292
        replace hz := hz.trans hs
        replace a200 := a200.step hs
        replace r193 := r193.step hs
        replace m217 := m217.step hs
        replace o288 := o288.step hs
        refine ⟨SK (Stp I213 w290 I213) [] [], ⟨Stp.refl _ _, kp_nil⟩, fun L x h => ⟨hz.held h.1, h.2⟩, ?_⟩
        have hz := Stp.refl I213 w290
        refine ⟨SK.same (by kernel_rfl), ?_⟩
        refine ⟨SK.same (by kernel_rfl), ?_⟩
        obtain rfl := Option.some.inj q260
        exact ⟨([(Cell.mk x194.X x194.Y)], [(Cell.mk x194.X x194.Y)], v289, e291, v285, e287), (.c rfl (.c rfl (.c rfl (.c rfl .n)))), rfl, hp, r193, a200, m217, o292, o288⟩
      ·
        rintro ⟨x250, x254, v251, e252, v255, e256⟩ w258 ⟨hy, hp, r193, a200, m217, o253, o257⟩
        replace hy := hy.symm
        subst hy
        obtain ⟨y893, q894, h⟩ := bind_some h
        refine W.cut (γ := ((List Cell) × Value × Ent × (Nat → Prop))) (fun g => [(7, (g.2.1))]) (fun g w' => y893 = (g.1) ∧ Hp ⟨w0, I0, []⟩ (g.2.2.2) [(g.2.2.1)] w' ∧ OwnS dCell 26 w' (g.2.2.2) (g.2.1) (g.2.2.1) (g.1)) ?_ ?_
        ·
          apply go
          refine W.loop q894 (γ := (Value × Ent × Value × Ent × (Nat → Prop))) (fun s g => [(2, (.pointer (some (p198)))), (6, (.map (some g212))), (7, (g.1)), (8, (g.2.2.1))]) (fun s g w' => Hp ⟨w0, I0, []⟩ (g.2.2.2.2) [(g.2.1), (g.2.2.2.1)] w' ∧ RepS (dI .u8) w' (g.2.2.2.2) v192 x191.Cells ∧ At w' (g.2.2.2.2) p198 [(.int .i64 x191.W), (.int .i64 x191.H), v192] ∧ MapAt kc48 vc48 ⟨w0, I0, []⟩ w' (g.2.2.2.2) g212 (s.1) ∧ OwnS dCell 26 w' (g.2.2.2.2) (g.1) (g.2.1) (s.2.1) ∧ OwnS dCell 26 w' (g.2.2.2.2) (g.2.2.1) (g.2.2.2.1) (s.2.2)) (v251, e252, v255, e256, I213) (.c rfl (.c rfl (.c rfl (.c rfl .n)))) ⟨hp, r193, a200, m217, o253, o257⟩ ?_
          rintro ⟨x_0, x_1, x_2⟩ ⟨v_3, e_4, v_5, e_6, I_7⟩ w_8 y_9 ⟨hp, r193, a200, m_a, o_b, o_c⟩ q_d q_e
          unfold tour_Tour_L11 at q_d
          apply go
          apply go
          apply go
          refine ev0 (x_lenO rfl rfl Try.underlying28 o_c) ?_
          apply go
          refine sel_of (fun hc => ?_) (fun hc => ?_)
          ·
            have q_d := cond_t q_d hc
            apply go
            apply go
            apply go
            apply go
            refine ev0 (x_lenO rfl rfl Try.underlying28 o_c) ?_
            obtain ⟨x_f, q_g, q_d⟩ := bind_some q_d
            refine ev_indexO rfl rfl rfl Try.underlying28 T26 o_c q_g ?_
            intro g_h c_i h_j d_k l_l
            refine ev (rn_load rfl rfl (run_loadVarA T26 rfl (hp.atE (i := 1) rfl h_j (dCell_o d_k)))) ?_
            refine ev_alloc hp rfl T26 ?_
            intro g_m w_n hp hs
            replace a200 := a200.step hs
            replace r193 := r193.step hs
            replace m_a := m_a.step hs
            replace o_b := o_b.step hs
            replace o_c := o_c.step hs
            refine ev_storeA hp (i := 0) (off := 0) (vs := [(.int .i64 x_f.X), (.int .i64 x_f.Y)]) rfl rfl rfl rfl T26 rfl (Nat.le_of_ble_eq_true rfl) (ones_of rfl) ?_
            intro w_o hp hs
            replace a200 := a200.step hs
            replace r193 := r193.step hs
            replace m_a := m_a.step hs
            replace o_b := o_b.step hs
            replace o_c := o_c.step hs
            apply go
            apply go
            refine ev0 (fun w => rn_build (cs := [(.int .i64 0), (.int .i64 0)]) rfl rfl T26 PL26 rfl) ?_
            refine ev_alloc hp rfl T26 ?_
            intro g_p w_q hp hs
            replace a200 := a200.step hs
            replace r193 := r193.step hs
            replace m_a := m_a.step hs
            replace o_b := o_b.step hs
            replace o_c := o_c.step hs
            refine ev_storeA hp (i := 0) (off := 0) (vs := [(.int .i64 0), (.int .i64 0)]) rfl rfl rfl rfl T26 rfl (Nat.le_of_ble_eq_true rfl) (ones_of rfl) ?_
            intro w_r hp hs
            replace a200 := a200.step hs
            replace r193 := r193.step hs
            replace m_a := m_a.step hs
            replace o_b := o_b.step hs
            replace o_c := o_c.step hs
            obtain ⟨y_s, q_t, q_d⟩ := bind_some q_d
            refine W.cut (γ := (Int × Int × Bool × (Nat → Prop))) (fun g => [(2, (.pointer (some (p198)))), (6, (.map (some g212))), (7, v_3), (8, v_5), (10, (.pointer (some ⟨g_p, 0, none⟩))), (11, (.bool (g.2.2.1)))]) (fun g w' => y_s = ((g.1), (g.2.1), (g.2.2.1)) ∧ Hp ⟨w0, I0, []⟩ (g.2.2.2) [e_4, e_6, some (g_p, [(.int .i64 (g.1)), (.int .i64 (g.2.1))], 26)] w' ∧ RepS (dI .u8) w' (g.2.2.2) v192 x191.Cells ∧ At w' (g.2.2.2) p198 [(.int .i64 x191.W), (.int .i64 x191.H), v192] ∧ MapAt kc48 vc48 ⟨w0, I0, []⟩ w' (g.2.2.2) g212 x_0 ∧ OwnS dCell 26 w' (g.2.2.2) v_3 e_4 x_1 ∧ OwnS dCell 26 w' (g.2.2.2) v_5 e_6 x_2) ?_ ?_
            ·
              apply go
              apply go
              refine ev (rn_load rfl rfl (run_loadVarA T26 rfl (hp.at_ (i := 1) rfl))) ?_
              obtain ⟨x_u, q_v, q_t⟩ := bind_some q_t
              refine ev_call rfl rfl C15 (((tour_sides_ok n) _ _  (Cell.mk x_f.X x_f.Y) hp.imm _ q_v).mono ?_)
              rintro _ w_w ⟨I_x, v_y, hv, hq, r_z⟩
              replace hv := hv.symm
              subst hv
              have hs := hq.st
              have hp := hp.join0 hq
              replace a200 := a200.step hs
              replace r193 := r193.step hs
              replace m_a := m_a.step hs
              replace o_b := o_b.step hs
              replace o_c := o_c.step hs
              apply go
              have hp := hp.perm [2, 3, 0] (by decide)
              refine W.loop q_t (γ := Unit) (fun s _ => [(2, (.pointer (some (p198)))), (6, (.map (some g212))), (7, v_3), (8, v_5), (10, (.pointer (some ⟨g_p, 0, none⟩))), (11, (.bool false)), (41, (.agg v_y.toArray)), (42, (.int .i64 (s)))]) (fun s _ w' => Hp ⟨w0, I0, []⟩ I_x [e_4, e_6, some (g_p, [(.int .i64 0), (.int .i64 0)], 26)] w' ∧ RepS (dI .u8) w' I_x v192 x191.Cells ∧ At w' I_x p198 [(.int .i64 x191.W), (.int .i64 x191.H), v192] ∧ MapAt kc48 vc48 ⟨w0, I0, []⟩ w' I_x g212 x_0 ∧ OwnS dCell 26 w' I_x v_3 e_4 x_1 ∧ OwnS dCell 26 w' I_x v_5 e_6 x_2 ∧ (dA 4 dCell).rep w' I_x v_y x_u) () (.c rfl (.c rfl (.c rfl (.c rfl (.c rfl (.c rfl (.c rfl (.c rfl .n)))))))) ⟨hp, r193, a200, m_a, o_b, o_c, r_z⟩ ?_
              rintro x_10 ⟨⟩ w_11 y_12 ⟨hp, r193, a200, m_a, o_b, o_c, r_z⟩ q_13 q_14
              unfold tour_Tour_L13 at q_13
              apply go
              apply go
              apply go
              apply go
              refine sel_of (fun hc => ?_) (fun hc => ?_)
              ·
                have q_13 := cond_t q_13 hc
                apply go
                apply go
                apply go
                apply go
                apply go
                obtain ⟨x_15, q_16, q_13⟩ := bind_some q_13
                refine ev0 (rn_indexVA rfl rfl rfl Try.underlying49 T26 r_z q_16 dCell_o) ?_
                refine ev_alloc hp rfl T26 ?_
                intro g_17 w_18 hp hs
                replace a200 := a200.step hs
                replace r193 := r193.step hs
                replace m_a := m_a.step hs
                replace o_b := o_b.step hs
                replace o_c := o_c.step hs
                replace r_z := r_z.step hs
                refine ev_storeA hp (i := 0) (off := 0) (vs := [(.int .i64 x_15.X), (.int .i64 x_15.Y)]) rfl rfl rfl rfl T26 rfl (Nat.le_of_ble_eq_true rfl) (ones_of rfl) ?_
                intro w_19 hp hs
                replace a200 := a200.step hs
                replace r193 := r193.step hs
                replace m_a := m_a.step hs
                replace o_b := o_b.step hs
                replace o_c := o_c.step hs
                replace r_z := r_z.step hs
                obtain ⟨y_1a, q_1b, q_13⟩ := bind_some q_13
                refine W.cut (γ := Bool) (fun g => [(2, (.pointer (some (p198)))), (6, (.map (some g212))), (7, v_3), (8, v_5), (10, (.pointer (some ⟨g_p, 0, none⟩))), (11, (.bool false)), (13, (.pointer (some ⟨g_17, 0, none⟩))), (41, (.agg v_y.toArray)), (42, (.int .i64 x_10)), (53, (.bool (g)))]) (fun g w' => y_1a = (g) ∧ Hp ⟨w0, I0, []⟩ I_x [e_4, e_6, some (g_p, [(.int .i64 0), (.int .i64 0)], 26), some (g_17, [(.int .i64 x_15.X), (.int .i64 x_15.Y)], 26)] w' ∧ RepS (dI .u8) w' I_x v192 x191.Cells ∧ At w' I_x p198 [(.int .i64 x191.W), (.int .i64 x191.H), v192] ∧ MapAt kc48 vc48 ⟨w0, I0, []⟩ w' I_x g212 x_0 ∧ OwnS dCell 26 w' I_x v_3 e_4 x_1 ∧ OwnS dCell 26 w' I_x v_5 e_6 x_2 ∧ (dA 4 dCell).rep w' I_x v_y x_u) ?_ ?_
                ·
                  apply go
                  refine ev (rn_load rfl rfl (run_loadVarA T24 rfl a200)) ?_
                  refine ev (rn_load rfl rfl (run_loadVarA T26 rfl (hp.at_ (i := 0) rfl))) ?_
                  obtain ⟨x_1c, q_1d, q_1b⟩ := bind_some q_1b
                  refine ev_call rfl rfl C14 (((tour_free_ok n) _ _  (Plan.mk x191.W x191.H x191.Cells) v192 r193 (Cell.mk x_15.X x_15.Y) hp.imm _ q_1d).mono ?_)
                  rintro _ w_1e ⟨rfl, hc⟩
                  have hs := hp.stp hc
                  replace hp := hp.ext hc
                  replace a200 := a200.step hs
                  replace r193 := r193.step hs
                  replace m_a := m_a.step hs
                  replace o_b := o_b.step hs
                  replace o_c := o_c.step hs
                  replace r_z := r_z.step hs
                  refine sel_of (fun hc => ?_) (fun hc => ?_)
                  ·
                    have q_1b := cond_t q_1b hc
                    refine ev (rn_load rfl rfl (run_loadVarA T26 rfl (hp.at_ (i := 0) rfl))) ?_
                    refine ev (rn_lookup (k := (Cell.mk x_15.X x_15.Y)) (v0 := false) rfl rfl rfl Try.underlying48 KE48 T4 rfl m_a) ?_
                    obtain rfl := Option.some.inj q_1b
                    have hp := hp.perm [1, 2, 3, 0] (by decide)
                    exact ⟨(!((mget ke48 (Cell.mk x_15.X x_15.Y) x_0).getD false)), (.c rfl (.c rfl (.c rfl (.c rfl (.c rfl (.c rfl (.c rfl (.c rfl (.c rfl (.c rfl .n)))))))))), rfl, hp, r193, a200, m_a, o_b, o_c, r_z⟩
                  ·
                    have q_1b := cond_f q_1b hc
                    obtain rfl := Option.some.inj q_1b
                    have hp := hp.perm [1, 2, 3, 0] (by decide)
                    exact ⟨false, (.c rfl (.c rfl (.c rfl (.c rfl (.c rfl (.c rfl (.c rfl (.c rfl (.c rfl (.c rfl .n)))))))))), rfl, hp, r193, a200, m_a, o_b, o_c, r_z⟩
                ·
                  rintro x_1f w_1g ⟨hy, hp, r193, a200, m_a, o_b, o_c, r_z⟩
                  replace hy := hy.symm
                  subst hy
                  apply go
                  refine sel_of (fun hc => ?_) (fun hc => ?_)
                  ·
                    have q_13 := cond_t q_13 hc
                    apply go
                    apply go
                    refine ev (rn_load rfl rfl (run_loadVarA T26 rfl (hp.at_ (i := 3) rfl))) ?_
                    refine ev_storeA hp (i := 2) (off := 0) (vs := [(.int .i64 x_15.X), (.int .i64 x_15.Y)]) rfl rfl rfl rfl T26 rfl (Nat.le_of_ble_eq_true rfl) (ones_of rfl) ?_
                    intro w_1h hp hs
                    replace a200 := a200.step hs
                    replace r193 := r193.step hs
                    replace m_a := m_a.step hs
                    replace o_b := o_b.step hs
                    replace o_c := o_c.step hs
                    apply go
                    have q_1i := congrArg some (q_14 _ (Option.some.inj q_13).symm)
                    obtain rfl := Option.some.inj q_1i
                    have hp := hp.sel [0, 1, 2] (by decide)
                    exact ⟨(x_15.X, x_15.Y, true, I_x), (.c rfl (.c rfl (.c rfl (.c rfl (.c rfl (.c rfl .n)))))), rfl, hp, r193, a200, m_a, o_b, o_c⟩
                  ·
                    have q_13 := cond_f q_13 hc
                    apply go
                    apply go
                    have hp := hp.sel [0, 1, 2] (by decide)
                    exact ⟨_, (Option.some.inj q_13).symm, (), (.c rfl (.c rfl (.c rfl (.c rfl (.c rfl (.c rfl (.c rfl (.c rfl .n)))))))), ⟨hp, r193, a200, m_a, o_b, o_c, r_z⟩⟩
              ·
                have q_13 := cond_f q_13 hc
                apply go
                have q_1j := congrArg some (q_14 _ (Option.some.inj q_13).symm)
                obtain rfl := Option.some.inj q_1j
                exact ⟨(0, 0, false, I_x), (.c rfl (.c rfl (.c rfl (.c rfl (.c rfl (.c rfl .n)))))), rfl, hp, r193, a200, m_a, o_b, o_c⟩
            ·
              rintro ⟨x_1k, x_1l, x_1m, I_1n⟩ w_1o ⟨hy, hp, r193, a200, m_a, o_b, o_c⟩
              replace hy := hy.symm
              subst hy
              apply go
              apply go
              apply go
              apply go
              refine sel_of (fun hc => ?_) (fun hc => ?_)
              ·
                have q_d := cond_t q_d hc
                apply go
                apply go
                refine ev (rn_load rfl rfl (run_loadVarA T26 rfl (hp.at_ (i := 2) rfl))) ?_
                refine ev_mapUpdate (k := (Cell.mk x_1k x_1l)) (v := true) hp rfl rfl rfl rfl Try.underlying48 KE48 m_a ?_
                intro w_1p hp hs m_1q
                replace a200 := a200.wk hs
                replace r193 := r193.wk hs
                replace o_b := o_b.wk hs
                replace o_c := o_c.wk hs
                apply go
                apply go
                refine ev (rn_load rfl rfl (run_loadVarA T26 rfl (hp.at_ (i := 2) rfl))) ?_
                refine ev_litN (d := dCell) (xs := [(Cell.mk x_1k x_1l)]) (cs := [(.int .i64 x_1k), (.int .i64 x_1l)]) hp rfl rfl Try.underlying28 T26 (by decide) rfl rfl (Elems.cons (d := dCell) (xs := _) dCell_m (Elems.nil _ _ _ _)) ?_
                intro v_1r I_1s w_1t hp hs r_1u
                replace a200 := a200.step hs
                replace r193 := r193.step hs
                replace m_1q := m_1q.step hs
                replace o_b := o_b.step hs
                replace o_c := o_c.step hs
                obtain ⟨x_1v, q_1w, q_d⟩ := bind_some q_d
                refine ev_append hp (i := 1) rfl rfl rfl rfl Try.underlying28 T26 rfl rfl o_c r_1u q_1w ?_
                rintro v_1x e_1y w_1z hp hs o_20
                replace a200 := a200.step hs
                replace r193 := r193.step hs
                replace m_1q := m_1q.step hs
                replace o_b := o_b.step hs
                apply go
                apply go
                refine ev (rn_load rfl rfl (run_loadVarA T26 rfl (hp.at_ (i := 2) rfl))) ?_
                refine ev_litN (d := dCell) (xs := [(Cell.mk x_1k x_1l)]) (cs := [(.int .i64 x_1k), (.int .i64 x_1l)]) hp rfl rfl Try.underlying28 T26 (by decide) rfl rfl (Elems.cons (d := dCell) (xs := _) dCell_m (Elems.nil _ _ _ _)) ?_
                intro v_21 I_22 w_23 hp hs r_24
                replace a200 := a200.step hs
                replace r193 := r193.step hs
                replace m_1q := m_1q.step hs
                replace o_20 := o_20.step hs
                replace o_b := o_b.step hs
                obtain ⟨x_25, q_26, q_d⟩ := bind_some q_d
                refine ev_append hp (i := 0) rfl rfl rfl rfl Try.underlying28 T26 rfl rfl o_b r_24 q_26 ?_
                rintro v_27 e_28 w_29 hp hs o_2a
                replace a200 := a200.step hs
                replace r193 := r193.step hs
                replace m_1q := m_1q.step hs
                replace o_20 := o_20.step hs
                apply go
                have hp := hp.sel [0, 1] (by decide)
                exact ⟨_, (Option.some.inj q_d).symm, (v_27, e_28, v_1x, e_1y, I_22), (.c rfl (.c rfl (.c rfl (.c rfl .n)))), ⟨hp, r193, a200, m_1q, o_2a, o_20⟩⟩
              ·
                have q_d := cond_f q_d hc
                apply go
                apply go
                apply go
                refine ev0 (x_lenO rfl rfl Try.underlying28 o_c) ?_
                obtain ⟨x_2b, q_2c, q_d⟩ := bind_some q_d
                refine ev_cutO (kl := .i64) (kh := .i64) rfl rfl rfl rfl Try.underlying28 T26 o_c q_2c ?_
                intro v_2d o_2e
                apply go
                apply go
                refine ev0 (x_lenO rfl rfl Try.underlying28 o_2e) ?_
                apply go
                refine sel_of (fun hc => ?_) (fun hc => ?_)
                ·
                  have q_d := cond_t q_d hc
                  apply go
                  refine ev0 (x_lenO rfl rfl Try.underlying28 o_2e) ?_
                  obtain ⟨x_2f, q_2g, q_d⟩ := bind_some q_d
                  refine ev_indexO rfl rfl rfl Try.underlying28 T26 o_2e q_2g ?_
                  intro g_2h c_2i h_2j d_2k l_2l
                  refine ev (rn_load rfl rfl (run_loadVarA T26 rfl (hp.atE (i := 1) rfl h_2j (dCell_o d_2k)))) ?_
                  refine ev_litN (d := dCell) (xs := [x_2f]) (cs := [(.int .i64 x_2f.X), (.int .i64 x_2f.Y)]) hp rfl rfl Try.underlying28 T26 (by decide) rfl rfl (Elems.cons (d := dCell) (xs := _) dCell_m (Elems.nil _ _ _ _)) ?_
                  intro v_2m I_2n w_2o hp hs r_2p
                  replace a200 := a200.step hs
                  replace r193 := r193.step hs
                  replace m_a := m_a.step hs
                  replace o_2e := o_2e.step hs
                  replace o_b := o_b.step hs
                  obtain ⟨x_2q, q_2r, q_d⟩ := bind_some q_d
                  refine ev_append hp (i := 0) rfl rfl rfl rfl Try.underlying28 T26 rfl rfl o_b r_2p q_2r ?_
                  rintro v_2s e_2t w_2u hp hs o_2v
                  replace a200 := a200.step hs
                  replace r193 := r193.step hs
                  replace m_a := m_a.step hs
                  replace o_2e := o_2e.step hs
                  have hp := hp.sel [0, 1] (by decide)
                  exact ⟨_, (Option.some.inj q_d).symm, (v_2s, e_2t, v_2d, e_6, I_2n), (.c rfl (.c rfl (.c rfl (.c rfl .n)))), ⟨hp, r193, a200, m_a, o_2v, o_2e⟩⟩
                ·
                  have q_d := cond_f q_d hc
                  apply go
                  have hp := hp.sel [0, 1] (by decide)
                  exact ⟨_, (Option.some.inj q_d).symm, (v_3, e_4, v_2d, e_6, I_1n), (.c rfl (.c rfl (.c rfl (.c rfl .n)))), ⟨hp, r193, a200, m_a, o_b, o_2e⟩⟩
          ·
            have q_d := cond_f q_d hc
            apply go
            have q_2w := congrArg some (q_e _ (Option.some.inj q_d).symm)
            obtain rfl := Option.some.inj q_2w
            have hp := hp.sel [0] (by decide)
            exact ⟨(x_1, v_3, e_4, I_7), (.c rfl .n), rfl, hp, o_b⟩
        ·
          rintro ⟨x887, v888, e889, I891⟩ w892 ⟨hy, hp, o890⟩
          replace hy := hy.symm
          subst hy
          apply go
          apply go
          apply go
          obtain rfl := Option.some.inj h
          have r_2x := o890.frz hp (i := 0) rfl
          obtain ⟨hp, hs⟩ := freeze_hp hp (i := 0) rfl
          have hp := hp.sel [] (by decide)
          exact ⟨(Ad I891 e889), v888, rfl, hp, r_2x⟩

end Go.Proofs.Ytcdboppghnchpaa

namespace Go.Proofs.Ytcdboppghnchpaa
open Go Go.Proofs.Ytcdboppghnchpaa.Gw Go.RowKit
set_option linter.unusedVariables false
attribute [local irreducible] Ev EvQ EvS EvH
def path_free_S (f : Plan → Cell → Option Bool) : Prop := ∀ (w0 : World) (I0 : Nat → Prop) (x_0 : Plan) (v_1 : Value) (r_2 : RepS (dI .u8) w0 I0 v_1 x_0.Cells) (x_3 : Cell) (hI : ∀ g, I0 g → g < w0.heap.size) (r : Bool), f x_0 x_3 = some r →
    Ret Try.prog 22 #[(.agg #[(.int .i64 x_0.W), (.int .i64 x_0.H), v_1]), (.agg #[(.int .i64 x_3.X), (.int .i64 x_3.Y)])] w0 fun v w1 => v = (.bool r) ∧ Ch [] w0 w1
theorem path_free_ok (n : Nat) : path_free_S (path_free n) := by
  intro w0 I0 x_0 v_1 r_2 x_3 hI r h
  unfold path_free at h
  refine enter Try.func22 rfl (Nat.le_of_ble_eq_true rfl) ?_
  have hp : Hp ⟨w0, I0, []⟩ I0 [] w0 := Hp.start hI
  apply go
  apply go
  refine ev_boxI hp rfl rfl ?_
  intro p_4 I_5 w_6 hp hs a_7
  replace r_2 := r_2.step hs
  refine ev_boxI hp rfl rfl ?_
  intro p_8 I_9 w_a hp hs a_b
  replace a_7 := a_7.step hs
  replace r_2 := r_2.step hs
  obtain ⟨y_c, q_d, h⟩ := bind_some h
  refine W.cut (γ := Bool) (fun g => [(4, (.bool (g)))]) (fun g w' => y_c = (g) ∧ w_a = w') ?_ ?_
  ·
    apply go
    refine ev0 (rn_field rfl rfl FO26_0) ?_
    refine ev (rn_load rfl rfl (run_loadVar1 T3 (a_b.2 0 _ rfl))) ?_
    refine sel_of (fun hc => ?_) (fun hc => ?_)
    ·
      have q_d := cond_t q_d hc
      refine ev0 (rn_field rfl rfl FO26_1) ?_
      refine ev (rn_load rfl rfl (run_loadVar1 T3 (a_b.2 1 _ rfl))) ?_
      refine sel_of (fun hc => ?_) (fun hc => ?_)
      ·
        have q_d := cond_t q_d hc
        refine ev0 (rn_field rfl rfl FO26_0) ?_
        refine ev (rn_load rfl rfl (run_loadVar1 T3 (a_b.2 0 _ rfl))) ?_
        refine ev0 (rn_field rfl rfl FO24_0) ?_
        refine ev (rn_load rfl rfl (run_loadVar1 T3 (a_7.2 0 _ rfl))) ?_
        refine sel_of (fun hc => ?_) (fun hc => ?_)
        ·
          have q_d := cond_t q_d hc
          refine ev0 (rn_field rfl rfl FO26_1) ?_
          refine ev (rn_load rfl rfl (run_loadVar1 T3 (a_b.2 1 _ rfl))) ?_
          refine ev0 (rn_field rfl rfl FO24_1) ?_
          refine ev (rn_load rfl rfl (run_loadVar1 T3 (a_7.2 1 _ rfl))) ?_
          refine sel_of (fun hc => ?_) (fun hc => ?_)
          ·
            have q_d := cond_t q_d hc
            refine ev0 (rn_field rfl rfl FO24_2) ?_
            refine ev (rn_load rfl rfl (run_loadVar1 T22 (a_7.2 2 _ rfl))) ?_
            refine ev0 (rn_field rfl rfl FO26_1) ?_
            refine ev (rn_load rfl rfl (run_loadVar1 T3 (a_b.2 1 _ rfl))) ?_
            refine ev0 (rn_field rfl rfl FO24_0) ?_
            refine ev (rn_load rfl rfl (run_loadVar1 T3 (a_7.2 0 _ rfl))) ?_
            refine ev0 (rn_field rfl rfl FO26_0) ?_
            refine ev (rn_load rfl rfl (run_loadVar1 T3 (a_b.2 0 _ rfl))) ?_
            obtain ⟨x_e, q_f, q_d⟩ := bind_some q_d
            refine ev_index rfl rfl rfl Try.underlying22 T5 r_2 q_f ?_
            intro p_g c_h d_i a_j
            obtain rfl : c_h = [(.int .u8 x_e)] := d_i
            refine ev (rn_load rfl rfl (run_loadVar1 T5 (a_j.2 0 _ rfl))) ?_
            obtain rfl := Option.some.inj q_d
            exact ⟨(x_e == 1), (.c rfl .n), rfl, rfl⟩
          ·
            have q_d := cond_f q_d hc
            obtain rfl := Option.some.inj q_d
            exact ⟨false, (.c rfl .n), rfl, rfl⟩
        ·
          have q_d := cond_f q_d hc
          obtain rfl := Option.some.inj q_d
          exact ⟨false, (.c rfl .n), rfl, rfl⟩
      ·
        have q_d := cond_f q_d hc
        obtain rfl := Option.some.inj q_d
        exact ⟨false, (.c rfl .n), rfl, rfl⟩
    ·
      have q_d := cond_f q_d hc
      obtain rfl := Option.some.inj q_d
      exact ⟨false, (.c rfl .n), rfl, rfl⟩
  ·
    rintro x_k _ ⟨hy, rfl⟩
    replace hy := hy.symm
    subst hy
    apply go
    obtain rfl := Option.some.inj h
    exact ⟨rfl, hp.ch⟩

end Go.Proofs.Ytcdboppghnchpaa

namespace Go.Proofs.Ytcdboppghnchpaa
open Go Go.Proofs.Ytcdboppghnchpaa.Gw Go.RowKit
set_option linter.unusedVariables false
attribute [local irreducible] Ev EvQ EvS EvH
def path_turns_S (f : Option (List Cell)) : Prop := ∀ (w0 : World) (I0 : Nat → Prop)  (hI : ∀ g, I0 g → g < w0.heap.size) (r : (List Cell)), f  = some r →
    Ret Try.prog 24 #[] w0 fun v w1 => ∃ (I1 : Nat → Prop) (u_0 : List Value), v = (.agg u_0.toArray) ∧ Hp ⟨w0, I0, []⟩ I1 [] w1 ∧ (dA 8 dCell).rep w1 I1 u_0 r
theorem path_turns_ok (n : Nat) : path_turns_S (path_turns n) := by
  intro w0 I0 hI r h
  unfold path_turns at h
  refine enter Try.func24 rfl (Nat.le_of_ble_eq_true rfl) ?_
  have hp : Hp ⟨w0, I0, []⟩ I0 [] w0 := Hp.start hI
  apply go
  apply go
  refine ev_allocA (d := (dA 8 dCell)) (x0 := (List.replicate 8 (Cell.mk 0 0))) hp rfl T60 (fun _ _ => (rep_zero 8 (dCell_m (x := (Cell.mk 0 0))))) ?_
  intro g_0 c_1 w_2 hp hs r_3
  apply go
  apply go
  refine ev0 (fun w => rn_build (cs := [(.int .i64 1), (.int .i64 0)]) rfl rfl T26 PL26 rfl) ?_
  refine ev0 (fun w => rn_build (cs := [(.int .i64 1), (.int .i64 1)]) rfl rfl T26 PL26 rfl) ?_
  refine ev0 (fun w => rn_build (cs := [(.int .i64 0), (.int .i64 1)]) rfl rfl T26 PL26 rfl) ?_
  refine ev0 (fun w => rn_build (cs := [(.int .i64 (-1)), (.int .i64 1)]) rfl rfl T26 PL26 rfl) ?_
  refine ev0 (fun w => rn_build (cs := [(.int .i64 (-1)), (.int .i64 0)]) rfl rfl T26 PL26 rfl) ?_
  refine ev0 (fun w => rn_build (cs := [(.int .i64 (-1)), (.int .i64 (-1))]) rfl rfl T26 PL26 rfl) ?_
  refine ev0 (fun w => rn_build (cs := [(.int .i64 0), (.int .i64 (-1))]) rfl rfl T26 PL26 rfl) ?_
  refine ev0 (fun w => rn_build (cs := [(.int .i64 1), (.int .i64 (-1))]) rfl rfl T26 PL26 rfl) ?_
  refine ev0 (fun w => rn_buildA (cs := [(.int .i64 1), (.int .i64 0), (.int .i64 1), (.int .i64 1), (.int .i64 0), (.int .i64 1), (.int .i64 (-1)), (.int .i64 1), (.int .i64 (-1)), (.int .i64 0), (.int .i64 (-1)), (.int .i64 (-1)), (.int .i64 0), (.int .i64 (-1)), (.int .i64 1), (.int .i64 (-1))]) rfl rfl T60 Try.underlying60 T26 (by kernel_rfl)) ?_
  have r_4 : (dA 8 dCell).rep w_2 I0 [(.int .i64 1), (.int .i64 0), (.int .i64 1), (.int .i64 1), (.int .i64 0), (.int .i64 1), (.int .i64 (-1)), (.int .i64 1), (.int .i64 (-1)), (.int .i64 0), (.int .i64 (-1)), (.int .i64 (-1)), (.int .i64 0), (.int .i64 (-1)), (.int .i64 1), (.int .i64 (-1))] [(Cell.mk 1 0), (Cell.mk 1 1), (Cell.mk 0 1), (Cell.mk (-1) 1), (Cell.mk (-1) 0), (Cell.mk (-1) (-1)), (Cell.mk 0 (-1)), (Cell.mk 1 (-1))] := ⟨rfl, rfl, (Elems.cons (d := dCell) (xs := _) dCell_m (Elems.cons (d := dCell) (xs := _) dCell_m (Elems.cons (d := dCell) (xs := _) dCell_m (Elems.cons (d := dCell) (xs := _) dCell_m (Elems.cons (d := dCell) (xs := _) dCell_m (Elems.cons (d := dCell) (xs := _) dCell_m (Elems.cons (d := dCell) (xs := _) dCell_m (Elems.cons (d := dCell) (xs := _) dCell_m (Elems.nil _ _ _ _)))))))))⟩
  refine ev_storeW (d := (dA 8 dCell)) hp (i := 0) rfl rfl rfl rfl T60 rfl r_3 r_4 ?_
  intro w_5 hp hs r_6
  apply go
  obtain rfl := Option.some.inj h
  refine ⟨_, run_loadVarA T60 (Desc.len _ r_6) (hp.at_ (i := 0) rfl), ?_⟩
  have hp := hp.sel [] (by decide)
  exact ⟨I0, [(.int .i64 1), (.int .i64 0), (.int .i64 1), (.int .i64 1), (.int .i64 0), (.int .i64 1), (.int .i64 (-1)), (.int .i64 1), (.int .i64 (-1)), (.int .i64 0), (.int .i64 (-1)), (.int .i64 (-1)), (.int .i64 0), (.int .i64 (-1)), (.int .i64 1), (.int .i64 (-1))], rfl, hp, r_6⟩

end Go.Proofs.Ytcdboppghnchpaa

namespace Go.Proofs.Ytcdboppghnchpaa
open Go Go.Proofs.Ytcdboppghnchpaa.Gw Go.RowKit
set_option linter.unusedVariables false
attribute [local irreducible] Ev EvQ EvS EvH
def path_cost_S (f : Plan → Cell → Cell → Option (Cell × Int × Bool)) : Prop := ∀ (w0 : World) (I0 : Nat → Prop) (x_0 : Plan) (v_1 : Value) (r_2 : RepS (dI .u8) w0 I0 v_1 x_0.Cells) (x_3 : Cell) (x_4 : Cell) (hI : ∀ g, I0 g → g < w0.heap.size) (r : (Cell × Int × Bool)), f x_0 x_3 x_4 = some r →
    Ret Try.prog 25 #[(.agg #[(.int .i64 x_0.W), (.int .i64 x_0.H), v_1]), (.agg #[(.int .i64 x_3.X), (.int .i64 x_3.Y)]), (.agg #[(.int .i64 x_4.X), (.int .i64 x_4.Y)])] w0 fun v w1 => v = (.tuple #[(.agg #[(.int .i64 r.1.X), (.int .i64 r.1.Y)]), (.int .i64 r.2.1), (.bool r.2.2)]) ∧ Ch [] w0 w1
theorem path_cost_ok (n : Nat) : path_cost_S (path_cost n) := by
  intro w0 I0 x_0 v_1 r_2 x_3 x_4 hI r h
  unfold path_cost at h
  refine enter Try.func25 rfl (Nat.le_of_ble_eq_true rfl) ?_
  have hp : Hp ⟨w0, I0, []⟩ I0 [] w0 := Hp.start hI
  apply go
  apply go
  refine ev_boxI hp rfl rfl ?_
  intro p_5 I_6 w_7 hp hs a_8
  replace r_2 := r_2.step hs
  refine ev_boxI hp rfl rfl ?_
  intro p_9 I_a w_b hp hs a_c
  replace a_8 := a_8.step hs
  replace r_2 := r_2.step hs
  refine ev_boxI hp rfl rfl ?_
  intro p_d I_e w_f hp hs a_g
  replace a_8 := a_8.step hs
  replace r_2 := r_2.step hs
  replace a_c := a_c.step hs
  refine ev_alloc hp rfl T26 ?_
  intro g_h w_i hp hs
  replace a_8 := a_8.step hs
  replace r_2 := r_2.step hs
  replace a_c := a_c.step hs
  replace a_g := a_g.step hs
  apply go
  apply go
  refine ev0 (rn_field rfl rfl FO26_0) ?_
  refine ev (rn_load rfl rfl (run_loadVar1 T3 (a_c.2 0 _ rfl))) ?_
  refine ev0 (rn_field rfl rfl FO26_0) ?_
  refine ev (rn_load rfl rfl (run_loadVar1 T3 (a_g.2 0 _ rfl))) ?_
  refine ev0 (rn_field rfl rfl FO26_1) ?_
  refine ev (rn_load rfl rfl (run_loadVar1 T3 (a_c.2 1 _ rfl))) ?_
  refine ev0 (rn_field rfl rfl FO26_1) ?_
  refine ev (rn_load rfl rfl (run_loadVar1 T3 (a_g.2 1 _ rfl))) ?_
  refine ev0 (fun w => rn_build (cs := [(.int .i64 (IntKind.i64.wrap (x_3.X + x_4.X))), (.int .i64 (IntKind.i64.wrap (x_3.Y + x_4.Y)))]) rfl rfl T26 PL26 rfl) ?_
  refine ev_alloc hp rfl T26 ?_
  intro g_j w_k hp hs
  replace a_8 := a_8.step hs
  replace r_2 := r_2.step hs
  replace a_c := a_c.step hs
  replace a_g := a_g.step hs
  refine ev_storeA hp (i := 0) (off := 0) (vs := [(.int .i64 (IntKind.i64.wrap (x_3.X + x_4.X))), (.int .i64 (IntKind.i64.wrap (x_3.Y + x_4.Y)))]) rfl rfl rfl rfl T26 rfl (Nat.le_of_ble_eq_true rfl) (ones_of rfl) ?_
  intro w_l hp hs
  replace a_8 := a_8.step hs
  replace r_2 := r_2.step hs
  replace a_c := a_c.step hs
  replace a_g := a_g.step hs
  apply go
  apply go
  obtain ⟨y_m, q_n, h⟩ := bind_some h
  refine W.cut (γ := Bool) (fun g => [(3, (.pointer (some (p_5)))), (4, (.pointer (some (p_9)))), (5, (.pointer (some (p_d)))), (6, (.pointer (some ⟨g_h, 0, none⟩))), (9, (.pointer (some ⟨g_j, 0, none⟩))), (21, (.bool (g)))]) (fun g w' => y_m = (g) ∧ Hp ⟨w0, I0, []⟩ I_e [some (g_h, [(.int .i64 0), (.int .i64 0)], 26), some (g_j, [(.int .i64 (IntKind.i64.wrap (x_3.X + x_4.X))), (.int .i64 (IntKind.i64.wrap (x_3.Y + x_4.Y)))], 26)] w' ∧ RepS (dI .u8) w' I_e v_1 x_0.Cells ∧ At w' I_e p_5 [(.int .i64 x_0.W), (.int .i64 x_0.H), v_1] ∧ At w' I_e p_9 [(.int .i64 x_3.X), (.int .i64 x_3.Y)] ∧ At w' I_e p_d [(.int .i64 x_4.X), (.int .i64 x_4.Y)]) ?_ ?_
  ·
    apply go
    refine ev (rn_load rfl rfl (run_loadVarA T24 rfl a_8)) ?_
    refine ev (rn_load rfl rfl (run_loadVarA T26 rfl a_c)) ?_
    obtain ⟨x_o, q_p, q_n⟩ := bind_some q_n
    refine ev_call rfl rfl C22 (((path_free_ok n) _ _  (Plan.mk x_0.W x_0.H x_0.Cells) v_1 r_2 (Cell.mk x_3.X x_3.Y) hp.imm _ q_p).mono ?_)
    rintro _ w_q ⟨rfl, hc⟩
    have hs := hp.stp hc
    replace hp := hp.ext hc
    replace a_8 := a_8.step hs
    replace r_2 := r_2.step hs
    replace a_c := a_c.step hs
    replace a_g := a_g.step hs
    refine sel_of (fun hc => ?_) (fun hc => ?_)
    ·
      have q_n := cond_t q_n hc
      obtain rfl := Option.some.inj q_n
      have hp := hp.perm [1, 0] (by decide)
      exact ⟨true, (.c rfl (.c rfl (.c rfl (.c rfl (.c rfl (.c rfl .n)))))), rfl, hp, r_2, a_8, a_c, a_g⟩
    ·
      have q_n := cond_f q_n hc
      refine ev (rn_load rfl rfl (run_loadVarA T24 rfl a_8)) ?_
      refine ev (rn_load rfl rfl (run_loadVarA T26 rfl (hp.at_ (i := 0) rfl))) ?_
      obtain ⟨x_r, q_s, q_n⟩ := bind_some q_n
      refine ev_call rfl rfl C22 (((path_free_ok n) _ _  (Plan.mk x_0.W x_0.H x_0.Cells) v_1 r_2 (Cell.mk (IntKind.i64.wrap (x_3.X + x_4.X)) (IntKind.i64.wrap (x_3.Y + x_4.Y))) hp.imm _ q_s).mono ?_)
      rintro _ w_t ⟨rfl, hc⟩
      have hs := hp.stp hc
      replace hp := hp.ext hc
      replace a_8 := a_8.step hs
      replace r_2 := r_2.step hs
      replace a_c := a_c.step hs
      replace a_g := a_g.step hs
      obtain rfl := Option.some.inj q_n
      have hp := hp.perm [1, 0] (by decide)
      exact ⟨(!x_r), (.c rfl (.c rfl (.c rfl (.c rfl (.c rfl (.c rfl .n)))))), rfl, hp, r_2, a_8, a_c, a_g⟩
  ·
    rintro x_u w_v ⟨hy, hp, r_2, a_8, a_c, a_g⟩
    replace hy := hy.symm
    subst hy
    apply go
    refine sel_of (fun hc => ?_) (fun hc => ?_)
    ·
      have h := cond_t h hc
      apply go
      apply go
      refine ev (rn_load rfl rfl (run_loadVarA T26 rfl (hp.at_ (i := 1) rfl))) ?_
      refine ev_storeA hp (i := 0) (off := 0) (vs := [(.int .i64 (IntKind.i64.wrap (x_3.X + x_4.X))), (.int .i64 (IntKind.i64.wrap (x_3.Y + x_4.Y)))]) rfl rfl rfl rfl T26 rfl (Nat.le_of_ble_eq_true rfl) (ones_of rfl) ?_
      intro w_w hp hs
      apply go
      obtain rfl := Option.some.inj h
      refine ⟨_, run_loadVarA T26 rfl (hp.at_ (i := 0) rfl), ?_⟩
      exact ⟨rfl, hp.ch⟩
    ·
      have h := cond_f h hc
      obtain ⟨y_x, q_y, h⟩ := bind_some h
      refine W.cut (γ := Bool) (fun g => [(3, (.pointer (some (p_5)))), (4, (.pointer (some (p_9)))), (6, (.pointer (some ⟨g_h, 0, none⟩))), (9, (.pointer (some ⟨g_j, 0, none⟩))), (33, (.bool (g)))]) (fun g w' => y_x = (g) ∧ w_v = w') ?_ ?_
      ·
        apply go
        refine ev0 (rn_field rfl rfl FO26_0) ?_
        refine ev (rn_load rfl rfl (run_loadVar1 T3 (a_g.2 0 _ rfl))) ?_
        refine sel_of (fun hc => ?_) (fun hc => ?_)
        ·
          have q_y := cond_t q_y hc
          obtain rfl := Option.some.inj q_y
          exact ⟨true, (.c rfl (.c rfl (.c rfl (.c rfl (.c rfl .n))))), rfl, rfl⟩
        ·
          have q_y := cond_f q_y hc
          refine ev0 (rn_field rfl rfl FO26_1) ?_
          refine ev (rn_load rfl rfl (run_loadVar1 T3 (a_g.2 1 _ rfl))) ?_
          obtain rfl := Option.some.inj q_y
          exact ⟨(x_4.Y == 0), (.c rfl (.c rfl (.c rfl (.c rfl (.c rfl .n))))), rfl, rfl⟩
      ·
        rintro x_z _ ⟨hy, rfl⟩
        replace hy := hy.symm
        subst hy
        apply go
        refine sel_of (fun hc => ?_) (fun hc => ?_)
        ·
          have h := cond_t h hc
          apply go
          apply go
          refine ev (rn_load rfl rfl (run_loadVarA T26 rfl (hp.at_ (i := 1) rfl))) ?_
          refine ev_storeA hp (i := 0) (off := 0) (vs := [(.int .i64 (IntKind.i64.wrap (x_3.X + x_4.X))), (.int .i64 (IntKind.i64.wrap (x_3.Y + x_4.Y)))]) rfl rfl rfl rfl T26 rfl (Nat.le_of_ble_eq_true rfl) (ones_of rfl) ?_
          intro w_10 hp hs
          apply go
          obtain rfl := Option.some.inj h
          refine ⟨_, run_loadVarA T26 rfl (hp.at_ (i := 0) rfl), ?_⟩
          exact ⟨rfl, hp.ch⟩
        ·
          have h := cond_f h hc
          obtain ⟨y_11, q_12, h⟩ := bind_some h
          refine W.cut (γ := Bool) (fun g => [(6, (.pointer (some ⟨g_h, 0, none⟩))), (9, (.pointer (some ⟨g_j, 0, none⟩))), (43, (.bool (g)))]) (fun g w' => y_11 = (g) ∧ Hp ⟨w0, I0, []⟩ I_e [some (g_h, [(.int .i64 0), (.int .i64 0)], 26), some (g_j, [(.int .i64 (IntKind.i64.wrap (x_3.X + x_4.X))), (.int .i64 (IntKind.i64.wrap (x_3.Y + x_4.Y)))], 26)] w') ?_ ?_
          ·
            apply go
            refine ev (rn_load rfl rfl (run_loadVarA T24 rfl a_8)) ?_
            refine ev0 (rn_field rfl rfl FO26_0) ?_
            refine ev (rn_load rfl rfl (run_loadVar1 T3 (hp.cell (i := 1) (off := 0) rfl rfl))) ?_
            refine ev0 (rn_field rfl rfl FO26_1) ?_
            refine ev (rn_load rfl rfl (run_loadVar1 T3 (a_c.2 1 _ rfl))) ?_
            refine ev0 (fun w => rn_build (cs := [(.int .i64 (IntKind.i64.wrap (x_3.X + x_4.X))), (.int .i64 x_3.Y)]) rfl rfl T26 PL26 rfl) ?_
            obtain ⟨x_13, q_14, q_12⟩ := bind_some q_12
            refine ev_call rfl rfl C22 (((path_free_ok n) _ _  (Plan.mk x_0.W x_0.H x_0.Cells) v_1 r_2 (Cell.mk (IntKind.i64.wrap (x_3.X + x_4.X)) x_3.Y) hp.imm _ q_14).mono ?_)
            rintro _ w_15 ⟨rfl, hc⟩
            have hs := hp.stp hc
            replace hp := hp.ext hc
            replace a_8 := a_8.step hs
            replace r_2 := r_2.step hs
            replace a_c := a_c.step hs
            refine sel_of (fun hc => ?_) (fun hc => ?_)
            ·
              have q_12 := cond_t q_12 hc
              refine ev (rn_load rfl rfl (run_loadVarA T24 rfl a_8)) ?_
              refine ev0 (rn_field rfl rfl FO26_0) ?_
              refine ev (rn_load rfl rfl (run_loadVar1 T3 (a_c.2 0 _ rfl))) ?_
              refine ev0 (rn_field rfl rfl FO26_1) ?_
              refine ev (rn_load rfl rfl (run_loadVar1 T3 (hp.cell (i := 1) (off := 1) rfl rfl))) ?_
              refine ev0 (fun w => rn_build (cs := [(.int .i64 x_3.X), (.int .i64 (IntKind.i64.wrap (x_3.Y + x_4.Y)))]) rfl rfl T26 PL26 rfl) ?_
              obtain ⟨x_16, q_17, q_12⟩ := bind_some q_12
              refine ev_call rfl rfl C22 (((path_free_ok n) _ _  (Plan.mk x_0.W x_0.H x_0.Cells) v_1 r_2 (Cell.mk x_3.X (IntKind.i64.wrap (x_3.Y + x_4.Y))) hp.imm _ q_17).mono ?_)
              rintro _ w_18 ⟨rfl, hc⟩
              have hs := hp.stp hc
              replace hp := hp.ext hc
              obtain rfl := Option.some.inj q_12
              exact ⟨x_16, (.c rfl (.c rfl (.c rfl .n))), rfl, hp⟩
            ·
              have q_12 := cond_f q_12 hc
              obtain rfl := Option.some.inj q_12
              exact ⟨false, (.c rfl (.c rfl (.c rfl .n))), rfl, hp⟩
          ·
            rintro x_19 w_1a ⟨hy, hp⟩
            replace hy := hy.symm
            subst hy
            apply go
            refine sel_of (fun hc => ?_) (fun hc => ?_)
            ·
              have h := cond_t h hc
              apply go
              apply go
              refine ev (rn_load rfl rfl (run_loadVarA T26 rfl (hp.at_ (i := 1) rfl))) ?_
              refine ev_storeA hp (i := 0) (off := 0) (vs := [(.int .i64 (IntKind.i64.wrap (x_3.X + x_4.X))), (.int .i64 (IntKind.i64.wrap (x_3.Y + x_4.Y)))]) rfl rfl rfl rfl T26 rfl (Nat.le_of_ble_eq_true rfl) (ones_of rfl) ?_
              intro w_1b hp hs
              apply go
              obtain rfl := Option.some.inj h
              refine ⟨_, run_loadVarA T26 rfl (hp.at_ (i := 0) rfl), ?_⟩
              exact ⟨rfl, hp.ch⟩
            ·
              have h := cond_f h hc
              apply go
              apply go
              apply go
              refine ev (rn_load rfl rfl (run_loadVarA T26 rfl (hp.at_ (i := 1) rfl))) ?_
              refine ev_storeA hp (i := 0) (off := 0) (vs := [(.int .i64 (IntKind.i64.wrap (x_3.X + x_4.X))), (.int .i64 (IntKind.i64.wrap (x_3.Y + x_4.Y)))]) rfl rfl rfl rfl T26 rfl (Nat.le_of_ble_eq_true rfl) (ones_of rfl) ?_
              intro w_1c hp hs
              apply go
              obtain rfl := Option.some.inj h
              refine ⟨_, run_loadVarA T26 rfl (hp.at_ (i := 0) rfl), ?_⟩
              exact ⟨rfl, hp.ch⟩

end Go.Proofs.Ytcdboppghnchpaa

namespace Go.Proofs.Ytcdboppghnchpaa
open Go Go.Proofs.Ytcdboppghnchpaa.Gw Go.RowKit
set_option linter.unusedVariables false
attribute [local irreducible] Ev EvQ EvS EvH
end Go.Proofs.Ytcdboppghnchpaa

namespace Go.Proofs.Ytcdboppghnchpaa
open Go Go.Proofs.Ytcdboppghnchpaa.Gw Go.RowKit
set_option linter.unusedVariables false
attribute [local irreducible] Ev EvQ EvS EvH
def bits_Mul64_S (f : Int → Int → Option (Int × Int)) : Prop := ∀ (w0 : World) (I0 : Nat → Prop) (x1000885 : Int) (x1000886 : Int) (hI : ∀ g, I0 g → g < w0.heap.size) (r : (Int × Int)), f x1000885 x1000886 = some r →
    Ret Try.prog 63 #[(.int .u64 x1000885), (.int .u64 x1000886)] w0 fun v w1 => v = (.tuple #[(.int .u64 r.1), (.int .u64 r.2)]) ∧ Ch [] w0 w1
theorem bits_Mul64_ok (n : Nat) : bits_Mul64_S (bits_Mul64 n) := by
  intro w0 I0 x1000885 x1000886 hI r h
  unfold bits_Mul64 at h
  refine enter Try.func63 rfl (Nat.le_of_ble_eq_true rfl) ?_
  have hp : Hp ⟨w0, I0, []⟩ I0 [] w0 := Hp.start hI
  apply go
  apply go
  apply go
  apply go
  apply go
  apply go
  refine ⟨by decide, ?_⟩
  apply go
  apply go
  apply go
  apply go
  refine ⟨by decide, ?_⟩
  apply go
  apply go
  apply go
  apply go
  refine ⟨by decide, ?_⟩
  apply go
  apply go
  apply go
  apply go
  refine ⟨by decide, ?_⟩
  apply go
  apply go
  apply go
  apply go
  refine ⟨by decide, ?_⟩
  apply go
  apply go
  apply go
  obtain rfl := Option.some.inj h
  exact ⟨rfl, hp.ch⟩

end Go.Proofs.Ytcdboppghnchpaa

namespace Go.Proofs.Ytcdboppghnchpaa
open Go Go.Proofs.Ytcdboppghnchpaa.Gw Go.RowKit
set_option linter.unusedVariables false
attribute [local irreducible] Ev EvQ EvS EvH
def bits_Mul_S (f : Int → Int → Option (Int × Int)) : Prop := ∀ (w0 : World) (I0 : Nat → Prop) (x1000887 : Int) (x1000888 : Int) (hI : ∀ g, I0 g → g < w0.heap.size) (r : (Int × Int)), f x1000887 x1000888 = some r →
    Ret Try.prog 48 #[(.int .u64 x1000887), (.int .u64 x1000888)] w0 fun v w1 => v = (.tuple #[(.int .u64 r.1), (.int .u64 r.2)]) ∧ Ch [] w0 w1
theorem bits_Mul_ok (n : Nat) : bits_Mul_S (bits_Mul n) := by
  intro w0 I0 x1000887 x1000888 hI r h
  unfold bits_Mul at h
  refine enter Try.func48 rfl (Nat.le_of_ble_eq_true rfl) ?_
  have hp : Hp ⟨w0, I0, []⟩ I0 [] w0 := Hp.start hI
  apply go
  apply go
  apply go
  apply go
  apply go
  apply go
  apply go
  obtain ⟨⟨x1000889, x1000890⟩, q1000891, h⟩ := bind_some h
  refine ev_call rfl rfl C63 (((bits_Mul64_ok n) _ _  x1000887 x1000888 hp.imm _ q1000891).mono ?_)
  rintro _ w1000892 ⟨rfl, hc⟩
  have hs := hp.stp hc
  replace hp := hp.ext hc
  apply go
  apply go
  apply go
  obtain rfl := Option.some.inj h
  exact ⟨rfl, hp.ch⟩

end Go.Proofs.Ytcdboppghnchpaa

namespace Go.Proofs.Ytcdboppghnchpaa
open Go Go.Proofs.Ytcdboppghnchpaa.Gw Go.RowKit
set_option linter.unusedVariables false
attribute [local irreducible] Ev EvQ EvS EvH
def slices_Repeatint_int__S (f : (List Int) → Int → Option (List Int)) : Prop := ∀ (w0 : World) (I0 : Nat → Prop) (x_0 : (List Int)) (v_1 : Value) (r_2 : RepS (dI .i64) w0 I0 v_1 x_0) (x_3 : Int) (hI : ∀ g, I0 g → g < w0.heap.size) (r : (List Int)), f x_0 x_3 = some r →
    Ret Try.prog 33 #[v_1, (.int .i64 x_3)] w0 fun v w1 => ∃ (I1 : Nat → Prop) (u_4 : Value) (u_5 : Ent), v = u_4 ∧ Hp ⟨w0, I0, []⟩ I1 [u_5] w1 ∧ OwnS (dI .i64) 3 w1 I1 u_4 u_5 r

theorem U3r : (Try.prog.underlying 3).isSome = true := by kernel_rfl
theorem U70r : (Try.prog.underlying 70).isSome = true := by kernel_rfl
theorem C48r : CF Try.prog 48 := ⟨_, Try.func48, rfl, by kernel_rfl⟩
theorem mul_one (c : Int) (h0 : 1 ≤ c) (h1 : c ≤ 100000) : bits_Mul 0 (IntKind.u64.wrap (([(0 : Int)].length : Nat) : Int)) (IntKind.u64.wrap c) = some (0, c) := by
  have e1 : IntKind.u64.wrap (([(0 : Int)].length : Nat) : Int) = 1 := by decide
  have e2 : IntKind.u64.wrap c = c := wu64 (by omega) (by omega)
  rw [e1, e2]
  obtain ⟨n, rfl⟩ : ∃ n : Nat, c = n := ⟨c.toNat, by omega⟩
  have a1 : ib .and .u64 1 4294967295 = 1 := by decide
  have a2 : ib .and .u64 (n : Int) 4294967295 = n := by
    have hn : n < 4294967296 := by omega
    have h : (BitVec.ofInt 64 (n : Int) &&& BitVec.ofInt 64 (4294967295 : Int)).toNat = n := by
      rw [BitVec.toNat_and, show (BitVec.ofInt 64 (n : Int)).toNat = n by rw [BitVec.ofInt_natCast, BitVec.toNat_ofNat, Nat.mod_eq_of_lt (by omega)], show (BitVec.ofInt 64 (4294967295 : Int)).toNat = 2 ^ 32 - 1 by decide, Nat.and_two_pow_sub_one_eq_mod, Nat.mod_eq_of_lt (by omega)]
    show IntKind.u64.wrap ((BitVec.ofInt 64 (n : Int) &&& BitVec.ofInt 64 (4294967295 : Int)).toNat : Int) = _
    rw [h]; exact e2
  have s1 : (1 : Int).fdiv (2 ^ min (32 : Int).toNat (IntKind.u64).bits) = 0 := by decide
  have s2 : (n : Int).fdiv (2 ^ min (32 : Int).toNat (IntKind.u64).bits) = 0 := by
    show (n : Int).fdiv 4294967296 = 0
    rw [Int.fdiv_eq_ediv_of_nonneg _ (by omega)]; omega
  have z1 : ib .and .u64 0 4294967295 = 0 := by decide
  have s3 : (0 : Int).fdiv (2 ^ min (32 : Int).toNat (IntKind.u64).bits) = 0 := by decide
  have w0 : IntKind.u64.wrap 0 = 0 := by decide
  dsimp only [bits_Mul, bits_Mul64]
  simp only [a1, a2, s1, s2, Int.mul_zero, Int.zero_mul, Int.one_mul, Int.add_zero, w0, z1, s3, e2, Option.bind_some]
/-- The lengths that are copied: each is twice the one before it. -/
def repL (L : Int) : Int → Option (Out Int Unit)
  | k => cond (decide (k < L)) (some (.go (k + (if k < L - k then k else L - k)))) (some (.done ()))
theorem repL_ends (L : Int) : ∀ (n : Nat) (k : Int), 1 ≤ k → (L - k).toNat ≤ n → loopN (repL L) (n + 1) k = some ()
  | 0, k, h, hn => by
    have : ¬ k < L := by omega
    simp [loopN, repL, this]
  | n + 1, k, h, hn => by
    by_cases hk : k < L
    · have hd : decide (k < L) = true := by simpa using hk
      rw [loopN, repL, hd]
      exact repL_ends L n _ (by split <;> omega) (by split <;> omega)
    · simp [loopN, repL, hk]
theorem slices_Repeatint_int__ok (n : Nat) : slices_Repeatint_int__S (slices_Repeatint_int_ n) := by
  intro w0 I0 xs v r c hI res h
  unfold slices_Repeatint_int_ at h
  split at h
  case isFalse => cases h
  rename_i hc0
  obtain ⟨hl, hc1, hc2⟩ := hc0
  obtain ⟨x, rfl⟩ : ∃ x, xs = [x] := by
    cases xs with
    | nil => simp at hl
    | cons x xs => exact ⟨x, by simpa using hl⟩
  obtain rfl := Option.some.inj h
  refine enter Try.func33 rfl (Nat.le_of_ble_eq_true rfl) ?_
  have hp : Hp ⟨w0, I0, []⟩ I0 [] w0 := Hp.start hI
  have hlx : (([x].length : Nat) : Int) = 1 := rfl
  repeat apply go
  refine sel_f (decide_eq_false (by omega)) ?_
  repeat apply go
  refine ev0 (rn_len rfl rfl Try.underlying35 r) ?_
  refine ev0 (rn_conv rfl rfl U3r Try.underlying70) ?_
  refine ev0 (rn_conv rfl rfl U3r Try.underlying70) ?_
  refine ev_call rfl rfl C48r (((bits_Mul_ok 0) _ _ (IntKind.u64.wrap (([x].length : Nat) : Int)) (IntKind.u64.wrap c) hp.imm _ (mul_one c hc1 hc2)).mono ?_)
  rintro _ w2 ⟨rfl, hch⟩
  have hs := hp.stp hch
  replace hp := hp.ext hch
  replace r := r.step hs
  repeat apply go
  refine sel_f (decide_eq_false (by show ¬ c > 9223372036854775807; omega)) ?_
  repeat apply go
  refine ev0 (rn_conv rfl rfl U70r Try.underlying3) ?_
  have hw : IntKind.i64.wrap c = c := by rw [w64 (by omega) (by omega)]
  refine ev_make (d := (dI .i64)) (x0 := 0) hp rfl rfl rfl Try.underlying35 T3 (fun _ _ => rfl) (Nat.le_of_ble_eq_true rfl) (xs := List.replicate c.toNat 0) (by unfold Gw.mk; simp only [hw]; rw [if_pos (by omega)]) ?_
  intro v3 e3 w3 hp hs o3
  replace r := r.step hs
  rcases o3 with ⟨_, _, hn0⟩ | ⟨g, cs, q, rfl, rfl, h3, h4, h5, h7⟩
  · have := congrArg List.length hn0; simp at this; omega
  have h5 : cs.length = q := by rw [h5]; exact Nat.mul_one q
  rw [List.length_replicate] at *
  repeat apply go
  have hp' : Hp ⟨w0, I0, []⟩ I0 [some (g, cs, 3)] w3 := hp
  clear hp
  obtain ⟨a, k0, hv0, hk0, hrow⟩ := r
  obtain ⟨pa, hA, hrow2⟩ := hrow (by simp)
  clear hrow
  subst hA
  obtain ⟨cx, hcx, hat⟩ := hrow2.2 0 x rfl
  obtain rfl : cx = [.int .i64 x] := hcx
  subst hv0
  have hq1 : 1 ≤ q := by omega
  refine ev_copyI (cs := [.int .i64 x]) hp' (i := 0) rfl rfl rfl rfl Try.underlying35 T3 (Nat.min_eq_left (show 1 ≤ c.toNat by omega)).symm (fun j u hj => ?_) (show 0 + 1 ≤ cs.length by omega) (fun u hu => by simp at hu; subst hu; rfl) ?_
  · have := hat.2 j u hj
    simpa [Addr.add] using this
  intro w4 hp hs
  have hcs1 : (cs.take 0 ++ [Value.int .i64 x] ++ cs.drop (0 + [Value.int .i64 x].length)).length = q := by simp; omega
  have hpre : ∀ j, j < 1 → (cs.take 0 ++ [Value.int .i64 x] ++ cs.drop (0 + [Value.int .i64 x].length))[j]? = some (.int .i64 x) := fun j hj => by
    obtain rfl : j = 0 := by omega
    rfl
  generalize cs.take 0 ++ [Value.int .i64 x] ++ cs.drop (0 + [Value.int .i64 x].length) = cs1 at *
  clear hat hrow2
  refine W.cut (γ := List Value) (fun _ => [(7, .slice (some ⟨g, 0, none⟩) c.toNat q)]) (fun l w' => Hp ⟨w0, I0, []⟩ I0 [some (g, l, 3)] w' ∧ l.length = q ∧ ∀ j, j < c.toNat → l[j]? = some (.int .i64 x)) ?_ ?_
  · apply go
    refine W.loop (repL_ends c (c - 1).toNat 1 (by omega) (by omega)) (γ := List Value) (fun s _ => [(7, .slice (some ⟨g, 0, none⟩) c.toNat q), (8, .int .i64 s)])
      (fun s l w' => Hp ⟨w0, I0, []⟩ I0 [some (g, l, 3)] w' ∧ l.length = q ∧ 1 ≤ s ∧ s ≤ c ∧ ∀ j : Nat, (j : Int) < s → l[j]? = some (.int .i64 x)) cs1 (.c rfl (.c rfl .n)) ⟨hp, hcs1, by omega, by omega, fun j hj => hpre j (by omega)⟩ ?_
    rintro s l w5 o ⟨hp, hll, hs1, hs2, hpre⟩ ho hr
    unfold repL at ho
    apply go
    apply go
    apply go
    refine ev0 (rn_lenRaw rfl rfl Try.underlying35) ?_
    have hcc : ((c.toNat : Nat) : Int) = c := by omega
    apply go
    refine sel_of (fun hc => ?_) (fun hc => ?_)
    · rw [hcc] at hc
      have ho := cond_t ho hc
      have hsc : s < c := of_decide_eq_true hc
      obtain ⟨k, rfl⟩ : ∃ k : Nat, s = k := ⟨s.toNat, by omega⟩
      apply go
      apply go
      have hs := hp.stp (Ch.drew [] w5)
      have hp := hp.drew
      refine W.held [(0, true), (1, true), (2, true), (3, true), (4, true), (5, true), (6, true), (7, false), (8, true), (9, true)] (Stp I0 w5.drew I0) MX (by kernel_rfl) (Stp.refl _ _) ?_
      have hz := Stp.refl I0 w5.drew
      refine evh0 (rn_sliceLo (l := (k : Int)) rfl rfl rfl Try.underlying35 T3 (by omega) (by omega) h3) ?_
      refine evh0 (rn_sliceHi (l := (k : Int)) rfl rfl rfl Try.underlying35 T3 (by omega) (by omega) h3 hq1) ?_
      refine ev_copyI (cs := List.replicate (Nat.min k (c.toNat - k)) (.int .i64 x)) hp (i := 0) rfl rfl rfl rfl Try.underlying35 T3 (by rw [List.length_replicate]; rfl) (fun j u hj => ?_) ?_ (fun u hu => by rw [List.eq_of_mem_replicate hu]; rfl) ?_
      · rw [List.getElem?_replicate] at hj
        split at hj
        · rename_i hjm
          have hm : Nat.min k (c.toNat - k) ≤ k := Nat.min_le_left _ _
          rw [add_lit, Nat.zero_add, ← Option.some.inj hj]
          exact hp.cell (i := 0) rfl (hpre j (by omega))
        · cases hj
      · rw [List.length_replicate, hll]
        have hm : Nat.min k (c.toNat - k) ≤ c.toNat - k := Nat.min_le_right _ _
        omega
      intro w6 hp hs
      have hz := hz.trans hs
      refine ⟨Stp I0 w6 I0, Stp.refl _ _, fun x hx => hz.held hx, ?_⟩
      have hmn : ((Nat.min k (c.toNat - k) : Nat) : Int) = if (k : Int) < c - k then (k : Int) else c - k := by
        rcases Nat.lt_or_ge k (c.toNat - k) with h | h
        · rw [show Nat.min k (c.toNat - k) = k from Nat.min_eq_left (by omega), if_pos (by omega)]
        · rw [show Nat.min k (c.toNat - k) = c.toNat - k from Nat.min_eq_right h, if_neg (by omega)]; omega
      have e8 : IntKind.i64.wrap ((k : Int) + ((List.replicate (Nat.min k (c.toNat - k)) (Value.int .i64 x)).length : Int)) = (k : Int) + if (k : Int) < c - k then (k : Int) else c - k := by
        rw [List.length_replicate, hmn, w64 (by split <;> omega) (by split <;> omega)]
      have hm1 : Nat.min k (c.toNat - k) ≤ k := Nat.min_le_left _ _
      have hm2 : Nat.min k (c.toNat - k) ≤ c.toNat - k := Nat.min_le_right _ _
      refine ⟨_, (Option.some.inj ho).symm, _, (.c rfl (.c (congrArg (fun z => some (Value.int .i64 z)) e8) .n)), hp, ?_, ?_, ?_, fun j hj => ?_⟩
      · simp only [List.length_append, List.length_take, List.length_replicate, List.length_drop]; omega
      · split <;> omega
      · split <;> omega
      · rw [← hmn] at hj
        have hkl : (k : Int).toNat = k := rfl
        rw [hkl, List.append_assoc]
        rcases Nat.lt_or_ge j k with h | h
        · rw [List.getElem?_append_left (by rw [List.length_take]; omega), List.getElem?_take, if_pos h]; exact hpre j (by omega)
        · have ht : (l.take k).length = k := by rw [List.length_take]; omega
          rw [List.getElem?_append_right (by omega), ht, List.getElem?_append_left (by rw [List.length_replicate]; omega), List.getElem?_replicate, if_pos (by omega)]
    · rw [hcc] at hc
      have ho := cond_f ho hc
      have hsc : ¬ s < c := of_decide_eq_false hc
      apply go
      exact ⟨l, (.c rfl .n), hp, hll, fun j hj => hpre j (by omega)⟩
  · rintro l w5 ⟨hp, hll, hpre⟩
    repeat apply go
    refine ⟨I0, .slice (some ⟨g, 0, none⟩) c.toNat q, some (g, l, 3), rfl, hp, .inr ⟨g, l, q, ?_, rfl, ?_, h4, ?_, fun j y hy => ?_⟩⟩
    · rw [List.length_replicate]
    · rw [List.length_replicate]; exact h3
    · rw [hll]; exact (Nat.mul_one q).symm
    · have hjl := (List.getElem?_eq_some_iff.1 hy).1
      rw [List.length_replicate] at hjl
      rw [List.getElem?_replicate, if_pos hjl] at hy
      obtain rfl : x = y := Option.some.inj hy
      have hj := hpre j hjl
      show (l.drop (j * 1)).take 1 = [.int .i64 x]
      rw [Nat.mul_one, List.drop_eq_getElem_cons (by omega)]
      rw [List.getElem?_eq_getElem (by omega)] at hj
      rw [List.take_succ_cons, List.take_zero, Option.some.inj hj]

end Go.Proofs.Ytcdboppghnchpaa

namespace Go.Proofs.Ytcdboppghnchpaa
open Go Go.Proofs.Ytcdboppghnchpaa.Gw Go.RowKit
set_option linter.unusedVariables false
attribute [local irreducible] Ev EvQ EvS EvH
def path_heap_pop_S (f : (List Visit) → Option (Visit × (List Visit))) : Prop := ∀ (w0 : World) (I0 : Nat → Prop) (x_0 : (List Visit)) (g_1 : Nat) (E_2 : List Ent) (q_3 : qH w0 I0 g_1 E_2 x_0) (hp : Hp ⟨w0, I0, blks E_2⟩ I0 E_2 w0) (r : (Visit × (List Visit))), f x_0 = some r →
    Ret Try.prog 34 #[(.pointer (some ⟨g_1, 0, none⟩))] w0 fun v w1 => ∃ (I1 : Nat → Prop) (u_4 : List Ent), v = (.agg #[(.int .i64 r.1.c.X), (.int .i64 r.1.c.Y), (.int .i64 r.1.n_)]) ∧ Hp ⟨w0, I0, blks E_2⟩ I1 u_4 w1 ∧ qH w1 I1 g_1 u_4 r.2
theorem path_heap_pop_ok (n : Nat) : path_heap_pop_S (path_heap_pop n) := by
  intro w0 I0 x_0 g_1 E_2 q_3 hp r h
  unfold path_heap_pop at h
  refine enter Try.func34 rfl (Nat.le_of_ble_eq_true rfl) ?_
  generalize blks E_2 = B at hp ⊢
  obtain ⟨v_4, e_5, rfl, o_6⟩ := q_3
  have hp : Hp ⟨w0, I0, B⟩ I0 [some (g_1, [v_4], 75), e_5] w0 := hp
  apply go
  apply go
  refine ev_alloc hp rfl T73 ?_
  intro g_7 w_8 hp hs
  replace o_6 := o_6.step hs
  apply go
  apply go
  refine ev (rn_load rfl rfl (run_loadVar1 T75 (hp.cell (i := 1) (off := 0) rfl rfl))) ?_
  apply go
  apply go
  obtain ⟨x_9, q_a, h⟩ := bind_some h
  refine ev_indexO rfl rfl rfl Try.underlying75 T73 o_6 q_a ?_
  intro g_b c_c h_d d_e l_f
  refine ev (rn_load rfl rfl (run_loadVarA T73 rfl (hp.atE (i := 2) rfl h_d (dVisit_o d_e)))) ?_
  refine ev_alloc hp rfl T73 ?_
  intro g_g w_h hp hs
  replace o_6 := o_6.step hs
  refine ev_storeA hp (i := 0) (off := 0) (vs := [(.int .i64 x_9.c.X), (.int .i64 x_9.c.Y), (.int .i64 x_9.n_)]) rfl rfl rfl rfl T73 rfl (Nat.le_of_ble_eq_true rfl) (ones_of rfl) ?_
  intro w_i hp hs
  replace o_6 := o_6.step hs
  apply go
  apply go
  refine ev0 (x_lenO rfl rfl Try.underlying75 o_6) ?_
  obtain ⟨x_j, q_k, h⟩ := bind_some h
  refine ev_indexO rfl rfl rfl Try.underlying75 T73 o_6 q_k ?_
  intro g_l c_m h_n d_o l_p
  refine ev (rn_load rfl rfl (run_loadVarA T73 rfl (hp.atE (i := 3) rfl h_n (dVisit_o d_o)))) ?_
  obtain ⟨x_q, q_r, h⟩ := bind_some h
  refine ev_indexO rfl rfl rfl Try.underlying75 T73 o_6 q_r ?_
  intro g_s c_t h_u d_v l_w
  refine ev_storeE hp (i := 3) rfl h_u rfl rfl rfl T73 o_6 q_r (x0 := x_j) dVisit_m ?_
  intro e_x w_y hp hs o_z
  apply go
  apply go
  refine ev0 (x_lenO rfl rfl Try.underlying75 o_z) ?_
  obtain ⟨x_10, q_11, h⟩ := bind_some h
  refine ev_cutO (kl := .i64) (kh := .i64) rfl rfl rfl rfl Try.underlying75 T73 o_z q_11 ?_
  intro v_12 o_13
  obtain ⟨y_14, q_15, h⟩ := bind_some h
  refine W.cut (γ := ((List Visit) × Ent)) (fun g => [(0, (.pointer (some ⟨g_1, 0, none⟩))), (2, (.pointer (some ⟨g_7, 0, none⟩))), (3, v_12), (4, (.pointer (some ⟨g_g, 0, none⟩)))]) (fun g w' => y_14 = (g.1) ∧ Hp ⟨w0, I0, B⟩ I0 [some (g_1, [v_4], 75), some (g_7, [(.int .i64 0), (.int .i64 0), (.int .i64 0)], 73), (g.2), some (g_g, [(.int .i64 x_9.c.X), (.int .i64 x_9.c.Y), (.int .i64 x_9.n_)], 73)] w' ∧ OwnS dVisit 73 w' I0 v_12 (g.2) (g.1)) ?_ ?_
  ·
    apply go
    apply go
    apply go
    have hp := hp.perm [2, 1, 3, 0] (by decide)
    refine W.loop q_15 (γ := Ent) (fun s g => [(0, (.pointer (some ⟨g_1, 0, none⟩))), (2, (.pointer (some ⟨g_7, 0, none⟩))), (3, v_12), (4, (.pointer (some ⟨g_g, 0, none⟩))), (5, (.int .i64 (s.2)))]) (fun s g w' => Hp ⟨w0, I0, B⟩ I0 [some (g_1, [v_4], 75), some (g_7, [(.int .i64 0), (.int .i64 0), (.int .i64 0)], 73), (g), some (g_g, [(.int .i64 x_9.c.X), (.int .i64 x_9.c.Y), (.int .i64 x_9.n_)], 73)] w' ∧ OwnS dVisit 73 w' I0 v_12 (g) (s.1)) e_x (.c rfl (.c rfl (.c rfl (.c rfl (.c rfl .n))))) ⟨hp, o_13⟩ ?_
    rintro ⟨x_16, x_17⟩ e_18 w_19 y_1a ⟨hp, o_1b⟩ q_1c q_1d
    unfold path_heap_pop_L11 at q_1c
    apply go
    apply go
    apply go
    obtain ⟨y_1e, q_1f, q_1c⟩ := bind_some q_1c
    refine W.cut (γ := Int) (fun g => [(0, (.pointer (some ⟨g_1, 0, none⟩))), (2, (.pointer (some ⟨g_7, 0, none⟩))), (3, v_12), (4, (.pointer (some ⟨g_g, 0, none⟩))), (5, (.int .i64 x_17)), (6, (.int .i64 (g)))]) (fun g w' => y_1e = (g) ∧ Hp ⟨w0, I0, B⟩ I0 [some (g_1, [v_4], 75), some (g_7, [(.int .i64 0), (.int .i64 0), (.int .i64 0)], 73), e_18, some (g_g, [(.int .i64 x_9.c.X), (.int .i64 x_9.c.Y), (.int .i64 x_9.n_)], 73)] w' ∧ OwnS dVisit 73 w' I0 v_12 e_18 x_16) ?_ ?_
    ·
      apply go
      apply go
      refine ev0 (fun w => rn_buildA (cs := [(.int .i64 (IntKind.i64.wrap ((IntKind.i64.wrap (2 * x_17)) + 1))), (.int .i64 (IntKind.i64.wrap ((IntKind.i64.wrap (2 * x_17)) + 2)))]) rfl rfl T96 Try.underlying96 T3 rfl) ?_
      have r_1g : (dA 2 (dI .i64)).rep w_19 I0 [(.int .i64 (IntKind.i64.wrap ((IntKind.i64.wrap (2 * x_17)) + 1))), (.int .i64 (IntKind.i64.wrap ((IntKind.i64.wrap (2 * x_17)) + 2)))] [(IntKind.i64.wrap ((IntKind.i64.wrap (2 * x_17)) + 1)), (IntKind.i64.wrap ((IntKind.i64.wrap (2 * x_17)) + 2))] := ⟨rfl, rfl, (Elems.cons (d := (dI .i64)) (xs := _) rfl (Elems.cons (d := (dI .i64)) (xs := _) rfl (Elems.nil _ _ _ _)))⟩
      apply go
      refine W.loop q_1f (γ := Unit) (fun s _ => [(0, (.pointer (some ⟨g_1, 0, none⟩))), (2, (.pointer (some ⟨g_7, 0, none⟩))), (3, v_12), (4, (.pointer (some ⟨g_g, 0, none⟩))), (5, (.int .i64 x_17)), (6, (.int .i64 (s.1))), (35, (.agg [(.int .i64 (IntKind.i64.wrap ((IntKind.i64.wrap (2 * x_17)) + 1))), (.int .i64 (IntKind.i64.wrap ((IntKind.i64.wrap (2 * x_17)) + 2)))].toArray)), (36, (.int .i64 (s.2)))]) (fun s _ w' => Hp ⟨w0, I0, B⟩ I0 [some (g_1, [v_4], 75), some (g_7, [(.int .i64 0), (.int .i64 0), (.int .i64 0)], 73), e_18, some (g_g, [(.int .i64 x_9.c.X), (.int .i64 x_9.c.Y), (.int .i64 x_9.n_)], 73)] w' ∧ OwnS dVisit 73 w' I0 v_12 e_18 x_16 ∧ (dA 2 (dI .i64)).rep w' I0 [(.int .i64 (IntKind.i64.wrap ((IntKind.i64.wrap (2 * x_17)) + 1))), (.int .i64 (IntKind.i64.wrap ((IntKind.i64.wrap (2 * x_17)) + 2)))] [(IntKind.i64.wrap ((IntKind.i64.wrap (2 * x_17)) + 1)), (IntKind.i64.wrap ((IntKind.i64.wrap (2 * x_17)) + 2))]) () (.c rfl (.c rfl (.c rfl (.c rfl (.c rfl (.c rfl (.c rfl (.c rfl .n)))))))) ⟨hp, o_1b, r_1g⟩ ?_
      rintro ⟨x_1h, x_1i⟩ ⟨⟩ w_1j y_1k ⟨hp, o_1b, r_1g⟩ q_1l q_1m
      unfold path_heap_pop_L13 at q_1l
      apply go
      apply go
      apply go
      apply go
      refine sel_of (fun hc => ?_) (fun hc => ?_)
      ·
        have q_1l := cond_t q_1l hc
        apply go
        obtain ⟨y_1n, q_1o, q_1l⟩ := bind_some q_1l
        refine W.cut (γ := Int) (fun g => [(0, (.pointer (some ⟨g_1, 0, none⟩))), (2, (.pointer (some ⟨g_7, 0, none⟩))), (3, v_12), (4, (.pointer (some ⟨g_g, 0, none⟩))), (5, (.int .i64 x_17)), (6, (.int .i64 (g))), (35, (.agg [(.int .i64 (IntKind.i64.wrap ((IntKind.i64.wrap (2 * x_17)) + 1))), (.int .i64 (IntKind.i64.wrap ((IntKind.i64.wrap (2 * x_17)) + 2)))].toArray)), (36, (.int .i64 x_1i))]) (fun g w' => y_1n = (g) ∧ Hp ⟨w0, I0, B⟩ I0 [some (g_1, [v_4], 75), some (g_7, [(.int .i64 0), (.int .i64 0), (.int .i64 0)], 73), e_18, some (g_g, [(.int .i64 x_9.c.X), (.int .i64 x_9.c.Y), (.int .i64 x_9.n_)], 73)] w' ∧ OwnS dVisit 73 w' I0 v_12 e_18 x_16 ∧ (dA 2 (dI .i64)).rep w' I0 [(.int .i64 (IntKind.i64.wrap ((IntKind.i64.wrap (2 * x_17)) + 1))), (.int .i64 (IntKind.i64.wrap ((IntKind.i64.wrap (2 * x_17)) + 2)))] [(IntKind.i64.wrap ((IntKind.i64.wrap (2 * x_17)) + 1)), (IntKind.i64.wrap ((IntKind.i64.wrap (2 * x_17)) + 2))]) ?_ ?_
        ·
          apply go
          apply go
          apply go
          obtain ⟨x_1p, q_1q, q_1o⟩ := bind_some q_1o
          refine ev0 (rn_indexV rfl rfl rfl Try.underlying96 T3 r_1g q_1q rfl (fun h => h)) ?_
          obtain ⟨y_1r, q_1s, q_1o⟩ := bind_some q_1o
          refine W.cut (γ := Bool) (fun g => [(0, (.pointer (some ⟨g_1, 0, none⟩))), (2, (.pointer (some ⟨g_7, 0, none⟩))), (3, v_12), (4, (.pointer (some ⟨g_g, 0, none⟩))), (5, (.int .i64 x_17)), (6, (.int .i64 x_1h)), (8, (.int .i64 x_1p)), (35, (.agg [(.int .i64 (IntKind.i64.wrap ((IntKind.i64.wrap (2 * x_17)) + 1))), (.int .i64 (IntKind.i64.wrap ((IntKind.i64.wrap (2 * x_17)) + 2)))].toArray)), (36, (.int .i64 x_1i)), (55, (.bool (g)))]) (fun g w' => y_1r = (g) ∧ Hp ⟨w0, I0, B⟩ I0 [some (g_1, [v_4], 75), some (g_7, [(.int .i64 0), (.int .i64 0), (.int .i64 0)], 73), e_18, some (g_g, [(.int .i64 x_9.c.X), (.int .i64 x_9.c.Y), (.int .i64 x_9.n_)], 73)] w' ∧ OwnS dVisit 73 w' I0 v_12 e_18 x_16 ∧ (dA 2 (dI .i64)).rep w' I0 [(.int .i64 (IntKind.i64.wrap ((IntKind.i64.wrap (2 * x_17)) + 1))), (.int .i64 (IntKind.i64.wrap ((IntKind.i64.wrap (2 * x_17)) + 2)))] [(IntKind.i64.wrap ((IntKind.i64.wrap (2 * x_17)) + 1)), (IntKind.i64.wrap ((IntKind.i64.wrap (2 * x_17)) + 2))]) ?_ ?_
          ·
            refine W.quiet (fun w' => Ch [] w_1j w') MX (by kernel_rfl) (Ch.drew [] w_1j) ?_
            refine evq0 (x_lenO rfl rfl Try.underlying75 o_1b) ?_
            refine sel_of (fun hc => ?_) (fun hc => ?_)
            ·
              have q_1s := cond_t q_1s hc
              obtain ⟨x_1t, q_1u, q_1s⟩ := bind_some q_1s
              refine evq_indexO rfl rfl rfl Try.underlying75 T73 o_1b q_1u ?_
              intro g_1v c_1w h_1x d_1y l_1z
              refine evq0 (rn_field rfl rfl FO73_1) ?_
              refine evq (fun w' hw => rn_load rfl rfl (run_loadVar1 T3 (by rw [add_lit]; exact (hp.ext hw).cellE (i := 2) rfl h_1x (dVisit_o d_1y) (j := 2) rfl))) ?_
              obtain ⟨x_20, q_21, q_1s⟩ := bind_some q_1s
              refine evq_indexO rfl rfl rfl Try.underlying75 T73 o_1b q_21 ?_
              intro g_22 c_23 h_24 d_25 l_26
              refine evq0 (rn_field rfl rfl FO73_1) ?_
              refine evq (fun w' hw => rn_load rfl rfl (run_loadVar1 T3 (by rw [add_lit]; exact (hp.ext hw).cellE (i := 2) rfl h_24 (dVisit_o d_25) (j := 2) rfl))) ?_
              intro w_27 hc
              have hs := hp.stp hc
              replace hp := hp.ext hc
              replace o_1b := o_1b.step hs
              replace r_1g := r_1g.step hs
              obtain rfl := Option.some.inj q_1s
              exact ⟨(decide (x_1t.n_ < x_20.n_)), (.c rfl (.c rfl (.c rfl (.c rfl (.c rfl (.c rfl (.c rfl (.c rfl (.c rfl (.c rfl .n)))))))))), rfl, hp, o_1b, r_1g⟩
            ·
              have q_1s := cond_f q_1s hc
              intro w_28 hc
              have hs := hp.stp hc
              replace hp := hp.ext hc
              replace o_1b := o_1b.step hs
              replace r_1g := r_1g.step hs
              obtain rfl := Option.some.inj q_1s
              exact ⟨false, (.c rfl (.c rfl (.c rfl (.c rfl (.c rfl (.c rfl (.c rfl (.c rfl (.c rfl (.c rfl .n)))))))))), rfl, hp, o_1b, r_1g⟩
          ·
            rintro x_29 w_2a ⟨hy, hp, o_1b, r_1g⟩
            replace hy := hy.symm
            subst hy
            apply go
            refine sel_of (fun hc => ?_) (fun hc => ?_)
            ·
              have q_1o := cond_t q_1o hc
              apply go
              obtain rfl := Option.some.inj q_1o
              exact ⟨x_1p, (.c rfl (.c rfl (.c rfl (.c rfl (.c rfl (.c rfl (.c rfl (.c rfl .n)))))))), rfl, hp, o_1b, r_1g⟩
            ·
              have q_1o := cond_f q_1o hc
              apply go
              obtain rfl := Option.some.inj q_1o
              exact ⟨x_1h, (.c rfl (.c rfl (.c rfl (.c rfl (.c rfl (.c rfl (.c rfl (.c rfl .n)))))))), rfl, hp, o_1b, r_1g⟩
        ·
          rintro x_2b w_2c ⟨hy, hp, o_1b, r_1g⟩
          replace hy := hy.symm
          subst hy
          apply go
          exact ⟨_, (Option.some.inj q_1l).symm, (), (.c rfl (.c rfl (.c rfl (.c rfl (.c rfl (.c rfl (.c rfl (.c rfl .n)))))))), ⟨hp, o_1b, r_1g⟩⟩
      ·
        have q_1l := cond_f q_1l hc
        apply go
        have q_2d := congrArg some (q_1m _ (Option.some.inj q_1l).symm)
        obtain rfl := Option.some.inj q_2d
        exact ⟨x_1h, (.c rfl (.c rfl (.c rfl (.c rfl (.c rfl (.c rfl .n)))))), rfl, hp, o_1b⟩
    ·
      rintro x_2e w_2f ⟨hy, hp, o_1b⟩
      replace hy := hy.symm
      subst hy
      apply go
      apply go
      apply go
      apply go
      refine sel_of (fun hc => ?_) (fun hc => ?_)
      ·
        have q_1c := cond_t q_1c hc
        apply go
        have q_2g := congrArg some (q_1d _ (Option.some.inj q_1c).symm)
        obtain rfl := Option.some.inj q_2g
        exact ⟨(x_16, e_18), (.c rfl (.c rfl (.c rfl (.c rfl .n)))), rfl, hp, o_1b⟩
      ·
        have q_1c := cond_f q_1c hc
        apply go
        obtain ⟨y_2h, q_2i, q_1c⟩ := bind_some q_1c
        refine W.cut (γ := ((List Visit) × Ent)) (fun g => [(0, (.pointer (some ⟨g_1, 0, none⟩))), (2, (.pointer (some ⟨g_7, 0, none⟩))), (3, v_12), (4, (.pointer (some ⟨g_g, 0, none⟩))), (6, (.int .i64 x_2e))]) (fun g w' => y_2h = (g.1) ∧ Hp ⟨w0, I0, B⟩ I0 [some (g_1, [v_4], 75), some (g_7, [(.int .i64 0), (.int .i64 0), (.int .i64 0)], 73), (g.2), some (g_g, [(.int .i64 x_9.c.X), (.int .i64 x_9.c.Y), (.int .i64 x_9.n_)], 73)] w' ∧ OwnS dVisit 73 w' I0 v_12 (g.2) (g.1)) ?_ ?_
        ·
          have hs := hp.stp (Ch.drew [] w_2f)
          have hp := hp.drew
          replace o_1b := o_1b.step hs
          refine W.heldG (.q 0 (.q 1 (.q 2 (.q 3 (.q 4 (.q 5 (.q 6 (.q 8 (.q 9 (.q 10 (.l 7 (.l 11 (.q 12 (.l 13 (.q 14 (.l 15 .done .no)) .no)) .no) (.l 11 (.l 7 (.q 12 (.l 13 (.q 14 (.l 15 .done .no)) .no)) .no) .no)))))))))))) (SK (Stp I0 w_2f.drew I0) [] []) MX (by kernel_rfl) ⟨Stp.refl _ _, kp_nil⟩ ?_
          have hz := Stp.refl I0 w_2f.drew
          refine ⟨SK.same (by kernel_rfl), ?_⟩
          refine ⟨SK.same (by kernel_rfl), ?_⟩
          refine ⟨SK.same (by kernel_rfl), ?_⟩
          refine ⟨SK.same (by kernel_rfl), ?_⟩
          refine ⟨SK.same (by kernel_rfl), ?_⟩
          refine ⟨SK.same (by kernel_rfl), ?_⟩
          refine ⟨SK.same (by kernel_rfl), ?_⟩
          obtain ⟨x_2j, q_2k, q_2i⟩ := bind_some q_2i
          refine evh_indexO rfl rfl rfl Try.underlying75 T73 o_1b q_2k ?_
          intro g_2l c_2m h_2n d_2o l_2p
          refine ⟨SK.same (by kernel_rfl), ?_⟩
          refine ⟨SK.same (by kernel_rfl), ?_⟩
          refine ⟨SK.same (by kernel_rfl), ?_⟩
          obtain ⟨x_2q, q_2r, q_2i⟩ := bind_some q_2i
          refine evh_indexO rfl rfl rfl Try.underlying75 T73 o_1b q_2r ?_
          intro g_2s c_2t h_2u d_2v l_2w
          refine ⟨?_, ?_⟩
          ·
            refine ev (rn_load rfl rfl (run_loadVarA T73 rfl (hp.atE (i := 2) rfl h_2n (dVisit_o d_2o)))) ?_
            refine ⟨SK (Stp I0 w_2f.drew I0) [] [], ⟨Stp.refl _ _, kp_nil⟩, fun L x h => ⟨hz.held h.1, h.2⟩, ?_⟩
            have hz := Stp.refl I0 w_2f.drew
            refine ⟨?_, trivial⟩
            refine ev (rn_load rfl rfl (run_loadVarA T73 rfl (hp.atE (i := 2) rfl h_2u (dVisit_o d_2v)))) ?_
            refine ⟨SK (Stp I0 w_2f.drew I0) [] [], ⟨Stp.refl _ _, kp_nil⟩, fun L x h => ⟨hz.held h.1, h.2⟩, ?_⟩
            have hz := Stp.refl I0 w_2f.drew
            refine ⟨SK.same (by kernel_rfl), ?_⟩
            obtain ⟨x_2x, q_2y, q_2i⟩ := bind_some q_2i
            refine evh_indexO rfl rfl rfl Try.underlying75 T73 o_1b q_2y ?_
            intro g_2z c_30 h_31 d_32 l_33
            refine ⟨?_, trivial⟩
            refine ev_storeE hp (i := 2) rfl h_31 rfl rfl rfl T73 o_1b q_2y (x0 := x_2j) dVisit_m ?_
            intro e_34 w_35 hp hs o_36
            replace hz := hz.trans hs
            refine ⟨SK (Stp I0 w_35 I0) [] [], ⟨Stp.refl _ _, kp_nil⟩, fun L x h => ⟨hz.held h.1, h.2⟩, ?_⟩
            have hz := Stp.refl I0 w_35
            refine ⟨SK.same (by kernel_rfl), ?_⟩
            obtain ⟨x_37, q_38, q_2i⟩ := bind_some q_2i
            refine evh_indexO rfl rfl rfl Try.underlying75 T73 o_36 q_38 ?_
            intro g_39 c_3a h_3b d_3c l_3d
            refine ⟨?_, trivial⟩
            refine ev_storeE hp (i := 2) rfl h_3b rfl rfl rfl T73 o_36 q_38 (x0 := x_2q) dVisit_m ?_
            intro e_3e w_3f hp hs o_3g
            replace hz := hz.trans hs
            refine ⟨SK (Stp I0 w_3f I0) [] [], ⟨Stp.refl _ _, kp_nil⟩, fun L x h => ⟨hz.held h.1, h.2⟩, ?_⟩
            have hz := Stp.refl I0 w_3f
            obtain rfl := Option.some.inj q_2i
            exact ⟨((upd (upd x_16 x_17 x_2j) x_2e x_2q), e_3e), (.c rfl (.c rfl (.c rfl (.c rfl (.c rfl .n))))), rfl, hp, o_3g⟩
          refine ⟨?_, trivial⟩
          refine ev (rn_load rfl rfl (run_loadVarA T73 rfl (hp.atE (i := 2) rfl h_2u (dVisit_o d_2v)))) ?_
          refine ⟨SK (Stp I0 w_2f.drew I0) [] [], ⟨Stp.refl _ _, kp_nil⟩, fun L x h => ⟨hz.held h.1, h.2⟩, ?_⟩
          have hz := Stp.refl I0 w_2f.drew
          refine ⟨?_, trivial⟩
          refine ev (rn_load rfl rfl (run_loadVarA T73 rfl (hp.atE (i := 2) rfl h_2n (dVisit_o d_2o)))) ?_
          refine ⟨SK (Stp I0 w_2f.drew I0) [] [], ⟨Stp.refl _ _, kp_nil⟩, fun L x h => ⟨hz.held h.1, h.2⟩, ?_⟩
          have hz := Stp.refl I0 w_2f.drew
          refine ⟨SK.same (by kernel_rfl), ?_⟩
          obtain ⟨x_3h, q_3i, q_2i⟩ := bind_some q_2i
          refine evh_indexO rfl rfl rfl Try.underlying75 T73 o_1b q_3i ?_
          intro g_3j c_3k h_3l d_3m l_3n
          refine ⟨?_, trivial⟩
          refine ev_storeE hp (i := 2) rfl h_3l rfl rfl rfl T73 o_1b q_3i (x0 := x_2j) dVisit_m ?_
          intro e_3o w_3p hp hs o_3q
          replace hz := hz.trans hs
          refine ⟨SK (Stp I0 w_3p I0) [] [], ⟨Stp.refl _ _, kp_nil⟩, fun L x h => ⟨hz.held h.1, h.2⟩, ?_⟩
          have hz := Stp.refl I0 w_3p
          refine ⟨SK.same (by kernel_rfl), ?_⟩
          obtain ⟨x_3r, q_3s, q_2i⟩ := bind_some q_2i
          refine evh_indexO rfl rfl rfl Try.underlying75 T73 o_3q q_3s ?_
          intro g_3t c_3u h_3v d_3w l_3x
          refine ⟨?_, trivial⟩
          refine ev_storeE hp (i := 2) rfl h_3v rfl rfl rfl T73 o_3q q_3s (x0 := x_2q) dVisit_m ?_
          intro e_3y w_3z hp hs o_40
          replace hz := hz.trans hs
          refine ⟨SK (Stp I0 w_3z I0) [] [], ⟨Stp.refl _ _, kp_nil⟩, fun L x h => ⟨hz.held h.1, h.2⟩, ?_⟩
          have hz := Stp.refl I0 w_3z
          obtain rfl := Option.some.inj q_2i
          exact ⟨((upd (upd x_16 x_17 x_2j) x_2e x_2q), e_3y), (.c rfl (.c rfl (.c rfl (.c rfl (.c rfl .n))))), rfl, hp, o_40⟩
        ·
          rintro ⟨x_41, e_42⟩ w_43 ⟨hy, hp, o_44⟩
          replace hy := hy.symm
          subst hy
          apply go
          exact ⟨_, (Option.some.inj q_1c).symm, e_42, (.c rfl (.c rfl (.c rfl (.c rfl (.c rfl .n))))), ⟨hp, o_44⟩⟩
  ·
    rintro ⟨x_45, e_46⟩ w_47 ⟨hy, hp, o_48⟩
    replace hy := hy.symm
    subst hy
    apply go
    apply go
    refine ev_store1 hp (i := 0) (off := 0) rfl rfl rfl rfl T75 o_48.one (Nat.le_of_ble_eq_true rfl) ?_
    intro w_49 hp hs
    replace o_48 := o_48.step hs
    apply go
    apply go
    refine ev (rn_load rfl rfl (run_loadVarA T73 rfl (hp.at_ (i := 3) rfl))) ?_
    refine ev_storeA hp (i := 1) (off := 0) (vs := [(.int .i64 x_9.c.X), (.int .i64 x_9.c.Y), (.int .i64 x_9.n_)]) rfl rfl rfl rfl T73 rfl (Nat.le_of_ble_eq_true rfl) (ones_of rfl) ?_
    intro w_4a hp hs
    replace o_48 := o_48.step hs
    apply go
    obtain rfl := Option.some.inj h
    refine ⟨_, run_loadVarA T73 rfl (hp.at_ (i := 1) rfl), ?_⟩
    have hp := hp.sel [0, 2] (by decide)
    exact ⟨I0, [some (g_1, [v_12], 75), e_46], rfl, hp, ⟨v_12, e_46, rfl, o_48⟩⟩

end Go.Proofs.Ytcdboppghnchpaa

namespace Go.Proofs.Ytcdboppghnchpaa
open Go Go.Proofs.Ytcdboppghnchpaa.Gw Go.RowKit
set_option linter.unusedVariables false
attribute [local irreducible] Ev EvQ EvS EvH
def path_heap_push_S (f : (List Visit) → Visit → Option (List Visit)) : Prop := ∀ (w0 : World) (I0 : Nat → Prop) (x_0 : (List Visit)) (g_1 : Nat) (E_2 : List Ent) (q_3 : qH w0 I0 g_1 E_2 x_0) (x_4 : Visit) (hp : Hp ⟨w0, I0, blks E_2⟩ I0 E_2 w0) (r : (List Visit)), f x_0 x_4 = some r →
    Ret Try.prog 35 #[(.pointer (some ⟨g_1, 0, none⟩)), (.agg #[(.int .i64 x_4.c.X), (.int .i64 x_4.c.Y), (.int .i64 x_4.n_)])] w0 fun v w1 => ∃ (I1 : Nat → Prop) (u_5 : List Ent), v = (.tuple #[]) ∧ Hp ⟨w0, I0, blks E_2⟩ I1 u_5 w1 ∧ qH w1 I1 g_1 u_5 r
theorem path_heap_push_ok (n : Nat) : path_heap_push_S (path_heap_push n) := by
  intro w0 I0 x_0 g_1 E_2 q_3 x_4 hp r h
  unfold path_heap_push at h
  refine enter Try.func35 rfl (Nat.le_of_ble_eq_true rfl) ?_
  generalize blks E_2 = B at hp ⊢
  obtain ⟨v_5, e_6, rfl, o_7⟩ := q_3
  have hp : Hp ⟨w0, I0, B⟩ I0 [some (g_1, [v_5], 75), e_6] w0 := hp
  apply go
  apply go
  refine ev_boxI hp rfl rfl ?_
  intro p_8 I_9 w_a hp hs a_b
  replace o_7 := o_7.step hs
  apply go
  have hs := hp.stp (Ch.drew [] w_a)
  have hp := hp.drew
  replace a_b := a_b.step hs
  replace o_7 := o_7.step hs
  refine W.held [(0, true), (1, true), (2, true), (3, true), (4, false), (5, false), (6, true)] (fun x => Stp I_9 w_a.drew I_9 x ∧ OwnK [(g_1, [v_5], 75)] x) MX (by kernel_rfl) ⟨Stp.refl _ _, (OwnK.cons (hp.own 0 _ _ _ rfl).1 OwnK.nil)⟩ ?_
  have hz := Stp.refl I_9 w_a.drew
  refine evh (fun w' hw => rn_load rfl rfl (run_loadVar1 T75 (hw.2.cell (i := 0) (off := 0) rfl rfl))) ?_
  refine evh (fun w' hw => rn_load rfl rfl (run_loadVarA T73 rfl (a_b.step hw.1))) ?_
  refine ev_litN (d := dVisit) (xs := [(Visit.mk (Cell.mk x_4.c.X x_4.c.Y) x_4.n_)]) (cs := [(.int .i64 x_4.c.X), (.int .i64 x_4.c.Y), (.int .i64 x_4.n_)]) hp rfl rfl Try.underlying75 T73 (by decide) rfl rfl (Elems.cons (d := dVisit) (xs := _) dVisit_m (Elems.nil _ _ _ _)) ?_
  intro v_c I_d w_e hp hs r_f
  replace hz := hz.trans hs
  replace o_7 := o_7.step hs
  refine ⟨fun x => Stp I_d w_e I_d x ∧ OwnK [(g_1, [v_5], 75)] x, ⟨Stp.refl _ _, (OwnK.cons (hp.own 0 _ _ _ rfl).1 OwnK.nil)⟩, fun x hx => ⟨hz.held hx.1, hx.2⟩, ?_⟩
  have hz := Stp.refl I_d w_e
  obtain ⟨x_g, q_h, h⟩ := bind_some h
  refine ev_append hp (i := 1) rfl rfl rfl rfl Try.underlying75 T73 rfl rfl o_7 r_f q_h ?_
  rintro v_i e_j w_k hp hs o_l
  replace hz := hz.trans hs
  refine ⟨fun x => Stp I_d w_k I_d x ∧ OwnK [(g_1, [v_5], 75)] x, ⟨Stp.refl _ _, (OwnK.cons (hp.own 0 _ _ _ rfl).1 OwnK.nil)⟩, fun x hx => ⟨hz.held hx.1, hx.2⟩, ?_⟩
  have hz := Stp.refl I_d w_k
  apply go
  apply go
  refine ev0 (x_lenO rfl rfl Try.underlying75 o_l) ?_
  obtain ⟨y_m, q_n, h⟩ := bind_some h
  refine W.cut (γ := ((List Visit) × Ent)) (fun g => [(0, (.pointer (some ⟨g_1, 0, none⟩))), (4, v_i)]) (fun g w' => y_m = (g.1) ∧ Hp ⟨w0, I0, B⟩ I_d [some (g_1, [v_5], 75), (g.2)] w' ∧ OwnS dVisit 73 w' I_d v_i (g.2) (g.1)) ?_ ?_
  ·
    apply go
    refine W.loop q_n (γ := Ent) (fun s g => [(0, (.pointer (some ⟨g_1, 0, none⟩))), (4, v_i), (5, (.int .i64 (s.2)))]) (fun s g w' => Hp ⟨w0, I0, B⟩ I_d [some (g_1, [v_5], 75), (g)] w' ∧ OwnS dVisit 73 w' I_d v_i (g) (s.1)) e_j (.c rfl (.c rfl (.c rfl .n))) ⟨hp, o_l⟩ ?_
    rintro ⟨x_o, x_p⟩ e_q w_r y_s ⟨hp, o_t⟩ q_u q_v
    unfold path_heap_push_L1 at q_u
    apply go
    obtain ⟨y_w, q_x, q_u⟩ := bind_some q_u
    refine W.cut (γ := Bool) (fun g => [(0, (.pointer (some ⟨g_1, 0, none⟩))), (4, v_i), (5, (.int .i64 x_p)), (31, (.bool (g)))]) (fun g w' => y_w = (g) ∧ Hp ⟨w0, I0, B⟩ I_d [some (g_1, [v_5], 75), e_q] w' ∧ OwnS dVisit 73 w' I_d v_i e_q x_o) ?_ ?_
    ·
      refine W.quiet (fun w' => Ch [] w_r w') MX (by kernel_rfl) (Ch.drew [] w_r) ?_
      refine sel_of (fun hc => ?_) (fun hc => ?_)
      ·
        have q_x := cond_t q_x hc
        refine ⟨by decide, ?_⟩
        obtain ⟨x_y, q_z, q_x⟩ := bind_some q_x
        refine evq_indexO rfl rfl rfl Try.underlying75 T73 o_t q_z ?_
        intro g_10 c_11 h_12 d_13 l_14
        refine evq0 (rn_field rfl rfl FO73_1) ?_
        refine evq (fun w' hw => rn_load rfl rfl (run_loadVar1 T3 (by rw [add_lit]; exact (hp.ext hw).cellE (i := 1) rfl h_12 (dVisit_o d_13) (j := 2) rfl))) ?_
        obtain ⟨x_15, q_16, q_x⟩ := bind_some q_x
        refine evq_indexO rfl rfl rfl Try.underlying75 T73 o_t q_16 ?_
        intro g_17 c_18 h_19 d_1a l_1b
        refine evq0 (rn_field rfl rfl FO73_1) ?_
        refine evq (fun w' hw => rn_load rfl rfl (run_loadVar1 T3 (by rw [add_lit]; exact (hp.ext hw).cellE (i := 1) rfl h_19 (dVisit_o d_1a) (j := 2) rfl))) ?_
        intro w_1c hc
        have hs := hp.stp hc
        replace hp := hp.ext hc
        replace o_t := o_t.step hs
        obtain rfl := Option.some.inj q_x
        exact ⟨(decide (x_y.n_ > x_15.n_)), (.c rfl (.c rfl (.c rfl (.c rfl .n)))), rfl, hp, o_t⟩
      ·
        have q_x := cond_f q_x hc
        intro w_1d hc
        have hs := hp.stp hc
        replace hp := hp.ext hc
        replace o_t := o_t.step hs
        obtain rfl := Option.some.inj q_x
        exact ⟨false, (.c rfl (.c rfl (.c rfl (.c rfl .n)))), rfl, hp, o_t⟩
    ·
      rintro x_1e w_1f ⟨hy, hp, o_t⟩
      replace hy := hy.symm
      subst hy
      apply go
      refine sel_of (fun hc => ?_) (fun hc => ?_)
      ·
        have q_u := cond_t q_u hc
        apply go
        apply go
        obtain ⟨y_1g, q_1h, q_u⟩ := bind_some q_u
        refine W.cut (γ := ((List Visit) × Ent)) (fun g => [(0, (.pointer (some ⟨g_1, 0, none⟩))), (4, v_i), (5, (.int .i64 x_p))]) (fun g w' => y_1g = (g.1) ∧ Hp ⟨w0, I0, B⟩ I_d [some (g_1, [v_5], 75), (g.2)] w' ∧ OwnS dVisit 73 w' I_d v_i (g.2) (g.1)) ?_ ?_
        ·
          have hs := hp.stp (Ch.drew [] w_1f)
          have hp := hp.drew
          replace o_t := o_t.step hs
          refine W.heldG (.q 0 (.q 1 (.q 2 (.q 3 (.q 4 (.q 5 (.q 6 (.q 7 (.q 8 (.q 9 (.q 10 (.q 12 (.q 13 (.q 14 (.l 11 (.l 15 (.q 16 (.l 17 (.q 18 (.l 19 .done .no)) .no)) .no) (.l 15 (.l 11 (.q 16 (.l 17 (.q 18 (.l 19 .done .no)) .no)) .no) .no)))))))))))))))) (SK (Stp I_d w_1f.drew I_d) [] []) MX (by kernel_rfl) ⟨Stp.refl _ _, kp_nil⟩ ?_
          have hz := Stp.refl I_d w_1f.drew
          refine ⟨SK.same (by kernel_rfl), ?_⟩
          refine ⟨SK.same (by kernel_rfl), ?_⟩
          refine ⟨SK.same (by kernel_rfl), ?_⟩
          refine ⟨SK.same (by kernel_rfl), ?_⟩
          refine ⟨SK.same (by kernel_rfl), ?_⟩
          refine ⟨SK.same (by kernel_rfl), ?_⟩
          refine ⟨by decide, ?_⟩
          refine ⟨SK.same (by kernel_rfl), ?_⟩
          refine ⟨SK.same (by kernel_rfl), ?_⟩
          refine ⟨SK.same (by kernel_rfl), ?_⟩
          refine ⟨SK.same (by kernel_rfl), ?_⟩
          refine ⟨by decide, ?_⟩
          refine ⟨SK.same (by kernel_rfl), ?_⟩
          obtain ⟨x_1i, q_1j, q_1h⟩ := bind_some q_1h
          refine evh_indexO rfl rfl rfl Try.underlying75 T73 o_t q_1j ?_
          intro g_1k c_1l h_1m d_1n l_1o
          refine ⟨SK.same (by kernel_rfl), ?_⟩
          refine ⟨SK.same (by kernel_rfl), ?_⟩
          refine ⟨SK.same (by kernel_rfl), ?_⟩
          obtain ⟨x_1p, q_1q, q_1h⟩ := bind_some q_1h
          refine evh_indexO rfl rfl rfl Try.underlying75 T73 o_t q_1q ?_
          intro g_1r c_1s h_1t d_1u l_1v
          refine ⟨?_, ?_⟩
          ·
            refine ev (rn_load rfl rfl (run_loadVarA T73 rfl (hp.atE (i := 1) rfl h_1m (dVisit_o d_1n)))) ?_
            refine ⟨SK (Stp I_d w_1f.drew I_d) [] [], ⟨Stp.refl _ _, kp_nil⟩, fun L x h => ⟨hz.held h.1, h.2⟩, ?_⟩
            have hz := Stp.refl I_d w_1f.drew
            refine ⟨?_, trivial⟩
            refine ev (rn_load rfl rfl (run_loadVarA T73 rfl (hp.atE (i := 1) rfl h_1t (dVisit_o d_1u)))) ?_
            refine ⟨SK (Stp I_d w_1f.drew I_d) [] [], ⟨Stp.refl _ _, kp_nil⟩, fun L x h => ⟨hz.held h.1, h.2⟩, ?_⟩
            have hz := Stp.refl I_d w_1f.drew
            refine ⟨SK.same (by kernel_rfl), ?_⟩
            obtain ⟨x_1w, q_1x, q_1h⟩ := bind_some q_1h
            refine evh_indexO rfl rfl rfl Try.underlying75 T73 o_t q_1x ?_
            intro g_1y c_1z h_20 d_21 l_22
            refine ⟨?_, trivial⟩
            refine ev_storeE hp (i := 1) rfl h_20 rfl rfl rfl T73 o_t q_1x (x0 := x_1i) dVisit_m ?_
            intro e_23 w_24 hp hs o_25
            replace hz := hz.trans hs
            refine ⟨SK (Stp I_d w_24 I_d) [] [], ⟨Stp.refl _ _, kp_nil⟩, fun L x h => ⟨hz.held h.1, h.2⟩, ?_⟩
            have hz := Stp.refl I_d w_24
            refine ⟨SK.same (by kernel_rfl), ?_⟩
            obtain ⟨x_26, q_27, q_1h⟩ := bind_some q_1h
            refine evh_indexO rfl rfl rfl Try.underlying75 T73 o_25 q_27 ?_
            intro g_28 c_29 h_2a d_2b l_2c
            refine ⟨?_, trivial⟩
            refine ev_storeE hp (i := 1) rfl h_2a rfl rfl rfl T73 o_25 q_27 (x0 := x_1p) dVisit_m ?_
            intro e_2d w_2e hp hs o_2f
            replace hz := hz.trans hs
            refine ⟨SK (Stp I_d w_2e I_d) [] [], ⟨Stp.refl _ _, kp_nil⟩, fun L x h => ⟨hz.held h.1, h.2⟩, ?_⟩
            have hz := Stp.refl I_d w_2e
            obtain rfl := Option.some.inj q_1h
            exact ⟨((upd (upd x_o x_p x_1i) (IntKind.i64.wrap ((IntKind.i64.wrap (x_p - 1)).tdiv 2)) x_1p), e_2d), (.c rfl (.c rfl (.c rfl .n))), rfl, hp, o_2f⟩
          refine ⟨?_, trivial⟩
          refine ev (rn_load rfl rfl (run_loadVarA T73 rfl (hp.atE (i := 1) rfl h_1t (dVisit_o d_1u)))) ?_
          refine ⟨SK (Stp I_d w_1f.drew I_d) [] [], ⟨Stp.refl _ _, kp_nil⟩, fun L x h => ⟨hz.held h.1, h.2⟩, ?_⟩
          have hz := Stp.refl I_d w_1f.drew
          refine ⟨?_, trivial⟩
          refine ev (rn_load rfl rfl (run_loadVarA T73 rfl (hp.atE (i := 1) rfl h_1m (dVisit_o d_1n)))) ?_
          refine ⟨SK (Stp I_d w_1f.drew I_d) [] [], ⟨Stp.refl _ _, kp_nil⟩, fun L x h => ⟨hz.held h.1, h.2⟩, ?_⟩
          have hz := Stp.refl I_d w_1f.drew
          refine ⟨SK.same (by kernel_rfl), ?_⟩
          obtain ⟨x_2g, q_2h, q_1h⟩ := bind_some q_1h
          refine evh_indexO rfl rfl rfl Try.underlying75 T73 o_t q_2h ?_
          intro g_2i c_2j h_2k d_2l l_2m
          refine ⟨?_, trivial⟩
          refine ev_storeE hp (i := 1) rfl h_2k rfl rfl rfl T73 o_t q_2h (x0 := x_1i) dVisit_m ?_
          intro e_2n w_2o hp hs o_2p
          replace hz := hz.trans hs
          refine ⟨SK (Stp I_d w_2o I_d) [] [], ⟨Stp.refl _ _, kp_nil⟩, fun L x h => ⟨hz.held h.1, h.2⟩, ?_⟩
          have hz := Stp.refl I_d w_2o
          refine ⟨SK.same (by kernel_rfl), ?_⟩
          obtain ⟨x_2q, q_2r, q_1h⟩ := bind_some q_1h
          refine evh_indexO rfl rfl rfl Try.underlying75 T73 o_2p q_2r ?_
          intro g_2s c_2t h_2u d_2v l_2w
          refine ⟨?_, trivial⟩
          refine ev_storeE hp (i := 1) rfl h_2u rfl rfl rfl T73 o_2p q_2r (x0 := x_1p) dVisit_m ?_
          intro e_2x w_2y hp hs o_2z
          replace hz := hz.trans hs
          refine ⟨SK (Stp I_d w_2y I_d) [] [], ⟨Stp.refl _ _, kp_nil⟩, fun L x h => ⟨hz.held h.1, h.2⟩, ?_⟩
          have hz := Stp.refl I_d w_2y
          obtain rfl := Option.some.inj q_1h
          exact ⟨((upd (upd x_o x_p x_1i) (IntKind.i64.wrap ((IntKind.i64.wrap (x_p - 1)).tdiv 2)) x_1p), e_2x), (.c rfl (.c rfl (.c rfl .n))), rfl, hp, o_2z⟩
        ·
          rintro ⟨x_30, e_31⟩ w_32 ⟨hy, hp, o_33⟩
          replace hy := hy.symm
          subst hy
          apply go
          refine ⟨by decide, ?_⟩
          exact ⟨_, (Option.some.inj q_u).symm, e_31, (.c rfl (.c rfl (.c rfl .n))), ⟨hp, o_33⟩⟩
      ·
        have q_u := cond_f q_u hc
        apply go
        have q_34 := congrArg some (q_v _ (Option.some.inj q_u).symm)
        obtain rfl := Option.some.inj q_34
        exact ⟨(x_o, e_q), (.c rfl (.c rfl .n)), rfl, hp, o_t⟩
  ·
    rintro ⟨x_35, e_36⟩ w_37 ⟨hy, hp, o_38⟩
    replace hy := hy.symm
    subst hy
    apply go
    refine ev_store1 hp (i := 0) (off := 0) rfl rfl rfl rfl T75 o_38.one (Nat.le_of_ble_eq_true rfl) ?_
    intro w_39 hp hs
    replace o_38 := o_38.step hs
    obtain rfl := Option.some.inj h
    exact ⟨I_d, [some (g_1, [v_i], 75), e_36], rfl, hp, ⟨v_i, e_36, rfl, o_38⟩⟩

end Go.Proofs.Ytcdboppghnchpaa

namespace Go.Proofs.Ytcdboppghnchpaa
open Go Go.Proofs.Ytcdboppghnchpaa.Gw Go.RowKit
set_option linter.unusedVariables false
attribute [local irreducible] Ev EvQ EvS EvH
def path_costs_S (f : Plan → Cell → Option (List Int)) : Prop := ∀ (w0 : World) (I0 : Nat → Prop) (x_0 : Plan) (v_1 : Value) (r_2 : RepS (dI .u8) w0 I0 v_1 x_0.Cells) (x_3 : Cell) (hI : ∀ g, I0 g → g < w0.heap.size) (r : (List Int)), f x_0 x_3 = some r →
    Ret Try.prog 23 #[(.agg #[(.int .i64 x_0.W), (.int .i64 x_0.H), v_1]), (.agg #[(.int .i64 x_3.X), (.int .i64 x_3.Y)])] w0 fun v w1 => ∃ (I1 : Nat → Prop) (u_4 : Value), v = u_4 ∧ Hp ⟨w0, I0, []⟩ I1 [] w1 ∧ RepS (dI .i64) w1 I1 u_4 r
theorem path_costs_ok (n : Nat) : path_costs_S (path_costs n) := by
  intro w0 I0 x_0 v_1 r_2 x_3 hI r h
  unfold path_costs at h
  refine enter Try.func23 rfl (Nat.le_of_ble_eq_true rfl) ?_
  have hp : Hp ⟨w0, I0, []⟩ I0 [] w0 := Hp.start hI
  apply go
  apply go
  refine ev_boxI hp rfl rfl ?_
  intro p_4 I_5 w_6 hp hs a_7
  replace r_2 := r_2.step hs
  refine ev_boxI hp rfl rfl ?_
  intro p_8 I_9 w_a hp hs a_b
  replace a_7 := a_7.step hs
  replace r_2 := r_2.step hs
  apply go
  apply go
  refine ev_litN (d := (dI .i64)) (xs := [(-1)]) (cs := [(.int .i64 (-1))]) hp rfl rfl Try.underlying35 T3 (by decide) rfl rfl (Elems.cons (d := (dI .i64)) (xs := _) rfl (Elems.nil _ _ _ _)) ?_
  intro v_c I_d w_e hp hs r_f
  replace a_7 := a_7.step hs
  replace r_2 := r_2.step hs
  replace a_b := a_b.step hs
  refine ev0 (rn_field rfl rfl FO24_0) ?_
  refine ev (rn_load rfl rfl (run_loadVar1 T3 (a_7.2 0 _ rfl))) ?_
  refine ev0 (rn_field rfl rfl FO24_1) ?_
  refine ev (rn_load rfl rfl (run_loadVar1 T3 (a_7.2 1 _ rfl))) ?_
  obtain ⟨x_g, q_h, h⟩ := bind_some h
  refine ev_call rfl rfl C33 (((slices_Repeatint_int__ok n) _ _  [(-1)] v_c r_f (IntKind.i64.wrap (x_0.W * x_0.H)) hp.imm _ q_h).mono ?_)
  rintro _ w_i ⟨I_j, v_k, e_l, hv, hq, o_m⟩
  replace hv := hv.symm
  subst hv
  have hs := hq.st
  have hp := hp.join0 hq
  replace a_7 := a_7.step hs
  replace r_2 := r_2.step hs
  replace a_b := a_b.step hs
  apply go
  apply go
  refine ev (rn_load rfl rfl (run_loadVarA T26 rfl a_b)) ?_
  refine ev0 (fun w => rn_build (cs := [(.int .i64 x_3.X), (.int .i64 x_3.Y), (.int .i64 0)]) rfl rfl T73 PL73 rfl) ?_
  refine ev_litON (d := dVisit) (xs := [(Visit.mk (Cell.mk x_3.X x_3.Y) 0)]) (cs := [(.int .i64 x_3.X), (.int .i64 x_3.Y), (.int .i64 0)]) hp rfl rfl Try.underlying75 T73 (by decide) (by decide) rfl rfl (Elems.cons (d := dVisit) (xs := _) dVisit_m (Elems.nil _ _ _ _)) ?_
  intro v_n e_o w_p hp hs o_q
  replace a_7 := a_7.step hs
  replace r_2 := r_2.step hs
  replace o_m := o_m.step hs
  refine ev_alloc hp rfl T75 ?_
  intro g_r w_s hp hs
  replace a_7 := a_7.step hs
  replace r_2 := r_2.step hs
  replace o_m := o_m.step hs
  replace o_q := o_q.step hs
  refine ev_store1 hp (i := 0) (off := 0) rfl rfl rfl rfl T75 o_q.one (Nat.le_of_ble_eq_true rfl) ?_
  intro w_t hp hs
  replace a_7 := a_7.step hs
  replace r_2 := r_2.step hs
  replace o_m := o_m.step hs
  replace o_q := o_q.step hs
  obtain ⟨y_u, q_v, h⟩ := bind_some h
  refine W.cut (γ := ((List Int) × Ent × (Nat → Prop))) (fun g => [(5, v_k)]) (fun g w' => y_u = (g.1) ∧ Hp ⟨w0, I0, []⟩ (g.2.2) [(g.2.1)] w' ∧ OwnS (dI .i64) 3 w' (g.2.2) v_k (g.2.1) (g.1)) ?_ ?_
  ·
    apply go
    have hp := hp.perm [2, 1, 0] (by decide)
    refine W.loop q_v (γ := (Ent × Value × Ent × (Nat → Prop))) (fun s g => [(2, (.pointer (some (p_4)))), (5, v_k), (6, (.pointer (some ⟨g_r, 0, none⟩)))]) (fun s g w' => Hp ⟨w0, I0, []⟩ (g.2.2.2) [(g.1), (g.2.2.1), some (g_r, [(g.2.1)], 75)] w' ∧ RepS (dI .u8) w' (g.2.2.2) v_1 x_0.Cells ∧ At w' (g.2.2.2) p_4 [(.int .i64 x_0.W), (.int .i64 x_0.H), v_1] ∧ OwnS (dI .i64) 3 w' (g.2.2.2) v_k (g.1) (s.1) ∧ OwnS dVisit 73 w' (g.2.2.2) (g.2.1) (g.2.2.1) (s.2)) (e_l, v_n, e_o, I_j) (.c rfl (.c rfl (.c rfl .n))) ⟨hp, r_2, a_7, o_m, o_q⟩ ?_
    rintro ⟨x_w, x_x⟩ ⟨e_y, v_z, e_10, I_11⟩ w_12 y_13 ⟨hp, r_2, a_7, o_14, o_15⟩ q_16 q_17
    unfold path_costs_L6 at q_16
    apply go
    apply go
    apply go
    refine ev (rn_load rfl rfl (run_loadVar1 T75 (hp.cell (i := 2) (off := 0) rfl rfl))) ?_
    refine ev0 (x_lenO rfl rfl Try.underlying75 o_15) ?_
    apply go
    refine sel_of (fun hc => ?_) (fun hc => ?_)
    ·
      have q_16 := cond_t q_16 hc
      apply go
      apply go
      apply go
      apply go
      obtain ⟨⟨x_18, x_19⟩, q_1a, q_16⟩ := bind_some q_16
      refine ev_call rfl rfl C34 (((path_heap_pop_ok n) _ _  x_x g_r [some (g_r, [v_z], 75), e_10] ⟨v_z, e_10, rfl, o_15⟩ (hp.lendL [2, 1] (by decide)) _ q_1a).mono ?_)
      rintro _ w_1b ⟨I_1c, F_1d, hv, hq11601, q_1e⟩
      replace hv := hv.symm
      subst hv
      obtain ⟨v_1f, e_1g, rfl, o_1h⟩ := q_1e
      have hs := hq11601.st
      have hp := hp.backL [2, 1] [0] (by decide) hq11601
      replace a_7 := a_7.step hs
      replace r_2 := r_2.step hs
      replace o_14 := o_14.step hs
      refine ev_alloc hp rfl T73 ?_
      intro g_1i w_1j hp hs
      replace a_7 := a_7.step hs
      replace r_2 := r_2.step hs
      replace o_14 := o_14.step hs
      replace o_1h := o_1h.step hs
      refine ev_storeA hp (i := 0) (off := 0) (vs := [(.int .i64 x_18.c.X), (.int .i64 x_18.c.Y), (.int .i64 x_18.n_)]) rfl rfl rfl rfl T73 rfl (Nat.le_of_ble_eq_true rfl) (ones_of rfl) ?_
      intro w_1k hp hs
      replace a_7 := a_7.step hs
      replace r_2 := r_2.step hs
      replace o_14 := o_14.step hs
      replace o_1h := o_1h.step hs
      apply go
      apply go
      refine ev0 (rn_field rfl rfl FO73_0) ?_
      refine ev0 (rn_field rfl rfl FO26_1) ?_
      refine ev (rn_load rfl rfl (run_loadVar1 T3 (hp.cell (i := 0) (off := 1) rfl rfl))) ?_
      refine ev0 (rn_field rfl rfl FO24_0) ?_
      refine ev (rn_load rfl rfl (run_loadVar1 T3 (a_7.2 0 _ rfl))) ?_
      refine ev0 (rn_field rfl rfl FO73_0) ?_
      refine ev0 (rn_field rfl rfl FO26_0) ?_
      refine ev (rn_load rfl rfl (run_loadVar1 T3 (hp.cell (i := 0) (off := 0) rfl rfl))) ?_
      obtain ⟨x_1l, q_1m, q_16⟩ := bind_some q_16
      refine ev_indexO rfl rfl rfl Try.underlying35 T3 o_14 q_1m ?_
      intro g_1n c_1o h_1p d_1q l_1r
      apply go
      apply go
      apply go
      refine ev (rn_load rfl rfl (run_loadVar1 T3 (hp.cellE (i := 3) rfl h_1p d_1q (j := 0) rfl))) ?_
      apply go
      refine sel_of (fun hc => ?_) (fun hc => ?_)
      ·
        have q_16 := cond_t q_16 hc
        apply go
        have hp := hp.perm [3, 2, 1] (by decide)
        exact ⟨_, (Option.some.inj q_16).symm, (e_y, v_1f, e_1g, I_1c), (.c rfl (.c rfl (.c rfl .n))), ⟨hp, r_2, a_7, o_14, o_1h⟩⟩
      ·
        have q_16 := cond_f q_16 hc
        apply go
        apply go
        apply go
        refine ev0 (rn_field rfl rfl FO73_1) ?_
        refine ev (rn_load rfl rfl (run_loadVar1 T3 (hp.cell (i := 0) (off := 2) rfl rfl))) ?_
        refine ev_storeE hp (i := 3) rfl h_1p rfl rfl rfl T3 o_14 q_1m (x0 := x_18.n_) rfl ?_
        intro e_1s w_1t hp hs o_1u
        replace a_7 := a_7.step hs
        replace r_2 := r_2.step hs
        replace o_1h := o_1h.step hs
        apply go
        apply go
        obtain ⟨x_1v, q_1w, q_16⟩ := bind_some q_16
        refine ev_call rfl rfl C24 (((path_turns_ok n) _ _   hp.imm _ q_1w).mono ?_)
        rintro _ w_1x ⟨I_1y, v_1z, hv, hq, r_20⟩
        replace hv := hv.symm
        subst hv
        have hs := hq.st
        have hp := hp.join0 hq
        replace a_7 := a_7.step hs
        replace r_2 := r_2.step hs
        replace o_1u := o_1u.step hs
        replace o_1h := o_1h.step hs
        apply go
        have hp := hp.perm [3, 2, 1, 0] (by decide)
        refine W.loop q_16 (γ := (Value × Ent × (Nat → Prop))) (fun s g => [(2, (.pointer (some (p_4)))), (5, v_k), (6, (.pointer (some ⟨g_r, 0, none⟩))), (7, (.pointer (some ⟨g_1i, 0, none⟩))), (48, (.agg v_1z.toArray)), (49, (.int .i64 (s.2)))]) (fun s g w' => Hp ⟨w0, I0, []⟩ (g.2.2) [e_1s, (g.2.1), some (g_r, [(g.1)], 75), some (g_1i, [(.int .i64 x_18.c.X), (.int .i64 x_18.c.Y), (.int .i64 x_18.n_)], 73)] w' ∧ RepS (dI .u8) w' (g.2.2) v_1 x_0.Cells ∧ At w' (g.2.2) p_4 [(.int .i64 x_0.W), (.int .i64 x_0.H), v_1] ∧ OwnS (dI .i64) 3 w' (g.2.2) v_k e_1s (upd x_w (IntKind.i64.wrap ((IntKind.i64.wrap (x_18.c.Y * x_0.W)) + x_18.c.X)) x_18.n_) ∧ OwnS dVisit 73 w' (g.2.2) (g.1) (g.2.1) (s.1) ∧ (dA 8 dCell).rep w' (g.2.2) v_1z x_1v) (v_1f, e_1g, I_1y) (.c rfl (.c rfl (.c rfl (.c rfl (.c rfl (.c rfl .n)))))) ⟨hp, r_2, a_7, o_1u, o_1h, r_20⟩ ?_
        rintro ⟨x_21, x_22⟩ ⟨v_23, e_24, I_25⟩ w_26 y_27 ⟨hp, r_2, a_7, o_1u, o_28, r_20⟩ q_29 q_2a
        unfold path_costs_L7 at q_29
        apply go
        apply go
        apply go
        apply go
        refine sel_of (fun hc => ?_) (fun hc => ?_)
        ·
          have q_29 := cond_t q_29 hc
          apply go
          obtain ⟨y_2b, q_2c, q_29⟩ := bind_some q_29
          refine W.cut (γ := ((List Visit) × Value × Ent × (Nat → Prop))) (fun g => [(2, (.pointer (some (p_4)))), (5, v_k), (6, (.pointer (some ⟨g_r, 0, none⟩))), (7, (.pointer (some ⟨g_1i, 0, none⟩))), (48, (.agg v_1z.toArray)), (49, (.int .i64 x_22))]) (fun g w' => y_2b = (g.1) ∧ Hp ⟨w0, I0, []⟩ (g.2.2.2) [e_1s, (g.2.2.1), some (g_r, [(g.2.1)], 75), some (g_1i, [(.int .i64 x_18.c.X), (.int .i64 x_18.c.Y), (.int .i64 x_18.n_)], 73)] w' ∧ RepS (dI .u8) w' (g.2.2.2) v_1 x_0.Cells ∧ At w' (g.2.2.2) p_4 [(.int .i64 x_0.W), (.int .i64 x_0.H), v_1] ∧ OwnS (dI .i64) 3 w' (g.2.2.2) v_k e_1s (upd x_w (IntKind.i64.wrap ((IntKind.i64.wrap (x_18.c.Y * x_0.W)) + x_18.c.X)) x_18.n_) ∧ OwnS dVisit 73 w' (g.2.2.2) (g.2.1) (g.2.2.1) (g.1) ∧ (dA 8 dCell).rep w' (g.2.2.2) v_1z x_1v) ?_ ?_
          ·
            apply go
            apply go
            apply go
            obtain ⟨x_2d, q_2e, q_2c⟩ := bind_some q_2c
            refine ev0 (rn_indexVA rfl rfl rfl Try.underlying60 T26 r_20 q_2e dCell_o) ?_
            refine ev_alloc hp rfl T26 ?_
            intro g_2f w_2g hp hs
            replace a_7 := a_7.step hs
            replace r_2 := r_2.step hs
            replace o_1u := o_1u.step hs
            replace r_20 := r_20.step hs
            replace o_28 := o_28.step hs
            refine ev_storeA hp (i := 0) (off := 0) (vs := [(.int .i64 x_2d.X), (.int .i64 x_2d.Y)]) rfl rfl rfl rfl T26 rfl (Nat.le_of_ble_eq_true rfl) (ones_of rfl) ?_
            intro w_2h hp hs
            replace a_7 := a_7.step hs
            replace r_2 := r_2.step hs
            replace o_1u := o_1u.step hs
            replace r_20 := r_20.step hs
            replace o_28 := o_28.step hs
            apply go
            apply go
            refine ev (rn_load rfl rfl (run_loadVarA T24 rfl a_7)) ?_
            refine ev0 (rn_field rfl rfl FO73_0) ?_
            refine ev (rn_load rfl rfl (run_loadVarA T26 rfl (((hp.at_ (i := 4) rfl).drop 0).take 2))) ?_
            refine ev (rn_load rfl rfl (run_loadVarA T26 rfl (hp.at_ (i := 0) rfl))) ?_
            obtain ⟨⟨x_2i, x_2j, x_2k⟩, q_2l, q_2c⟩ := bind_some q_2c
            refine ev_call rfl rfl C25 (((path_cost_ok n) _ _  (Plan.mk x_0.W x_0.H x_0.Cells) v_1 r_2 (Cell.mk x_18.c.X x_18.c.Y) (Cell.mk x_2d.X x_2d.Y) hp.imm _ q_2l).mono ?_)
            rintro _ w_2m ⟨rfl, hc⟩
            have hs := hp.stp hc
            replace hp := hp.ext hc
            replace a_7 := a_7.step hs
            replace r_2 := r_2.step hs
            replace o_1u := o_1u.step hs
            replace r_20 := r_20.step hs
            replace o_28 := o_28.step hs
            refine ev_alloc hp rfl T26 ?_
            intro g_2n w_2o hp hs
            replace a_7 := a_7.step hs
            replace r_2 := r_2.step hs
            replace o_1u := o_1u.step hs
            replace r_20 := r_20.step hs
            replace o_28 := o_28.step hs
            refine ev_storeA hp (i := 0) (off := 0) (vs := [(.int .i64 x_2i.X), (.int .i64 x_2i.Y)]) rfl rfl rfl rfl T26 rfl (Nat.le_of_ble_eq_true rfl) (ones_of rfl) ?_
            intro w_2p hp hs
            replace a_7 := a_7.step hs
            replace r_2 := r_2.step hs
            replace o_1u := o_1u.step hs
            replace r_20 := r_20.step hs
            replace o_28 := o_28.step hs
            obtain ⟨y_2q, q_2r, q_2c⟩ := bind_some q_2c
            refine W.cut (γ := Bool) (fun g => [(2, (.pointer (some (p_4)))), (5, v_k), (6, (.pointer (some ⟨g_r, 0, none⟩))), (7, (.pointer (some ⟨g_1i, 0, none⟩))), (11, (.pointer (some ⟨g_2n, 0, none⟩))), (12, (.int .i64 x_2j)), (48, (.agg v_1z.toArray)), (49, (.int .i64 x_22)), (75, (.bool (g)))]) (fun g w' => y_2q = (g) ∧ w_2p = w') ?_ ?_
            ·
              apply go
              refine sel_of (fun hc => ?_) (fun hc => ?_)
              ·
                have q_2r := cond_t q_2r hc
                refine ev0 (rn_field rfl rfl FO26_1) ?_
                refine ev (rn_load rfl rfl (run_loadVar1 T3 (hp.cell (i := 0) (off := 1) rfl rfl))) ?_
                refine ev0 (rn_field rfl rfl FO24_0) ?_
                refine ev (rn_load rfl rfl (run_loadVar1 T3 (a_7.2 0 _ rfl))) ?_
                refine ev0 (rn_field rfl rfl FO26_0) ?_
                refine ev (rn_load rfl rfl (run_loadVar1 T3 (hp.cell (i := 0) (off := 0) rfl rfl))) ?_
                obtain ⟨x_2s, q_2t, q_2r⟩ := bind_some q_2r
                refine ev_indexO rfl rfl rfl Try.underlying35 T3 o_1u q_2t ?_
                intro g_2u c_2v h_2w d_2x l_2y
                refine ev (rn_load rfl rfl (run_loadVar1 T3 (hp.cellE (i := 2) rfl h_2w d_2x (j := 0) rfl))) ?_
                obtain rfl := Option.some.inj q_2r
                exact ⟨(decide (x_2s < 0)), (.c rfl (.c rfl (.c rfl (.c rfl (.c rfl (.c rfl (.c rfl (.c rfl (.c rfl .n))))))))), rfl, rfl⟩
              ·
                have q_2r := cond_f q_2r hc
                obtain rfl := Option.some.inj q_2r
                exact ⟨false, (.c rfl (.c rfl (.c rfl (.c rfl (.c rfl (.c rfl (.c rfl (.c rfl (.c rfl .n))))))))), rfl, rfl⟩
            ·
              rintro x_2z _ ⟨hy, rfl⟩
              replace hy := hy.symm
              subst hy
              apply go
              refine sel_of (fun hc => ?_) (fun hc => ?_)
              ·
                have q_2c := cond_t q_2c hc
                apply go
                refine ev (rn_load rfl rfl (run_loadVarA T26 rfl (hp.at_ (i := 0) rfl))) ?_
                refine ev0 (rn_field rfl rfl FO73_1) ?_
                refine ev (rn_load rfl rfl (run_loadVar1 T3 (hp.cell (i := 5) (off := 2) rfl rfl))) ?_
                refine ev0 (fun w => rn_build (cs := [(.int .i64 x_2i.X), (.int .i64 x_2i.Y), (.int .i64 (IntKind.i64.wrap (x_18.n_ + x_2j)))]) rfl rfl T73 PL73 rfl) ?_
                obtain ⟨x_30, q_31, q_2c⟩ := bind_some q_2c
                refine ev_call rfl rfl C35 (((path_heap_push_ok n) _ _  x_21 g_r [some (g_r, [v_23], 75), e_24] ⟨v_23, e_24, rfl, o_28⟩ (Visit.mk (Cell.mk x_2i.X x_2i.Y) (IntKind.i64.wrap (x_18.n_ + x_2j))) (hp.lendL [4, 3] (by decide)) _ q_31).mono ?_)
                rintro _ w_32 ⟨I_33, F_34, hv, hq11915, q_35⟩
                replace hv := hv.symm
                subst hv
                obtain ⟨v_36, e_37, rfl, o_38⟩ := q_35
                have hs := hq11915.st
                have hp := hp.backL [4, 3] [0, 1, 2, 5] (by decide) hq11915
                replace a_7 := a_7.step hs
                replace r_2 := r_2.step hs
                replace o_1u := o_1u.step hs
                replace r_20 := r_20.step hs
                obtain rfl := Option.some.inj q_2c
                have hp := hp.perm [4, 1, 0, 5] (by decide)
                exact ⟨(x_30, v_36, e_37, I_33), (.c rfl (.c rfl (.c rfl (.c rfl (.c rfl (.c rfl .n)))))), rfl, hp, r_2, a_7, o_1u, o_38, r_20⟩
              ·
                have q_2c := cond_f q_2c hc
                apply go
                obtain rfl := Option.some.inj q_2c
                have hp := hp.sel [2, 3, 4, 5] (by decide)
                exact ⟨(x_21, v_23, e_24, I_25), (.c rfl (.c rfl (.c rfl (.c rfl (.c rfl (.c rfl .n)))))), rfl, hp, r_2, a_7, o_1u, o_28, r_20⟩
          ·
            rintro ⟨x_39, v_3a, e_3b, I_3c⟩ w_3d ⟨hy, hp, r_2, a_7, o_1u, o_3e, r_20⟩
            replace hy := hy.symm
            subst hy
            apply go
            exact ⟨_, (Option.some.inj q_29).symm, (v_3a, e_3b, I_3c), (.c rfl (.c rfl (.c rfl (.c rfl (.c rfl (.c rfl .n)))))), ⟨hp, r_2, a_7, o_1u, o_3e, r_20⟩⟩
        ·
          have q_29 := cond_f q_29 hc
          apply go
          have q_3f := congrArg some (q_2a _ (Option.some.inj q_29).symm)
          have hp := hp.sel [0, 1, 2] (by decide)
          exact ⟨_, (Option.some.inj q_3f).symm, (e_1s, v_23, e_24, I_25), (.c rfl (.c rfl (.c rfl .n))), ⟨hp, r_2, a_7, o_1u, o_28⟩⟩
    ·
      have q_16 := cond_f q_16 hc
      apply go
      have q_3g := congrArg some (q_17 _ (Option.some.inj q_16).symm)
      obtain rfl := Option.some.inj q_3g
      have hp := hp.sel [0] (by decide)
      exact ⟨(x_w, e_y, I_11), (.c rfl .n), rfl, hp, o_14⟩
  ·
    rintro ⟨x_3h, e_3i, I_3j⟩ w_3k ⟨hy, hp, o_3l⟩
    replace hy := hy.symm
    subst hy
    apply go
    apply go
    apply go
    obtain rfl := Option.some.inj h
    have r_3m := o_3l.frz hp (i := 0) rfl
    obtain ⟨hp, hs⟩ := freeze_hp hp (i := 0) rfl
    have hp := hp.sel [] (by decide)
    exact ⟨(Ad I_3j e_3i), v_k, rfl, hp, r_3m⟩

end Go.Proofs.Ytcdboppghnchpaa

namespace Go.Proofs.Ytcdboppghnchpaa
open Go Go.Proofs.Ytcdboppghnchpaa.Gw Go.RowKit
set_option linter.unusedVariables false
attribute [local irreducible] Ev EvQ EvS EvH
def path_Costs_S (f : Plan → Cell → Option ((List Int) × Int)) : Prop := ∀ (w0 : World) (I0 : Nat → Prop) (x_0 : Plan) (v_1 : Value) (r_2 : RepS (dI .u8) w0 I0 v_1 x_0.Cells) (x_3 : Cell) (hI : ∀ g, I0 g → g < w0.heap.size) (r : ((List Int) × Int)), f x_0 x_3 = some r →
    Ret Try.prog 7 #[(.agg #[(.int .i64 x_0.W), (.int .i64 x_0.H), v_1]), (.agg #[(.int .i64 x_3.X), (.int .i64 x_3.Y)])] w0 fun v w1 => ∃ (I1 : Nat → Prop) (u_4 : Value), v = (.tuple #[u_4, (.int .i64 r.2)]) ∧ Hp ⟨w0, I0, []⟩ I1 [] w1 ∧ RepS (dI .i64) w1 I1 u_4 r.1
theorem path_Costs_ok (n : Nat) : path_Costs_S (path_Costs n) := by
  intro w0 I0 x_0 v_1 r_2 x_3 hI r h
  unfold path_Costs at h
  refine enter Try.func7 rfl (Nat.le_of_ble_eq_true rfl) ?_
  have hp : Hp ⟨w0, I0, []⟩ I0 [] w0 := Hp.start hI
  apply go
  apply go
  refine ev_boxI hp rfl rfl ?_
  intro p_4 I_5 w_6 hp hs a_7
  replace r_2 := r_2.step hs
  refine ev_boxI hp rfl rfl ?_
  intro p_8 I_9 w_a hp hs a_b
  replace a_7 := a_7.step hs
  replace r_2 := r_2.step hs
  apply go
  apply go
  apply go
  apply go
  refine ev (rn_load rfl rfl (run_loadVarA T24 rfl a_7)) ?_
  obtain ⟨x_c, q_d, h⟩ := bind_some h
  refine ev_call rfl rfl C13 (((plan_Valid_ok n) _ _  (Plan.mk x_0.W x_0.H x_0.Cells) v_1 r_2 hp.imm _ q_d).mono ?_)
  rintro _ w_e ⟨rfl, hc⟩
  have hs := hp.stp hc
  replace hp := hp.ext hc
  replace a_7 := a_7.step hs
  replace r_2 := r_2.step hs
  replace a_b := a_b.step hs
  apply go
  refine sel_of (fun hc => ?_) (fun hc => ?_)
  ·
    have h := cond_t h hc
    apply go
    apply go
    apply go
    obtain rfl := Option.some.inj h
    exact ⟨I_9, .slice none 0 0, rfl, hp, RepS.nil _ _ _⟩
  ·
    have h := cond_f h hc
    apply go
    apply go
    refine ev (rn_load rfl rfl (run_loadVarA T24 rfl a_7)) ?_
    refine ev (rn_load rfl rfl (run_loadVarA T26 rfl a_b)) ?_
    obtain ⟨x_f, q_g, h⟩ := bind_some h
    refine ev_call rfl rfl C22 (((path_free_ok n) _ _  (Plan.mk x_0.W x_0.H x_0.Cells) v_1 r_2 (Cell.mk x_3.X x_3.Y) hp.imm _ q_g).mono ?_)
    rintro _ w_h ⟨rfl, hc⟩
    have hs := hp.stp hc
    replace hp := hp.ext hc
    replace a_7 := a_7.step hs
    replace r_2 := r_2.step hs
    replace a_b := a_b.step hs
    apply go
    refine sel_of (fun hc => ?_) (fun hc => ?_)
    ·
      have h := cond_t h hc
      apply go
      apply go
      apply go
      obtain rfl := Option.some.inj h
      exact ⟨I_9, .slice none 0 0, rfl, hp, RepS.nil _ _ _⟩
    ·
      have h := cond_f h hc
      apply go
      apply go
      apply go
      refine ev (rn_load rfl rfl (run_loadVarA T24 rfl a_7)) ?_
      refine ev (rn_load rfl rfl (run_loadVarA T26 rfl a_b)) ?_
      obtain ⟨x_i, q_j, h⟩ := bind_some h
      refine ev_call rfl rfl C23 (((path_costs_ok n) _ _  (Plan.mk x_0.W x_0.H x_0.Cells) v_1 r_2 (Cell.mk x_3.X x_3.Y) hp.imm _ q_j).mono ?_)
      rintro _ w_k ⟨I_l, v_m, hv, hq, r_n⟩
      replace hv := hv.symm
      subst hv
      have hs := hq.st
      have hp := hp.join0 hq
      apply go
      obtain rfl := Option.some.inj h
      exact ⟨I_l, v_m, rfl, hp, r_n⟩

end Go.Proofs.Ytcdboppghnchpaa

namespace Go.Proofs.Ytcdboppghnchpaa
open Go Go.Proofs.Ytcdboppghnchpaa.Gw Go.RowKit
set_option linter.unusedVariables false
attribute [local irreducible] Ev EvQ EvS EvH
def frontier_is_S (f : Plan → Cell → Int → Option Bool) : Prop := ∀ (w0 : World) (I0 : Nat → Prop) (x_0 : Plan) (v_1 : Value) (r_2 : RepS (dI .u8) w0 I0 v_1 x_0.Cells) (x_3 : Cell) (x_4 : Int) (hI : ∀ g, I0 g → g < w0.heap.size) (r : Bool), f x_0 x_3 x_4 = some r →
    Ret Try.prog 36 #[(.agg #[(.int .i64 x_0.W), (.int .i64 x_0.H), v_1]), (.agg #[(.int .i64 x_3.X), (.int .i64 x_3.Y)]), (.int .u8 x_4)] w0 fun v w1 => v = (.bool r) ∧ Ch [] w0 w1
theorem frontier_is_ok (n : Nat) : frontier_is_S (frontier_is n) := by
  intro w0 I0 x_0 v_1 r_2 x_3 x_4 hI r h
  unfold frontier_is at h
  refine enter Try.func36 rfl (Nat.le_of_ble_eq_true rfl) ?_
  have hp : Hp ⟨w0, I0, []⟩ I0 [] w0 := Hp.start hI
  apply go
  apply go
  refine ev_boxI hp rfl rfl ?_
  intro p_5 I_6 w_7 hp hs a_8
  replace r_2 := r_2.step hs
  refine ev_boxI hp rfl rfl ?_
  intro p_9 I_a w_b hp hs a_c
  replace a_8 := a_8.step hs
  replace r_2 := r_2.step hs
  obtain ⟨y_d, q_e, h⟩ := bind_some h
  refine W.cut (γ := Bool) (fun g => [(6, (.bool (g)))]) (fun g w' => y_d = (g) ∧ w_b = w') ?_ ?_
  ·
    apply go
    refine ev0 (rn_field rfl rfl FO26_0) ?_
    refine ev (rn_load rfl rfl (run_loadVar1 T3 (a_c.2 0 _ rfl))) ?_
    refine sel_of (fun hc => ?_) (fun hc => ?_)
    ·
      have q_e := cond_t q_e hc
      refine ev0 (rn_field rfl rfl FO26_0) ?_
      refine ev (rn_load rfl rfl (run_loadVar1 T3 (a_c.2 0 _ rfl))) ?_
      refine ev0 (rn_field rfl rfl FO24_0) ?_
      refine ev (rn_load rfl rfl (run_loadVar1 T3 (a_8.2 0 _ rfl))) ?_
      refine sel_of (fun hc => ?_) (fun hc => ?_)
      ·
        have q_e := cond_t q_e hc
        refine ev0 (rn_field rfl rfl FO26_1) ?_
        refine ev (rn_load rfl rfl (run_loadVar1 T3 (a_c.2 1 _ rfl))) ?_
        refine sel_of (fun hc => ?_) (fun hc => ?_)
        ·
          have q_e := cond_t q_e hc
          refine ev0 (rn_field rfl rfl FO26_1) ?_
          refine ev (rn_load rfl rfl (run_loadVar1 T3 (a_c.2 1 _ rfl))) ?_
          refine ev0 (rn_field rfl rfl FO24_1) ?_
          refine ev (rn_load rfl rfl (run_loadVar1 T3 (a_8.2 1 _ rfl))) ?_
          refine sel_of (fun hc => ?_) (fun hc => ?_)
          ·
            have q_e := cond_t q_e hc
            refine ev0 (rn_field rfl rfl FO24_2) ?_
            refine ev (rn_load rfl rfl (run_loadVar1 T22 (a_8.2 2 _ rfl))) ?_
            refine ev0 (rn_field rfl rfl FO26_1) ?_
            refine ev (rn_load rfl rfl (run_loadVar1 T3 (a_c.2 1 _ rfl))) ?_
            refine ev0 (rn_field rfl rfl FO24_0) ?_
            refine ev (rn_load rfl rfl (run_loadVar1 T3 (a_8.2 0 _ rfl))) ?_
            refine ev0 (rn_field rfl rfl FO26_0) ?_
            refine ev (rn_load rfl rfl (run_loadVar1 T3 (a_c.2 0 _ rfl))) ?_
            obtain ⟨x_f, q_g, q_e⟩ := bind_some q_e
            refine ev_index rfl rfl rfl Try.underlying22 T5 r_2 q_g ?_
            intro p_h c_i d_j a_k
            obtain rfl : c_i = [(.int .u8 x_f)] := d_j
            refine ev (rn_load rfl rfl (run_loadVar1 T5 (a_k.2 0 _ rfl))) ?_
            obtain rfl := Option.some.inj q_e
            exact ⟨(x_f == x_4), (.c rfl .n), rfl, rfl⟩
          ·
            have q_e := cond_f q_e hc
            obtain rfl := Option.some.inj q_e
            exact ⟨false, (.c rfl .n), rfl, rfl⟩
        ·
          have q_e := cond_f q_e hc
          obtain rfl := Option.some.inj q_e
          exact ⟨false, (.c rfl .n), rfl, rfl⟩
      ·
        have q_e := cond_f q_e hc
        obtain rfl := Option.some.inj q_e
        exact ⟨false, (.c rfl .n), rfl, rfl⟩
    ·
      have q_e := cond_f q_e hc
      obtain rfl := Option.some.inj q_e
      exact ⟨false, (.c rfl .n), rfl, rfl⟩
  ·
    rintro x_l _ ⟨hy, rfl⟩
    replace hy := hy.symm
    subst hy
    apply go
    obtain rfl := Option.some.inj h
    exact ⟨rfl, hp.ch⟩

end Go.Proofs.Ytcdboppghnchpaa

namespace Go.Proofs.Ytcdboppghnchpaa
open Go Go.Proofs.Ytcdboppghnchpaa.Gw Go.RowKit
set_option linter.unusedVariables false
attribute [local irreducible] Ev EvQ EvS EvH
def frontier_cells_S (f : Plan → Option (List Cell)) : Prop := ∀ (w0 : World) (I0 : Nat → Prop) (x_0 : Plan) (v_1 : Value) (r_2 : RepS (dI .u8) w0 I0 v_1 x_0.Cells) (hI : ∀ g, I0 g → g < w0.heap.size) (r : (List Cell)), f x_0 = some r →
    Ret Try.prog 28 #[(.agg #[(.int .i64 x_0.W), (.int .i64 x_0.H), v_1])] w0 fun v w1 => ∃ (I1 : Nat → Prop) (u_3 : Value), v = u_3 ∧ Hp ⟨w0, I0, []⟩ I1 [] w1 ∧ RepS dCell w1 I1 u_3 r
theorem frontier_cells_ok (n : Nat) : frontier_cells_S (frontier_cells n) := by
  intro w0 I0 x_0 v_1 r_2 hI r h
  unfold frontier_cells at h
  refine enter Try.func28 rfl (Nat.le_of_ble_eq_true rfl) ?_
  have hp : Hp ⟨w0, I0, []⟩ I0 [] w0 := Hp.start hI
  apply go
  apply go
  refine ev_boxI hp rfl rfl ?_
  intro p_3 I_4 w_5 hp hs a_6
  replace r_2 := r_2.step hs
  apply go
  apply go
  obtain ⟨y_7, q_8, h⟩ := bind_some h
  refine W.cut (γ := ((List Cell) × Value × Ent × (Nat → Prop))) (fun g => [(3, (g.2.1))]) (fun g w' => y_7 = (g.1) ∧ Hp ⟨w0, I0, []⟩ (g.2.2.2) [(g.2.2.1)] w' ∧ OwnS dCell 26 w' (g.2.2.2) (g.2.1) (g.2.2.1) (g.1)) ?_ ?_
  ·
    apply go
    apply go
    refine ev0 (rn_field rfl rfl FO24_1) ?_
    refine ev (rn_load rfl rfl (run_loadVar1 T3 (a_6.2 1 _ rfl))) ?_
    apply go
    have hp := hp.none_
    have o_9 := OwnS.nil dCell 26 w_5 I_4
    refine W.loop q_8 (γ := (Value × Ent × (Nat → Prop))) (fun s g => [(1, (.pointer (some (p_3)))), (3, (g.1)), (8, (.int .i64 x_0.H)), (9, (.int .i64 (s.2)))]) (fun s g w' => Hp ⟨w0, I0, []⟩ (g.2.2) [(g.2.1)] w' ∧ RepS (dI .u8) w' (g.2.2) v_1 x_0.Cells ∧ At w' (g.2.2) p_3 [(.int .i64 x_0.W), (.int .i64 x_0.H), v_1] ∧ OwnS dCell 26 w' (g.2.2) (g.1) (g.2.1) (s.1)) ((.slice none 0 0), none, I_4) (.c rfl (.c rfl (.c rfl (.c rfl .n)))) ⟨hp, r_2, a_6, o_9⟩ ?_
    rintro ⟨x_a, x_b⟩ ⟨v_c, e_d, I_e⟩ w_f y_g ⟨hp, r_2, a_6, o_h⟩ q_i q_j
    unfold frontier_cells_L11 at q_i
    apply go
    apply go
    apply go
    apply go
    refine sel_of (fun hc => ?_) (fun hc => ?_)
    ·
      have q_i := cond_t q_i hc
      apply go
      obtain ⟨y_k, q_l, q_i⟩ := bind_some q_i
      refine W.cut (γ := ((List Cell) × Value × Ent × (Nat → Prop))) (fun g => [(1, (.pointer (some (p_3)))), (3, (g.2.1)), (8, (.int .i64 x_0.H)), (9, (.int .i64 x_b))]) (fun g w' => y_k = (g.1) ∧ Hp ⟨w0, I0, []⟩ (g.2.2.2) [(g.2.2.1)] w' ∧ RepS (dI .u8) w' (g.2.2.2) v_1 x_0.Cells ∧ At w' (g.2.2.2) p_3 [(.int .i64 x_0.W), (.int .i64 x_0.H), v_1] ∧ OwnS dCell 26 w' (g.2.2.2) (g.2.1) (g.2.2.1) (g.1)) ?_ ?_
      ·
        apply go
        apply go
        apply go
        apply go
        apply go
        refine ev0 (rn_field rfl rfl FO24_0) ?_
        refine ev (rn_load rfl rfl (run_loadVar1 T3 (a_6.2 0 _ rfl))) ?_
        apply go
        refine W.loop q_l (γ := (Value × Ent × (Nat → Prop))) (fun s g => [(1, (.pointer (some (p_3)))), (3, (g.1)), (4, (.int .i64 x_b)), (8, (.int .i64 x_0.H)), (9, (.int .i64 x_b)), (13, (.int .i64 x_0.W)), (14, (.int .i64 (s.2)))]) (fun s g w' => Hp ⟨w0, I0, []⟩ (g.2.2) [(g.2.1)] w' ∧ RepS (dI .u8) w' (g.2.2) v_1 x_0.Cells ∧ At w' (g.2.2) p_3 [(.int .i64 x_0.W), (.int .i64 x_0.H), v_1] ∧ OwnS dCell 26 w' (g.2.2) (g.1) (g.2.1) (s.1)) (v_c, e_d, I_e) (.c rfl (.c rfl (.c rfl (.c rfl (.c rfl (.c rfl (.c rfl .n))))))) ⟨hp, r_2, a_6, o_h⟩ ?_
        rintro ⟨x_m, x_n⟩ ⟨v_o, e_p, I_q⟩ w_r y_s ⟨hp, r_2, a_6, o_t⟩ q_u q_v
        unfold frontier_cells_L13 at q_u
        apply go
        apply go
        apply go
        apply go
        refine sel_of (fun hc => ?_) (fun hc => ?_)
        ·
          have q_u := cond_t q_u hc
          apply go
          obtain ⟨y_w, q_x, q_u⟩ := bind_some q_u
          refine W.cut (γ := ((List Cell) × Value × Ent × (Nat → Prop))) (fun g => [(1, (.pointer (some (p_3)))), (3, (g.2.1)), (4, (.int .i64 x_b)), (8, (.int .i64 x_0.H)), (9, (.int .i64 x_b)), (13, (.int .i64 x_0.W)), (14, (.int .i64 x_n))]) (fun g w' => y_w = (g.1) ∧ Hp ⟨w0, I0, []⟩ (g.2.2.2) [(g.2.2.1)] w' ∧ RepS (dI .u8) w' (g.2.2.2) v_1 x_0.Cells ∧ At w' (g.2.2.2) p_3 [(.int .i64 x_0.W), (.int .i64 x_0.H), v_1] ∧ OwnS dCell 26 w' (g.2.2.2) (g.2.1) (g.2.2.1) (g.1)) ?_ ?_
          ·
            apply go
            apply go
            apply go
            apply go
            apply go
            refine ev0 (fun w => rn_build (cs := [(.int .i64 x_n), (.int .i64 x_b)]) rfl rfl T26 PL26 rfl) ?_
            refine ev_alloc hp rfl T26 ?_
            intro g_y w_z hp hs
            replace a_6 := a_6.step hs
            replace r_2 := r_2.step hs
            replace o_t := o_t.step hs
            refine ev_storeA hp (i := 0) (off := 0) (vs := [(.int .i64 x_n), (.int .i64 x_b)]) rfl rfl rfl rfl T26 rfl (Nat.le_of_ble_eq_true rfl) (ones_of rfl) ?_
            intro w_10 hp hs
            replace a_6 := a_6.step hs
            replace r_2 := r_2.step hs
            replace o_t := o_t.step hs
            apply go
            apply go
            apply go
            refine ev (rn_load rfl rfl (run_loadVarA T24 rfl a_6)) ?_
            refine ev (rn_load rfl rfl (run_loadVarA T26 rfl (hp.at_ (i := 0) rfl))) ?_
            obtain ⟨x_11, q_12, q_x⟩ := bind_some q_x
            refine ev_call rfl rfl C36 (((frontier_is_ok n) _ _  (Plan.mk x_0.W x_0.H x_0.Cells) v_1 r_2 (Cell.mk x_n x_b) 1 hp.imm _ q_12).mono ?_)
            rintro _ w_13 ⟨rfl, hc⟩
            have hs := hp.stp hc
            replace hp := hp.ext hc
            replace a_6 := a_6.step hs
            replace r_2 := r_2.step hs
            replace o_t := o_t.step hs
            apply go
            refine sel_of (fun hc => ?_) (fun hc => ?_)
            ·
              have q_x := cond_t q_x hc
              apply go
              obtain rfl := Option.some.inj q_x
              have hp := hp.sel [1] (by decide)
              exact ⟨(x_m, v_o, e_p, I_q), (.c rfl (.c rfl (.c rfl (.c rfl (.c rfl (.c rfl (.c rfl .n))))))), rfl, hp, r_2, a_6, o_t⟩
            ·
              have q_x := cond_f q_x hc
              apply go
              obtain ⟨y_14, q_15, q_x⟩ := bind_some q_x
              refine W.cut (γ := Bool) (fun g => [(1, (.pointer (some (p_3)))), (3, v_o), (4, (.int .i64 x_b)), (6, (.pointer (some ⟨g_y, 0, none⟩))), (8, (.int .i64 x_0.H)), (9, (.int .i64 x_b)), (13, (.int .i64 x_0.W)), (14, (.int .i64 x_n)), (53, (.bool (g)))]) (fun g w' => y_14 = (g) ∧ Hp ⟨w0, I0, []⟩ I_q [e_p, some (g_y, [(.int .i64 x_n), (.int .i64 x_b)], 26)] w' ∧ RepS (dI .u8) w' I_q v_1 x_0.Cells ∧ At w' I_q p_3 [(.int .i64 x_0.W), (.int .i64 x_0.H), v_1] ∧ OwnS dCell 26 w' I_q v_o e_p x_m) ?_ ?_
              ·
                apply go
                refine ev (rn_load rfl rfl (run_loadVarA T24 rfl a_6)) ?_
                refine ev0 (fun w => rn_build (cs := [(.int .i64 (IntKind.i64.wrap (x_n + 1))), (.int .i64 x_b)]) rfl rfl T26 PL26 rfl) ?_
                obtain ⟨x_16, q_17, q_15⟩ := bind_some q_15
                refine ev_call rfl rfl C36 (((frontier_is_ok n) _ _  (Plan.mk x_0.W x_0.H x_0.Cells) v_1 r_2 (Cell.mk (IntKind.i64.wrap (x_n + 1)) x_b) 0 hp.imm _ q_17).mono ?_)
                rintro _ w_18 ⟨rfl, hc⟩
                have hs := hp.stp hc
                replace hp := hp.ext hc
                replace a_6 := a_6.step hs
                replace r_2 := r_2.step hs
                replace o_t := o_t.step hs
                refine sel_of (fun hc => ?_) (fun hc => ?_)
                ·
                  have q_15 := cond_t q_15 hc
                  obtain rfl := Option.some.inj q_15
                  have hp := hp.perm [1, 0] (by decide)
                  exact ⟨true, (.c rfl (.c rfl (.c rfl (.c rfl (.c rfl (.c rfl (.c rfl (.c rfl (.c rfl .n))))))))), rfl, hp, r_2, a_6, o_t⟩
                ·
                  have q_15 := cond_f q_15 hc
                  refine ev (rn_load rfl rfl (run_loadVarA T24 rfl a_6)) ?_
                  refine ev0 (fun w => rn_build (cs := [(.int .i64 (IntKind.i64.wrap (x_n - 1))), (.int .i64 x_b)]) rfl rfl T26 PL26 rfl) ?_
                  obtain ⟨x_19, q_1a, q_15⟩ := bind_some q_15
                  refine ev_call rfl rfl C36 (((frontier_is_ok n) _ _  (Plan.mk x_0.W x_0.H x_0.Cells) v_1 r_2 (Cell.mk (IntKind.i64.wrap (x_n - 1)) x_b) 0 hp.imm _ q_1a).mono ?_)
                  rintro _ w_1b ⟨rfl, hc⟩
                  have hs := hp.stp hc
                  replace hp := hp.ext hc
                  replace a_6 := a_6.step hs
                  replace r_2 := r_2.step hs
                  replace o_t := o_t.step hs
                  refine sel_of (fun hc => ?_) (fun hc => ?_)
                  ·
                    have q_15 := cond_t q_15 hc
                    obtain rfl := Option.some.inj q_15
                    have hp := hp.perm [1, 0] (by decide)
                    exact ⟨true, (.c rfl (.c rfl (.c rfl (.c rfl (.c rfl (.c rfl (.c rfl (.c rfl (.c rfl .n))))))))), rfl, hp, r_2, a_6, o_t⟩
                  ·
                    have q_15 := cond_f q_15 hc
                    refine ev (rn_load rfl rfl (run_loadVarA T24 rfl a_6)) ?_
                    refine ev0 (fun w => rn_build (cs := [(.int .i64 x_n), (.int .i64 (IntKind.i64.wrap (x_b + 1)))]) rfl rfl T26 PL26 rfl) ?_
                    obtain ⟨x_1c, q_1d, q_15⟩ := bind_some q_15
                    refine ev_call rfl rfl C36 (((frontier_is_ok n) _ _  (Plan.mk x_0.W x_0.H x_0.Cells) v_1 r_2 (Cell.mk x_n (IntKind.i64.wrap (x_b + 1))) 0 hp.imm _ q_1d).mono ?_)
                    rintro _ w_1e ⟨rfl, hc⟩
                    have hs := hp.stp hc
                    replace hp := hp.ext hc
                    replace a_6 := a_6.step hs
                    replace r_2 := r_2.step hs
                    replace o_t := o_t.step hs
                    refine sel_of (fun hc => ?_) (fun hc => ?_)
                    ·
                      have q_15 := cond_t q_15 hc
                      obtain rfl := Option.some.inj q_15
                      have hp := hp.perm [1, 0] (by decide)
                      exact ⟨true, (.c rfl (.c rfl (.c rfl (.c rfl (.c rfl (.c rfl (.c rfl (.c rfl (.c rfl .n))))))))), rfl, hp, r_2, a_6, o_t⟩
                    ·
                      have q_15 := cond_f q_15 hc
                      refine ev (rn_load rfl rfl (run_loadVarA T24 rfl a_6)) ?_
                      refine ev0 (fun w => rn_build (cs := [(.int .i64 x_n), (.int .i64 (IntKind.i64.wrap (x_b - 1)))]) rfl rfl T26 PL26 rfl) ?_
                      obtain ⟨x_1f, q_1g, q_15⟩ := bind_some q_15
                      refine ev_call rfl rfl C36 (((frontier_is_ok n) _ _  (Plan.mk x_0.W x_0.H x_0.Cells) v_1 r_2 (Cell.mk x_n (IntKind.i64.wrap (x_b - 1))) 0 hp.imm _ q_1g).mono ?_)
                      rintro _ w_1h ⟨rfl, hc⟩
                      have hs := hp.stp hc
                      replace hp := hp.ext hc
                      replace a_6 := a_6.step hs
                      replace r_2 := r_2.step hs
                      replace o_t := o_t.step hs
                      obtain rfl := Option.some.inj q_15
                      have hp := hp.perm [1, 0] (by decide)
                      exact ⟨x_1f, (.c rfl (.c rfl (.c rfl (.c rfl (.c rfl (.c rfl (.c rfl (.c rfl (.c rfl .n))))))))), rfl, hp, r_2, a_6, o_t⟩
              ·
                rintro x_1i w_1j ⟨hy, hp, r_2, a_6, o_t⟩
                replace hy := hy.symm
                subst hy
                apply go
                refine sel_of (fun hc => ?_) (fun hc => ?_)
                ·
                  have q_x := cond_t q_x hc
                  apply go
                  refine ev (rn_load rfl rfl (run_loadVarA T26 rfl (hp.at_ (i := 1) rfl))) ?_
                  refine ev_litN (d := dCell) (xs := [(Cell.mk x_n x_b)]) (cs := [(.int .i64 x_n), (.int .i64 x_b)]) hp rfl rfl Try.underlying28 T26 (by decide) rfl rfl (Elems.cons (d := dCell) (xs := _) dCell_m (Elems.nil _ _ _ _)) ?_
                  intro v_1k I_1l w_1m hp hs r_1n
                  replace a_6 := a_6.step hs
                  replace r_2 := r_2.step hs
                  replace o_t := o_t.step hs
                  obtain ⟨x_1o, q_1p, q_x⟩ := bind_some q_x
                  refine ev_append hp (i := 0) rfl rfl rfl rfl Try.underlying28 T26 rfl rfl o_t r_1n q_1p ?_
                  rintro v_1q e_1r w_1s hp hs o_1t
                  replace a_6 := a_6.step hs
                  replace r_2 := r_2.step hs
                  obtain rfl := Option.some.inj q_x
                  have hp := hp.sel [0] (by decide)
                  exact ⟨(x_1o, v_1q, e_1r, I_1l), (.c rfl (.c rfl (.c rfl (.c rfl (.c rfl (.c rfl (.c rfl .n))))))), rfl, hp, r_2, a_6, o_1t⟩
                ·
                  have q_x := cond_f q_x hc
                  apply go
                  obtain rfl := Option.some.inj q_x
                  have hp := hp.sel [0] (by decide)
                  exact ⟨(x_m, v_o, e_p, I_q), (.c rfl (.c rfl (.c rfl (.c rfl (.c rfl (.c rfl (.c rfl .n))))))), rfl, hp, r_2, a_6, o_t⟩
          ·
            rintro ⟨x_1u, v_1v, e_1w, I_1x⟩ w_1y ⟨hy, hp, r_2, a_6, o_1z⟩
            replace hy := hy.symm
            subst hy
            apply go
            exact ⟨_, (Option.some.inj q_u).symm, (v_1v, e_1w, I_1x), (.c rfl (.c rfl (.c rfl (.c rfl (.c rfl (.c rfl (.c rfl .n))))))), ⟨hp, r_2, a_6, o_1z⟩⟩
        ·
          have q_u := cond_f q_u hc
          apply go
          have q_20 := congrArg some (q_v _ (Option.some.inj q_u).symm)
          obtain rfl := Option.some.inj q_20
          exact ⟨(x_m, v_o, e_p, I_q), (.c rfl (.c rfl (.c rfl (.c rfl .n)))), rfl, hp, r_2, a_6, o_t⟩
      ·
        rintro ⟨x_21, v_22, e_23, I_24⟩ w_25 ⟨hy, hp, r_2, a_6, o_26⟩
        replace hy := hy.symm
        subst hy
        apply go
        exact ⟨_, (Option.some.inj q_i).symm, (v_22, e_23, I_24), (.c rfl (.c rfl (.c rfl (.c rfl .n)))), ⟨hp, r_2, a_6, o_26⟩⟩
    ·
      have q_i := cond_f q_i hc
      apply go
      have q_27 := congrArg some (q_j _ (Option.some.inj q_i).symm)
      obtain rfl := Option.some.inj q_27
      exact ⟨(x_a, v_c, e_d, I_e), (.c rfl .n), rfl, hp, o_h⟩
  ·
    rintro ⟨x_28, v_29, e_2a, I_2b⟩ w_2c ⟨hy, hp, o_2d⟩
    replace hy := hy.symm
    subst hy
    apply go
    apply go
    apply go
    obtain rfl := Option.some.inj h
    have r_2e := o_2d.frz hp (i := 0) rfl
    obtain ⟨hp, hs⟩ := freeze_hp hp (i := 0) rfl
    have hp := hp.sel [] (by decide)
    exact ⟨(Ad I_2b e_2a), v_29, rfl, hp, r_2e⟩

end Go.Proofs.Ytcdboppghnchpaa

namespace Go.Proofs.Ytcdboppghnchpaa
open Go Go.Proofs.Ytcdboppghnchpaa.Gw Go.RowKit
set_option linter.unusedVariables false
attribute [local irreducible] Ev EvQ EvS EvH
def cmp_Or_S (f : (List Int) → Option Int) : Prop := ∀ (w0 : World) (I0 : Nat → Prop) (x1000752 : (List Int)) (v1000753 : Value) (r1000754 : RepS (dI .i64) w0 I0 v1000753 x1000752) (hI : ∀ g, I0 g → g < w0.heap.size) (r : Int), f x1000752 = some r →
    Ret Try.prog 19 #[v1000753] w0 fun v w1 => v = (.int .i64 r) ∧ Ch [] w0 w1
theorem cmp_Or_ok (n : Nat) : cmp_Or_S (cmp_Or n) := by
  intro w0 I0 x1000752 v1000753 r1000754 hI r h
  unfold cmp_Or at h
  refine enter Try.func19 rfl (Nat.le_of_ble_eq_true rfl) ?_
  have hp : Hp ⟨w0, I0, []⟩ I0 [] w0 := Hp.start hI
  apply go
  apply go
  apply go
  apply go
  obtain ⟨y1000780, q1000781, h⟩ := bind_some h
  refine W.cut (γ := Unit) (fun _ => [(3, (.int .i64 0))]) (fun _ w' => y1000780 = .go () ∧ w0 = w') ?_ ?_
  ·
    apply go
    apply go
    refine ev0 (rn_len rfl rfl Try.underlying35 r1000754) ?_
    apply go
    refine W.loop q1000781 (γ := Unit) (fun s _ => [(3, (.int .i64 0)), (6, v1000753), (7, (.int .i64 (x1000752.length : Int))), (8, (.int .i64 (s)))]) (fun s _ w' => w0 = w') () (.c rfl (.c rfl (.c rfl (.c rfl .n)))) rfl ?_
    rintro x1000788 ⟨⟩ _ y1000796 rfl q1000797 q1000798
    unfold cmp_Or_L1 at q1000797
    apply go
    apply go
    apply go
    apply go
    refine sel_of (fun hc => ?_) (fun hc => ?_)
    ·
      have q1000797 := cond_t q1000797 hc
      apply go
      apply go
      apply go
      apply go
      apply go
      obtain ⟨x1000799, q1000800, q1000797⟩ := bind_some q1000797
      refine ev_index rfl rfl rfl Try.underlying35 T3 r1000754 q1000800 ?_
      intro p1000801 c1000802 d1000803 a1000804
      obtain rfl : c1000802 = [(.int .i64 x1000799)] := d1000803
      refine ev (rn_load rfl rfl (run_loadVar1 T3 (a1000804.2 0 _ rfl))) ?_
      apply go
      apply go
      apply go
      refine sel_of (fun hc => ?_) (fun hc => ?_)
      ·
        have q1000797 := cond_t q1000797 hc
        apply go
        apply go
        apply go
        have q1000805 := congrArg some (q1000798 _ (Option.some.inj q1000797).symm)
        obtain rfl := Option.some.inj q1000805
        obtain rfl := Option.some.inj h
        exact ⟨rfl, hp.ch⟩
      ·
        have q1000797 := cond_f q1000797 hc
        apply go
        apply go
        exact ⟨_, (Option.some.inj q1000797).symm, (), (.c rfl (.c rfl (.c rfl (.c rfl .n)))), rfl⟩
    ·
      have q1000797 := cond_f q1000797 hc
      apply go
      have q1000806 := congrArg some (q1000798 _ (Option.some.inj q1000797).symm)
      obtain rfl := Option.some.inj q1000806
      exact ⟨(), (.c rfl .n), rfl, rfl⟩
  ·
    rintro ⟨⟩ _ ⟨hy, rfl⟩
    replace hy := hy.symm
    subst hy
    apply go
    apply go
    apply go
    obtain rfl := Option.some.inj h
    exact ⟨rfl, hp.ch⟩

end Go.Proofs.Ytcdboppghnchpaa

namespace Go.Proofs.Ytcdboppghnchpaa
open Go Go.Proofs.Ytcdboppghnchpaa.Gw Go.RowKit
set_option linter.unusedVariables false
attribute [local irreducible] Ev EvQ EvS EvH
def cmp_isNaN_S (f : Int → Option Bool) : Prop := ∀ (w0 : World) (I0 : Nat → Prop) (x1000743 : Int) (hI : ∀ g, I0 g → g < w0.heap.size) (r : Bool), f x1000743 = some r →
    Ret Try.prog 32 #[(.int .i64 x1000743)] w0 fun v w1 => v = (.bool r) ∧ Ch [] w0 w1
theorem cmp_isNaN_ok (n : Nat) : cmp_isNaN_S (cmp_isNaN n) := by
  intro w0 I0 x1000743 hI r h
  unfold cmp_isNaN at h
  refine enter Try.func32 rfl (Nat.le_of_ble_eq_true rfl) ?_
  have hp : Hp ⟨w0, I0, []⟩ I0 [] w0 := Hp.start hI
  apply go
  apply go
  apply go
  apply go
  apply go
  obtain rfl := Option.some.inj h
  exact ⟨rfl, hp.ch⟩

end Go.Proofs.Ytcdboppghnchpaa

namespace Go.Proofs.Ytcdboppghnchpaa
open Go Go.Proofs.Ytcdboppghnchpaa.Gw Go.RowKit
set_option linter.unusedVariables false
attribute [local irreducible] Ev EvQ EvS EvH
def cmp_Compare_S (f : Int → Int → Option Int) : Prop := ∀ (w0 : World) (I0 : Nat → Prop) (x1000744 : Int) (x1000745 : Int) (hI : ∀ g, I0 g → g < w0.heap.size) (r : Int), f x1000744 x1000745 = some r →
    Ret Try.prog 20 #[(.int .i64 x1000744), (.int .i64 x1000745)] w0 fun v w1 => v = (.int .i64 r) ∧ Ch [] w0 w1
theorem cmp_Compare_ok (n : Nat) : cmp_Compare_S (cmp_Compare n) := by
  intro w0 I0 x1000744 x1000745 hI r h
  unfold cmp_Compare at h
  refine enter Try.func20 rfl (Nat.le_of_ble_eq_true rfl) ?_
  have hp : Hp ⟨w0, I0, []⟩ I0 [] w0 := Hp.start hI
  apply go
  apply go
  apply go
  apply go
  obtain ⟨x1000746, q1000747, h⟩ := bind_some h
  refine ev_call rfl rfl C32 (((cmp_isNaN_ok n) _ _  x1000744 hp.imm _ q1000747).mono ?_)
  rintro _ w1000748 ⟨rfl, hc⟩
  have hs := hp.stp hc
  replace hp := hp.ext hc
  apply go
  apply go
  obtain ⟨x1000749, q1000750, h⟩ := bind_some h
  refine ev_call rfl rfl C32 (((cmp_isNaN_ok n) _ _  x1000745 hp.imm _ q1000750).mono ?_)
  rintro _ w1000751 ⟨rfl, hc⟩
  have hs := hp.stp hc
  replace hp := hp.ext hc
  apply go
  apply go
  apply go
  apply go
  refine sel_of (fun hc => ?_) (fun hc => ?_)
  ·
    have h := cond_t h hc
    apply go
    apply go
    apply go
    apply go
    refine sel_of (fun hc => ?_) (fun hc => ?_)
    ·
      have h := cond_t h hc
      apply go
      apply go
      apply go
      obtain rfl := Option.some.inj h
      exact ⟨rfl, hp.ch⟩
    ·
      have h := cond_f h hc
      apply go
      apply go
      apply go
      apply go
      obtain rfl := Option.some.inj h
      exact ⟨rfl, hp.ch⟩
  ·
    have h := cond_f h hc
    apply go
    apply go
    apply go
    apply go
    apply go
    refine sel_of (fun hc => ?_) (fun hc => ?_)
    ·
      have h := cond_t h hc
      apply go
      apply go
      apply go
      obtain rfl := Option.some.inj h
      exact ⟨rfl, hp.ch⟩
    ·
      have h := cond_f h hc
      apply go
      apply go
      apply go
      apply go
      apply go
      refine sel_of (fun hc => ?_) (fun hc => ?_)
      ·
        have h := cond_t h hc
        apply go
        apply go
        apply go
        obtain rfl := Option.some.inj h
        exact ⟨rfl, hp.ch⟩
      ·
        have h := cond_f h hc
        apply go
        apply go
        apply go
        apply go
        apply go
        refine sel_of (fun hc => ?_) (fun hc => ?_)
        ·
          have h := cond_t h hc
          apply go
          apply go
          apply go
          obtain rfl := Option.some.inj h
          exact ⟨rfl, hp.ch⟩
        ·
          have h := cond_f h hc
          apply go
          apply go
          apply go
          apply go
          obtain rfl := Option.some.inj h
          exact ⟨rfl, hp.ch⟩

end Go.Proofs.Ytcdboppghnchpaa

namespace Go.Proofs.Ytcdboppghnchpaa
open Go Go.Proofs.Ytcdboppghnchpaa.Gw Go.RowKit
set_option linter.unusedVariables false
attribute [local irreducible] Ev EvQ EvS EvH
def frontier_compare_S (f : Cell → Cell → Option Int) : Prop := ∀ (w0 : World) (I0 : Nat → Prop) (x1000807 : Cell) (x1000808 : Cell) (hI : ∀ g, I0 g → g < w0.heap.size) (r : Int), f x1000807 x1000808 = some r →
    Ret Try.prog 21 #[(.agg #[(.int .i64 x1000807.X), (.int .i64 x1000807.Y)]), (.agg #[(.int .i64 x1000808.X), (.int .i64 x1000808.Y)])] w0 fun v w1 => v = (.int .i64 r) ∧ Ch [] w0 w1
theorem frontier_compare_ok (n : Nat) : frontier_compare_S (frontier_compare n) := by
  intro w0 I0 x1000807 x1000808 hI r h
  unfold frontier_compare at h
  refine enter Try.func21 rfl (Nat.le_of_ble_eq_true rfl) ?_
  have hp : Hp ⟨w0, I0, []⟩ I0 [] w0 := Hp.start hI
  apply go
  apply go
  refine ev_boxI hp rfl rfl ?_
  intro p1000811 I1000812 w1000810 hp hs a1000813
  refine ev_boxI hp rfl rfl ?_
  intro p1000816 I1000817 w1000815 hp hs a1000818
  replace a1000813 := a1000813.step hs
  apply go
  have hs := hp.stp (Ch.drew [] w1000815)
  have hp := hp.drew
  replace a1000813 := a1000813.step hs
  replace a1000818 := a1000818.step hs
  refine W.held [(0, true), (1, true), (2, true), (3, true), (5, true), (6, true), (7, true), (8, true), (4, false), (9, false), (10, false), (11, false), (12, true)] (Stp I1000817 w1000815.drew I1000817) MX (by kernel_rfl) (Stp.refl _ _) ?_
  have hz := Stp.refl I1000817 w1000815.drew
  refine evh0 (rn_field rfl rfl FO26_1) ?_
  refine evh (fun w' hw => rn_load rfl rfl (run_loadVar1 T3 ((a1000813.step hw).2 1 _ rfl))) ?_
  refine evh0 (rn_field rfl rfl FO26_1) ?_
  refine evh (fun w' hw => rn_load rfl rfl (run_loadVar1 T3 ((a1000818.step hw).2 1 _ rfl))) ?_
  refine evh0 (rn_field rfl rfl FO26_0) ?_
  refine evh (fun w' hw => rn_load rfl rfl (run_loadVar1 T3 ((a1000813.step hw).2 0 _ rfl))) ?_
  refine evh0 (rn_field rfl rfl FO26_0) ?_
  refine evh (fun w' hw => rn_load rfl rfl (run_loadVar1 T3 ((a1000818.step hw).2 0 _ rfl))) ?_
  obtain ⟨x1000832, q1000833, h⟩ := bind_some h
  refine ev_call rfl rfl C20 (((cmp_Compare_ok n) _ _  x1000807.Y x1000808.Y hp.imm _ q1000833).mono ?_)
  rintro _ w1000834 ⟨rfl, hc⟩
  have hs := hp.stp hc
  replace hp := hp.ext hc
  replace hz := hz.trans hs
  refine ⟨Stp I1000817 w1000834 I1000817, Stp.refl _ _, fun x hx => hz.held hx, ?_⟩
  have hz := Stp.refl I1000817 w1000834
  obtain ⟨x1000835, q1000836, h⟩ := bind_some h
  refine ev_call rfl rfl C20 (((cmp_Compare_ok n) _ _  x1000807.X x1000808.X hp.imm _ q1000836).mono ?_)
  rintro _ w1000837 ⟨rfl, hc⟩
  have hs := hp.stp hc
  replace hp := hp.ext hc
  replace hz := hz.trans hs
  refine ⟨Stp I1000817 w1000837 I1000817, Stp.refl _ _, fun x hx => hz.held hx, ?_⟩
  have hz := Stp.refl I1000817 w1000837
  refine ev_litN (d := (dI .i64)) (xs := [x1000832, x1000835]) (cs := [(.int .i64 x1000832), (.int .i64 x1000835)]) hp rfl rfl Try.underlying35 T3 (by decide) rfl rfl (Elems.cons (d := (dI .i64)) (xs := _) rfl (Elems.cons (d := (dI .i64)) (xs := _) rfl (Elems.nil _ _ _ _))) ?_
  intro v1000838 I1000840 w1000839 hp hs r1000841
  replace hz := hz.trans hs
  refine ⟨Stp I1000840 w1000839 I1000840, Stp.refl _ _, fun x hx => hz.held hx, ?_⟩
  have hz := Stp.refl I1000840 w1000839
  obtain ⟨x1000842, q1000843, h⟩ := bind_some h
  refine ev_call rfl rfl C19 (((cmp_Or_ok n) _ _  [x1000832, x1000835] v1000838 r1000841 hp.imm _ q1000843).mono ?_)
  rintro _ w1000844 ⟨rfl, hc⟩
  have hs := hp.stp hc
  replace hp := hp.ext hc
  replace hz := hz.trans hs
  refine ⟨Stp I1000840 w1000844 I1000840, Stp.refl _ _, fun x hx => hz.held hx, ?_⟩
  have hz := Stp.refl I1000840 w1000844
  apply go
  obtain rfl := Option.some.inj h
  exact ⟨rfl, hp.ch⟩

end Go.Proofs.Ytcdboppghnchpaa

namespace Go.Proofs.Ytcdboppghnchpaa
open Go Go.Proofs.Ytcdboppghnchpaa.Gw Go.RowKit
set_option linter.unusedVariables false
attribute [local irreducible] Ev EvQ EvS EvH
def frontier_Goals_1_S (f : Goal → Goal → Option Int) : Prop := ∀ (w0 : World) (I0 : Nat → Prop) (x1000845 : Goal) (x1000846 : Goal) (hI : ∀ g, I0 g → g < w0.heap.size) (r : Int), f x1000845 x1000846 = some r →
    Ret Try.prog 18 #[(.agg #[(.int .i64 x1000845.Cell.X), (.int .i64 x1000845.Cell.Y), (.int .i64 x1000845.Cost), (.int .i64 x1000845.Size)]), (.agg #[(.int .i64 x1000846.Cell.X), (.int .i64 x1000846.Cell.Y), (.int .i64 x1000846.Cost), (.int .i64 x1000846.Size)])] w0 fun v w1 => v = (.int .i64 r) ∧ Ch [] w0 w1
theorem frontier_Goals_1_ok (n : Nat) : frontier_Goals_1_S (frontier_Goals_1 n) := by
  intro w0 I0 x1000845 x1000846 hI r h
  unfold frontier_Goals_1 at h
  refine enter Try.func18 rfl (Nat.le_of_ble_eq_true rfl) ?_
  have hp : Hp ⟨w0, I0, []⟩ I0 [] w0 := Hp.start hI
  apply go
  apply go
  refine ev_boxI hp rfl rfl ?_
  intro p1000849 I1000850 w1000848 hp hs a1000851
  refine ev_boxI hp rfl rfl ?_
  intro p1000854 I1000855 w1000853 hp hs a1000856
  replace a1000851 := a1000851.step hs
  apply go
  have hs := hp.stp (Ch.drew [] w1000853)
  have hp := hp.drew
  replace a1000851 := a1000851.step hs
  replace a1000856 := a1000856.step hs
  refine W.held [(0, true), (1, true), (2, true), (3, true), (5, true), (6, true), (7, true), (8, true), (4, false), (9, false), (10, false), (11, false), (12, true)] (Stp I1000855 w1000853.drew I1000855) MX (by kernel_rfl) (Stp.refl _ _) ?_
  have hz := Stp.refl I1000855 w1000853.drew
  refine evh0 (rn_field rfl rfl FO43_1) ?_
  refine evh (fun w' hw => rn_load rfl rfl (run_loadVar1 T3 ((a1000851.step hw).2 2 _ rfl))) ?_
  refine evh0 (rn_field rfl rfl FO43_1) ?_
  refine evh (fun w' hw => rn_load rfl rfl (run_loadVar1 T3 ((a1000856.step hw).2 2 _ rfl))) ?_
  refine evh0 (rn_field rfl rfl FO43_0) ?_
  refine evh (fun w' hw => rn_load rfl rfl (run_loadVarA T26 rfl (((a1000851.step hw).drop 0).take 2))) ?_
  refine evh0 (rn_field rfl rfl FO43_0) ?_
  refine evh (fun w' hw => rn_load rfl rfl (run_loadVarA T26 rfl (((a1000856.step hw).drop 0).take 2))) ?_
  obtain ⟨x1000870, q1000871, h⟩ := bind_some h
  refine ev_call rfl rfl C20 (((cmp_Compare_ok n) _ _  x1000845.Cost x1000846.Cost hp.imm _ q1000871).mono ?_)
  rintro _ w1000872 ⟨rfl, hc⟩
  have hs := hp.stp hc
  replace hp := hp.ext hc
  replace hz := hz.trans hs
  refine ⟨Stp I1000855 w1000872 I1000855, Stp.refl _ _, fun x hx => hz.held hx, ?_⟩
  have hz := Stp.refl I1000855 w1000872
  obtain ⟨x1000873, q1000874, h⟩ := bind_some h
  refine ev_call rfl rfl C21 (((frontier_compare_ok n) _ _  (Cell.mk x1000845.Cell.X x1000845.Cell.Y) (Cell.mk x1000846.Cell.X x1000846.Cell.Y) hp.imm _ q1000874).mono ?_)
  rintro _ w1000875 ⟨rfl, hc⟩
  have hs := hp.stp hc
  replace hp := hp.ext hc
  replace hz := hz.trans hs
  refine ⟨Stp I1000855 w1000875 I1000855, Stp.refl _ _, fun x hx => hz.held hx, ?_⟩
  have hz := Stp.refl I1000855 w1000875
  refine ev_litN (d := (dI .i64)) (xs := [x1000870, x1000873]) (cs := [(.int .i64 x1000870), (.int .i64 x1000873)]) hp rfl rfl Try.underlying35 T3 (by decide) rfl rfl (Elems.cons (d := (dI .i64)) (xs := _) rfl (Elems.cons (d := (dI .i64)) (xs := _) rfl (Elems.nil _ _ _ _))) ?_
  intro v1000876 I1000878 w1000877 hp hs r1000879
  replace hz := hz.trans hs
  refine ⟨Stp I1000878 w1000877 I1000878, Stp.refl _ _, fun x hx => hz.held hx, ?_⟩
  have hz := Stp.refl I1000878 w1000877
  obtain ⟨x1000880, q1000881, h⟩ := bind_some h
  refine ev_call rfl rfl C19 (((cmp_Or_ok n) _ _  [x1000870, x1000873] v1000876 r1000879 hp.imm _ q1000881).mono ?_)
  rintro _ w1000882 ⟨rfl, hc⟩
  have hs := hp.stp hc
  replace hp := hp.ext hc
  replace hz := hz.trans hs
  refine ⟨Stp I1000878 w1000882 I1000878, Stp.refl _ _, fun x hx => hz.held hx, ?_⟩
  have hz := Stp.refl I1000878 w1000882
  apply go
  obtain rfl := Option.some.inj h
  exact ⟨rfl, hp.ch⟩

end Go.Proofs.Ytcdboppghnchpaa

namespace Go.Proofs.Ytcdboppghnchpaa
open Go Go.Proofs.Ytcdboppghnchpaa.Gw Go.RowKit Go.Shelf
set_option linter.unusedVariables false
attribute [local irreducible] Ev EvQ EvS EvH
theorem ch_grow {W W' : World} (h : Ch [] W W') : ∃ q os', W' = Sort.grow (W.drewN q) os' := by
  refine ⟨W'.drawn - W.drawn, W'.heap.extract W.heap.size W'.heap.size, ?_⟩
  obtain ⟨h1, h2, h3, h4, h5, h6⟩ := h
  have hh : W'.heap = W.heap ++ W'.heap.extract W.heap.size W'.heap.size := by
    apply Array.ext_getElem?
    intro k
    rw [Array.getElem?_append]
    split
    · rename_i hk; exact h6 k hk (by simp)
    · rename_i hk
      rw [Array.getElem?_extract]
      by_cases hk2 : k < W'.heap.size
      · rw [if_pos (by omega), show W.heap.size + (k - W.heap.size) = k by omega]
      · rw [if_neg (by omega), Array.getElem?_eq_none (by omega)]
  cases W; cases W'
  simp only [Sort.grow, World.drewN, World.mk.injEq] at *
  exact ⟨hh, h3, by omega, h2, h4⟩
theorem sortL_perm {α : Type} [Inhabited α] {cf : α → α → Int} (hO : Sort.SWO (ltOf cf)) (xs : List α) : (sortL cf xs).Perm xs := by
  have h := (Sort.pdq_sorts (ltOf cf) hO xs.toArray 0 xs.toArray.size (Lib.bitLen xs.toArray.size) true true (Nat.zero_le _) (Nat.le_refl _) (Or.inl rfl)).1
  obtain ⟨h1, _, h3⟩ := h
  have e : sortL cf xs = (Sort.pdq (ltOf cf) xs.toArray 0 xs.toArray.size (Lib.bitLen xs.toArray.size) true true).toList := by simp [sortL]; rfl
  generalize Sort.pdq (ltOf cf) xs.toArray 0 xs.toArray.size (Lib.bitLen xs.toArray.size) true true = d' at h1 h3 e
  rw [e]
  rw [← h1, Array.extract_size, h1, Array.extract_size] at h3
  simpa using h3
theorem sort_ok {α : Type} [Inhabited α] {P : Program} {ρ : Ren} {d : Desc α} {T : TypeId} {bytes : Nat} {z : Value} (L : SlLaysF0.n6 P ρ) (hT : ρ.t 24 = T) (enc : α → List Value) (hk : ∀ x, (enc x).length = d.size) (hd : 0 < d.size)
    (hrep : ∀ w I cs x, d.rep w I cs x ↔ cs = enc x) (h1 : ∀ x, ∀ v ∈ enc x, v.oneCell' = true) (hTI : TI P T d.size bytes z true) (cf : α → α → Int) (hO : Sort.SWO (ltOf cf)) (g : Nat) (eg : ∀ args w, (callFunc g args).run P w = .ok (.enter g args) w)
    (hcmp : ∀ (x y : α) (W : World), Calls P g #[.agg (enc x).toArray, .agg (enc y).toArray] W fun e w' => e = .returned (.int .i64 (cf x y)) ∧ Ch [] W w')
    {c : Cx} {I : Nat → Prop} {m : List Ent} {w : World} (hp : Hp c I m w) {i : Nat} {e : Ent} {v : Value} {xs : List α} (hi : m[i]? = some e) (h : OwnS d T w I v e xs) (hn : xs.length ≤ 1000000) :
    Ret P (ρ.f 6) #[v, .func (.func g) #[] #[]] w fun r w' => r = .tuple #[] ∧ ∃ e', Hp c I (m.set i e') w' ∧ Stp I w I w' ∧ OwnS d T w' I v e' (sortL cf xs) := by
  have hset : ∀ e0, m[i]? = some e0 → m.set i e0 = m := by
    intro e0 he0
    obtain ⟨hl, he⟩ := List.getElem?_eq_some_iff.1 he0
    rw [← he]; exact List.set_getElem_self hl
  rcases h with ⟨rfl, rfl, rfl⟩ | ⟨b, cs, n, rfl, rfl, h3, h4, h5, h7⟩
  · refine (AnyF.slices_SortFunc_none L none 0 _ w).mono ?_
    rintro e w' ⟨rfl, rfl⟩
    refine ⟨_, rfl, rfl, none, by rw [hset _ hi]; exact hp, Stp.refl _ _, .inl ⟨rfl, rfl, ?_⟩⟩
    have := (sortL_perm hO ([] : List α)).length_eq
    exact List.eq_nil_of_length_eq_zero this
  · have hown := (hp.own i b cs T hi).1
    have hel : ∀ (j : Nat) (x : α) (q : Nat) (u : Value), xs[j]? = some x → (enc x)[q]? = some u → cs[j * d.size + q]? = some u := by
      intro j x q u hx hu
      have := (hrep _ _ _ _).1 (h7 j x hx)
      exact drop_take_get (by rw [this]; exact hu)
    have hH : Sort.HoldsK enc d.size w b 0 xs.toArray := by
      intro t ht
      rw [Sort.size_flatK] at ht
      rw [Sort.get_flatK _ _ _ _ ht, Nat.zero_add]
      have hlt : t / d.size < xs.length := by
        rw [Nat.div_lt_iff_lt_mul hd]; simpa using ht
      have hm : t % d.size < d.size := Nat.mod_lt _ hd
      obtain ⟨x, hx⟩ : ∃ x, xs[t / d.size]? = some x := ⟨_, List.getElem?_eq_getElem hlt⟩
      have e1 : xs.toArray[t / d.size]! = x := by simp [hx]
      have e2 : (enc x)[t % d.size]? = some ((enc x)[t % d.size]!) := by
        rw [List.getElem?_eq_getElem (by rw [hk]; exact hm), List.getElem!_eq_getElem?_getD, List.getElem?_eq_getElem (by rw [hk]; exact hm)]; rfl
      rw [e1]
      have := hel _ _ _ _ hx e2
      rw [Nat.div_add_mod'] at this
      refine ⟨?_, ?_⟩
      · rw [cell_of_row w b t cs.toArray T (0, 0) hown]; simpa using this
      · simp [World.frozen?, hown]
    have hcon := AnyQ.slices_SortFunc_eq L d.size (by rw [hT]; exact fun w => Gw.run_isAgg hTI w) (by rw [hT]; exact fun w => Gw.run_sizeOf hTI w) enc hk h1 cf hO g #[] b 0 n xs.toArray w eg
      (fun m os dk _ x y => (hcmp x y _).mono fun e w' ⟨he, hc⟩ => ⟨he, ch_grow hc⟩) hH (hp.lt hi) (by simp; omega)
    refine hcon.mono ?_
    rintro e w' ⟨rfl, q, os, rfl⟩
    have hperm := sortL_perm hO xs
    have hlen := hperm.length_eq
    have hsl : Sort.pdq (ltOf cf) xs.toArray 0 xs.toArray.size (Lib.bitLen xs.toArray.size) true true = (sortL cf xs).toArray := by
      simp [sortL]; rfl
    rw [hsl]
    generalize sortL cf xs = ys at hlen hperm ⊢
    obtain ⟨cs', hcs'⟩ : ∃ cs' : List Value, cs' = (Sort.putCells id 0 (Sort.flatK enc d.size ys.toArray) cs.toArray).toList := ⟨_, rfl⟩
    have hblk : (sortWorldK enc d.size w b 0 q ys.toArray os).heap[b]? = some (.cells cs'.toArray T (0, 0)) := by
      show ((Sort.mapBlock (Sort.ahead w q) b (Sort.putCells id 0 (Sort.flatK enc d.size ys.toArray))).heap ++ os)[b]? = _
      have hb : b < w.heap.size := hp.lt hi
      rw [Array.getElem?_append_left (by simpa [Sort.mapBlock] using hb)]
      simp only [Sort.mapBlock, Sort.heap_ahead, Array.getElem?_modify, if_true, hown, Option.map_some, Sort.onCells, hcs']
    obtain ⟨g1, g2⟩ := hp.turn (w' := sortWorldK enc d.size w b 0 q ys.toArray os) (e' := some (b, cs', T)) hi
      (by show w.heap.size ≤ ((Sort.mapBlock (Sort.ahead w q) b _).heap ++ os).size; simp [Sort.mapBlock])
      (Nat.le_add_right _ _) rfl rfl rfl
      (fun k hk hne => by
        show ((Sort.mapBlock (Sort.ahead w q) b _).heap ++ os)[k]? = _
        rw [Array.getElem?_append_left (by simpa [Sort.mapBlock] using hk)]
        have : b ≠ k := fun e => hne cs T (by rw [e])
        simp [Sort.mapBlock, Array.getElem?_modify, this])
      (fun g' cs1 t1 e0 => by
        simp only [Option.some.injEq, Prod.mk.injEq] at e0
        obtain ⟨rfl, rfl, rfl⟩ := e0
        exact ⟨hblk, .inr ⟨_, _, rfl⟩⟩)
    have hcl : cs'.length = cs.length := by rw [hcs']; simp [Sort.putCells]
    refine ⟨_, rfl, rfl, some (b, cs', T), g1, g2, .inr ⟨b, cs', n, by rw [hlen], rfl, by omega, h4, by rw [hcl]; exact h5, fun j y hy => ?_⟩⟩
    rw [hrep]
    have hjl : j < ys.length := (List.getElem?_eq_some_iff.1 hy).1
    have hjs : (j + 1) * d.size ≤ ys.length * d.size := Nat.mul_le_mul_right _ hjl
    have hns : ys.length * d.size ≤ n * d.size := Nat.mul_le_mul_right _ (by omega)
    rw [Nat.succ_mul] at hjs
    apply List.ext_getElem?
    intro q2
    rw [List.getElem?_take]
    split
    · rename_i hq
      rw [List.getElem?_drop, hcs']
      have hlt : j * d.size + q2 < cs.length := by omega
      have hlt2 : j * d.size + q2 < ys.toArray.size * d.size := by simp; omega
      have hdiv : (j * d.size + q2) / d.size = j := by rw [Nat.mul_comm, Nat.mul_add_div hd, Nat.div_eq_of_lt hq]; rfl
      have hmod : (j * d.size + q2) % d.size = q2 := by rw [Nat.mul_comm, Nat.mul_add_mod, Nat.mod_eq_of_lt hq]
      have hy2 : ys.toArray[j]! = y := by simp [hy]
      have hg := Sort.get_flatK enc d.size ys.toArray _ hlt2
      rw [hdiv, hmod, hy2] at hg
      have he : (enc y)[q2]? = some ((enc y)[q2]!) := by
        rw [List.getElem?_eq_getElem (by rw [hk]; exact hq), List.getElem!_eq_getElem?_getD, List.getElem?_eq_getElem (by rw [hk]; exact hq)]; rfl
      rw [he]
      simp only [Sort.putCells, Array.toList_mapIdx, List.getElem?_mapIdx, List.getElem?_eq_getElem hlt, Option.map_some, Nat.zero_le, true_and, Nat.zero_add, Sort.size_flatK, hlt2, if_true, Nat.sub_zero, id, hg]
    · rename_i hq
      rw [List.getElem?_eq_none (by rw [hk]; omega)]
theorem compare_val (n : Nat) (x y : Int) : cmp_Compare n x y = some (cmpI x y) := by
  have h : ∀ z, cmp_isNaN n z = some false := fun z => by simp [cmp_isNaN]
  dsimp only [cmp_Compare, cmpI]
  rw [h, h]
  by_cases h1 : x < y
  · simp [h1]
  · by_cases h2 : y < x <;> simp [h1, h2]
theorem or_val (n : Nat) (a b : Int) : cmp_Or (n + 3) [a, b] = some (orI a b) := by
  have h0 : idx [a, b] 0 = some a := rfl
  have h1 : idx [a, b] 1 = some b := rfl
  have w1 : IntKind.i64.wrap (0 + 1) = 1 := by decide
  have w2 : IntKind.i64.wrap (1 + 1) = 2 := by decide
  have l2 : (([a, b].length : Nat) : Int) = 2 := rfl
  dsimp only [cmp_Or, orI, loopN, cmp_Or_L1]
  rw [l2, h0]
  by_cases ha : a = 0
  · subst ha
    have z0 : ((0 : Int) != 0) = false := rfl
    have d0 : decide ((0 : Int) < 2) = true := rfl
    have d1 : decide ((1 : Int) < 2) = true := rfl
    have d2 : decide ((2 : Int) < 2) = false := rfl
    rw [if_neg (by simp)]
    by_cases hb : b = 0
    · subst hb
      simp only [z0, Option.bind_some, cond_false, cond_true, w1, h1, w2, d0, d1, d2]
    · have hb' : (b != 0) = true := by simp [hb]
      simp only [z0, Option.bind_some, cond_false, cond_true, w1, h1, hb', d0, d1]
  · have ha' : (a != 0) = true := by simp [ha]
    simp only [ha', Option.bind_some, cond_true, show decide ((0 : Int) < 2) = true from rfl]
    rw [if_pos ha]
theorem cf21_val (n : Nat) (a b : Cell) : frontier_compare (n + 3) a b = some (cf21 a b) := by
  unfold frontier_compare
  simp only [compare_val, or_val, Option.bind_some, cf21]
theorem cf18_val (n : Nat) (a b : Goal) : frontier_Goals_1 (n + 3) a b = some (cf18 a b) := by
  unfold frontier_Goals_1
  simp only [compare_val, cf21_val, or_val, Option.bind_some, cf18]
theorem cf21_swo : Sort.SWO (ltOf cf21) := by
  have h : ∀ a b : Cell, ltOf cf21 a b = decide (a.Y < b.Y ∨ a.Y = b.Y ∧ a.X < b.X) := fun a b => by
    unfold ltOf cf21 orI cmpI
    rw [decide_eq_decide]
    repeat' split
    all_goals omega
  exact ⟨fun x => by rw [h]; simp, fun x y z => by rw [h, h, h]; simp only [decide_eq_true_eq]; omega, fun x y z => by rw [h, h, h]; simp only [decide_eq_false_iff_not]; omega⟩
theorem cf18_lt (a b : Goal) : ltOf cf18 a b = decide (a.Cost < b.Cost ∨ a.Cost = b.Cost ∧ (a.Cell.Y < b.Cell.Y ∨ a.Cell.Y = b.Cell.Y ∧ a.Cell.X < b.Cell.X)) := by
  unfold ltOf cf18 cf21 orI cmpI
  rw [decide_eq_decide]
  repeat' split
  all_goals omega
theorem cf18_swo : Sort.SWO (ltOf cf18) :=
  ⟨fun x => by rw [cf18_lt]; simp, fun x y z => by rw [cf18_lt, cf18_lt, cf18_lt]; simp only [decide_eq_true_eq]; omega, fun x y z => by rw [cf18_lt, cf18_lt, cf18_lt]; simp only [decide_eq_false_iff_not]; omega⟩
theorem Sort21_ok {c : Cx} {I : Nat → Prop} {m : List Ent} {w : World} (hp : Hp c I m w) {i : Nat} {e : Ent} {v : Value} {xs : List Cell} (hi : m[i]? = some e) (h : OwnS dCell 26 w I v e xs) (hn : xs.length ≤ 1000000) :
    Ret Try.prog 29 #[v, .func (.func 21) #[] #[]] w fun r w' => r = .tuple #[] ∧ ∃ e', Hp c I (m.set i e') w' ∧ Stp I w I w' ∧ OwnS dCell 26 w' I v e' (sortL cf21 xs) :=
  sort_ok sh_sortCell rfl (fun x : Cell => [.int .i64 x.X, .int .i64 x.Y]) (fun _ => rfl) (by decide) (fun w I cs x => ⟨dCell_o, fun h => h ▸ dCell_m⟩) (fun x v hv => by simp at hv; rcases hv with rfl | rfl <;> rfl) T26 cf21 cf21_swo 21
    (enters_of Try.func21 (by kernel_rfl) rfl) (fun x y W => Calls.mono (frontier_compare_ok 3 W (fun g => g < W.heap.size) x y (fun _ h => h) _ (cf21_val 0 x y)) fun e w' ⟨v, he, hv, hc⟩ => ⟨by rw [he, hv], hc⟩) hp hi h hn
theorem Sort18_ok {c : Cx} {I : Nat → Prop} {m : List Ent} {w : World} (hp : Hp c I m w) {i : Nat} {e : Ent} {v : Value} {xs : List Goal} (hi : m[i]? = some e) (h : OwnS dGoal 43 w I v e xs) (hn : xs.length ≤ 1000000) :
    Ret Try.prog 17 #[v, .func (.func 18) #[] #[]] w fun r w' => r = .tuple #[] ∧ ∃ e', Hp c I (m.set i e') w' ∧ Stp I w I w' ∧ OwnS dGoal 43 w' I v e' (sortL cf18 xs) :=
  sort_ok sh_sortGoal rfl (fun x : Goal => [.int .i64 x.Cell.X, .int .i64 x.Cell.Y, .int .i64 x.Cost, .int .i64 x.Size]) (fun _ => rfl) (by decide) (fun w I cs x => ⟨dGoal_o, fun h => h ▸ dGoal_m⟩) (fun x v hv => by simp at hv; rcases hv with rfl | rfl | rfl | rfl <;> rfl) T43 cf18 cf18_swo 18
    (enters_of Try.func18 (by kernel_rfl) rfl) (fun x y W => Calls.mono (frontier_Goals_1_ok 3 W (fun g => g < W.heap.size) x y (fun _ h => h) _ (cf18_val 0 x y)) fun e w' ⟨v, he, hv, hc⟩ => ⟨by rw [he, hv], hc⟩) hp hi h hn
end Go.Proofs.Ytcdboppghnchpaa

namespace Go.Proofs.Ytcdboppghnchpaa
open Go Go.Proofs.Ytcdboppghnchpaa.Gw Go.RowKit
set_option linter.unusedVariables false
attribute [local irreducible] Ev EvQ EvS EvH
def frontier_Clusters_S (f : Plan → Option ((List (List Cell)) × Int)) : Prop := ∀ (w0 : World) (I0 : Nat → Prop) (x_0 : Plan) (v_1 : Value) (r_2 : RepS (dI .u8) w0 I0 v_1 x_0.Cells) (hI : ∀ g, I0 g → g < w0.heap.size) (r : ((List (List Cell)) × Int)), f x_0 = some r →
    Ret Try.prog 16 #[(.agg #[(.int .i64 x_0.W), (.int .i64 x_0.H), v_1])] w0 fun v w1 => ∃ (I1 : Nat → Prop) (u_3 : Value), v = (.tuple #[u_3, (.int .i64 r.2)]) ∧ Hp ⟨w0, I0, []⟩ I1 [] w1 ∧ RepS (dSl dCell) w1 I1 u_3 r.1
theorem frontier_Clusters_ok (n : Nat) : frontier_Clusters_S (frontier_Clusters n) := by
  intro w0 I0 x_0 v_1 r_2 hI r h
  unfold frontier_Clusters at h
  refine enter Try.func16 rfl (Nat.le_of_ble_eq_true rfl) ?_
  have hp : Hp ⟨w0, I0, []⟩ I0 [] w0 := Hp.start hI
  apply go
  apply go
  refine ev_boxI hp rfl rfl ?_
  intro p_3 I_4 w_5 hp hs a_6
  replace r_2 := r_2.step hs
  apply go
  apply go
  apply go
  refine ev (rn_load rfl rfl (run_loadVarA T24 rfl a_6)) ?_
  obtain ⟨x_7, q_8, h⟩ := bind_some h
  refine ev_call rfl rfl C13 (((plan_Valid_ok n) _ _  (Plan.mk x_0.W x_0.H x_0.Cells) v_1 r_2 hp.imm _ q_8).mono ?_)
  rintro _ w_9 ⟨rfl, hc⟩
  have hs := hp.stp hc
  replace hp := hp.ext hc
  replace a_6 := a_6.step hs
  replace r_2 := r_2.step hs
  apply go
  refine sel_of (fun hc => ?_) (fun hc => ?_)
  ·
    have h := cond_t h hc
    apply go
    apply go
    apply go
    obtain rfl := Option.some.inj h
    exact ⟨I_4, .slice none 0 0, rfl, hp, RepS.nil _ _ _⟩
  ·
    have h := cond_f h hc
    apply go
    apply go
    apply go
    refine ev_makeMap (kc := kc48) (vc := vc48) hp rfl ?_
    intro g_a I_b w_c hp hs m_d
    replace a_6 := a_6.step hs
    replace r_2 := r_2.step hs
    apply go
    apply go
    refine ev (rn_load rfl rfl (run_loadVarA T24 rfl a_6)) ?_
    obtain ⟨x_e, q_f, h⟩ := bind_some h
    refine ev_call rfl rfl C28 (((frontier_cells_ok n) _ _  (Plan.mk x_0.W x_0.H x_0.Cells) v_1 r_2 hp.imm _ q_f).mono ?_)
    rintro _ w_g ⟨I_h, v_i, hv, hq, r_j⟩
    replace hv := hv.symm
    subst hv
    have hs := hq.st
    have hp := hp.join0 hq
    replace m_d := m_d.step hs
    obtain ⟨y_k, q_l, h⟩ := bind_some h
    refine W.cut (γ := (List (Cell × Bool))) (fun g => [(4, (.map (some g_a))), (5, v_i)]) (fun g w' => y_k = (g) ∧ Hp ⟨w0, I0, []⟩ I_h [] w' ∧ MapAt kc48 vc48 ⟨w0, I0, []⟩ w' I_h g_a (g) ∧ RepS dCell w' I_h v_i x_e) ?_ ?_
    ·
      apply go
      apply go
      refine ev0 (rn_len rfl rfl Try.underlying28 r_j) ?_
      apply go
      refine W.loop q_l (γ := Unit) (fun s _ => [(4, (.map (some g_a))), (5, v_i), (22, v_i), (23, (.int .i64 (x_e.length : Int))), (24, (.int .i64 (s.2)))]) (fun s _ w' => Hp ⟨w0, I0, []⟩ I_h [] w' ∧ MapAt kc48 vc48 ⟨w0, I0, []⟩ w' I_h g_a (s.1) ∧ RepS dCell w' I_h v_i x_e) () (.c rfl (.c rfl (.c rfl (.c rfl (.c rfl .n))))) ⟨hp, m_d, r_j⟩ ?_
      rintro ⟨x_m, x_n⟩ ⟨⟩ w_o y_p ⟨hp, m_q, r_j⟩ q_r q_s
      unfold frontier_Clusters_L1 at q_r
      apply go
      apply go
      apply go
      apply go
      refine sel_of (fun hc => ?_) (fun hc => ?_)
      ·
        have q_r := cond_t q_r hc
        apply go
        apply go
        apply go
        apply go
        apply go
        obtain ⟨x_t, q_u, q_r⟩ := bind_some q_r
        refine ev_index rfl rfl rfl Try.underlying28 T26 r_j q_u ?_
        intro p_v c_w d_x a_y
        obtain rfl := dCell_o d_x
        refine ev (rn_load rfl rfl (run_loadVarA T26 rfl a_y)) ?_
        refine ev_alloc hp rfl T26 ?_
        intro g_z w_10 hp hs
        replace m_q := m_q.step hs
        replace r_j := r_j.step hs
        refine ev_storeA hp (i := 0) (off := 0) (vs := [(.int .i64 x_t.X), (.int .i64 x_t.Y)]) rfl rfl rfl rfl T26 rfl (Nat.le_of_ble_eq_true rfl) (ones_of rfl) ?_
        intro w_11 hp hs
        replace m_q := m_q.step hs
        replace r_j := r_j.step hs
        apply go
        refine ev (rn_load rfl rfl (run_loadVarA T26 rfl (hp.at_ (i := 0) rfl))) ?_
        refine ev_mapUpdate (k := (Cell.mk x_t.X x_t.Y)) (v := true) hp rfl rfl rfl rfl Try.underlying48 KE48 m_q ?_
        intro w_12 hp hs m_13
        replace r_j := r_j.wk hs
        apply go
        have hp := hp.sel [] (by decide)
        exact ⟨_, (Option.some.inj q_r).symm, (), (.c rfl (.c rfl (.c rfl (.c rfl (.c rfl .n))))), ⟨hp, m_13, r_j⟩⟩
      ·
        have q_r := cond_f q_r hc
        apply go
        have q_14 := congrArg some (q_s _ (Option.some.inj q_r).symm)
        obtain rfl := Option.some.inj q_14
        exact ⟨x_m, (.c rfl (.c rfl .n)), rfl, hp, m_q, r_j⟩
    ·
      rintro x_15 w_16 ⟨hy, hp, m_17, r_j⟩
      replace hy := hy.symm
      subst hy
      apply go
      apply go
      obtain ⟨y_18, q_19, h⟩ := bind_some h
      refine W.cut (γ := ((List (List Cell)) × Value × Ent × (Nat → Prop))) (fun g => [(8, (g.2.1))]) (fun g w' => y_18 = (g.1) ∧ Hp ⟨w0, I0, []⟩ (g.2.2.2) [(g.2.2.1)] w' ∧ OwnS (dSl dCell) 28 w' (g.2.2.2) (g.2.1) (g.2.2.1) (g.1)) ?_ ?_
      ·
        apply go
        apply go
        refine ev0 (rn_len rfl rfl Try.underlying28 r_j) ?_
        apply go
        have hp := hp.none_
        have o_1a := OwnS.nil (dSl dCell) 28 w_16 I_h
        refine W.loop q_19 (γ := (Value × Ent × (Nat → Prop))) (fun s g => [(4, (.map (some g_a))), (8, (g.1)), (31, v_i), (32, (.int .i64 (x_e.length : Int))), (33, (.int .i64 (s.2.2)))]) (fun s g w' => Hp ⟨w0, I0, []⟩ (g.2.2) [(g.2.1)] w' ∧ MapAt kc48 vc48 ⟨w0, I0, []⟩ w' (g.2.2) g_a (s.1) ∧ OwnS (dSl dCell) 28 w' (g.2.2) (g.1) (g.2.1) (s.2.1) ∧ RepS dCell w' (g.2.2) v_i x_e) ((.slice none 0 0), none, I_h) (.c rfl (.c rfl (.c rfl (.c rfl (.c rfl .n))))) ⟨hp, m_17, o_1a, r_j⟩ ?_
        rintro ⟨x_1b, x_1c, x_1d⟩ ⟨v_1e, e_1f, I_1g⟩ w_1h y_1i ⟨hp, m_1j, o_1k, r_j⟩ q_1l q_1m
        unfold frontier_Clusters_L863 at q_1l
        apply go
        apply go
        apply go
        apply go
        refine sel_of (fun hc => ?_) (fun hc => ?_)
        ·
          have q_1l := cond_t q_1l hc
          apply go
          obtain ⟨y_1n, q_1o, q_1l⟩ := bind_some q_1l
          refine W.cut (γ := ((List (Cell × Bool)) × (List (List Cell)) × Value × Ent × (Nat → Prop))) (fun g => [(4, (.map (some g_a))), (8, (g.2.2.1)), (31, v_i), (32, (.int .i64 (x_e.length : Int))), (33, (.int .i64 x_1d))]) (fun g w' => y_1n = ((g.1), (g.2.1)) ∧ Hp ⟨w0, I0, []⟩ (g.2.2.2.2) [(g.2.2.2.1)] w' ∧ MapAt kc48 vc48 ⟨w0, I0, []⟩ w' (g.2.2.2.2) g_a (g.1) ∧ OwnS (dSl dCell) 28 w' (g.2.2.2.2) (g.2.2.1) (g.2.2.2.1) (g.2.1) ∧ RepS dCell w' (g.2.2.2.2) v_i x_e) ?_ ?_
          ·
            apply go
            apply go
            apply go
            obtain ⟨x_1p, q_1q, q_1o⟩ := bind_some q_1o
            refine ev_index rfl rfl rfl Try.underlying28 T26 r_j q_1q ?_
            intro p_1r c_1s d_1t a_1u
            obtain rfl := dCell_o d_1t
            refine ev (rn_load rfl rfl (run_loadVarA T26 rfl a_1u)) ?_
            refine ev_alloc hp rfl T26 ?_
            intro g_1v w_1w hp hs
            replace m_1j := m_1j.step hs
            replace o_1k := o_1k.step hs
            replace r_j := r_j.step hs
            refine ev_storeA hp (i := 0) (off := 0) (vs := [(.int .i64 x_1p.X), (.int .i64 x_1p.Y)]) rfl rfl rfl rfl T26 rfl (Nat.le_of_ble_eq_true rfl) (ones_of rfl) ?_
            intro w_1x hp hs
            replace m_1j := m_1j.step hs
            replace o_1k := o_1k.step hs
            replace r_j := r_j.step hs
            apply go
            apply go
            apply go
            refine ev (rn_load rfl rfl (run_loadVarA T26 rfl (hp.at_ (i := 0) rfl))) ?_
            refine ev (rn_lookup (k := (Cell.mk x_1p.X x_1p.Y)) (v0 := false) rfl rfl rfl Try.underlying48 KE48 T4 rfl m_1j) ?_
            apply go
            refine sel_of (fun hc => ?_) (fun hc => ?_)
            ·
              have q_1o := cond_t q_1o hc
              apply go
              obtain rfl := Option.some.inj q_1o
              have hp := hp.sel [1] (by decide)
              exact ⟨(x_1b, x_1c, v_1e, e_1f, I_1g), (.c rfl (.c rfl (.c rfl (.c rfl (.c rfl .n))))), rfl, hp, m_1j, o_1k, r_j⟩
            ·
              have q_1o := cond_f q_1o hc
              apply go
              apply go
              apply go
              refine ev (rn_load rfl rfl (run_loadVarA T26 rfl (hp.at_ (i := 0) rfl))) ?_
              refine ev_mapDelete (k := (Cell.mk x_1p.X x_1p.Y)) hp rfl rfl rfl Try.underlying48 KE48 m_1j ?_
              intro w_1y hp hs m_1z
              replace o_1k := o_1k.wk hs
              replace r_j := r_j.wk hs
              apply go
              apply go
              refine ev (rn_load rfl rfl (run_loadVarA T26 rfl (hp.at_ (i := 0) rfl))) ?_
              refine ev_litON (d := dCell) (xs := [(Cell.mk x_1p.X x_1p.Y)]) (cs := [(.int .i64 x_1p.X), (.int .i64 x_1p.Y)]) hp rfl rfl Try.underlying28 T26 (by decide) (by decide) rfl rfl (Elems.cons (d := dCell) (xs := _) dCell_m (Elems.nil _ _ _ _)) ?_
              intro v_20 e_21 w_22 hp hs o_23
              replace m_1z := m_1z.step hs
              replace o_1k := o_1k.step hs
              replace r_j := r_j.step hs
              obtain ⟨y_24, q_25, q_1o⟩ := bind_some q_1o
              refine W.cut (γ := ((List (Cell × Bool)) × (List Cell) × Value × Ent × (Nat → Prop))) (fun g => [(4, (.map (some g_a))), (8, v_1e), (11, (g.2.2.1)), (31, v_i), (32, (.int .i64 (x_e.length : Int))), (33, (.int .i64 x_1d))]) (fun g w' => y_24 = ((g.1), (g.2.1)) ∧ Hp ⟨w0, I0, []⟩ (g.2.2.2.2) [e_1f, (g.2.2.2.1)] w' ∧ MapAt kc48 vc48 ⟨w0, I0, []⟩ w' (g.2.2.2.2) g_a (g.1) ∧ OwnS (dSl dCell) 28 w' (g.2.2.2.2) v_1e e_1f x_1c ∧ OwnS dCell 26 w' (g.2.2.2.2) (g.2.2.1) (g.2.2.2.1) (g.2.1) ∧ RepS dCell w' (g.2.2.2.2) v_i x_e) ?_ ?_
              ·
                apply go
                apply go
                apply go
                have hp := hp.perm [2, 0] (by decide)
                refine W.loop q_25 (γ := (Value × Ent × (Nat → Prop))) (fun s g => [(4, (.map (some g_a))), (8, v_1e), (11, (g.1)), (12, (.int .i64 (s.2.2))), (31, v_i), (32, (.int .i64 (x_e.length : Int))), (33, (.int .i64 x_1d))]) (fun s g w' => Hp ⟨w0, I0, []⟩ (g.2.2) [e_1f, (g.2.1)] w' ∧ MapAt kc48 vc48 ⟨w0, I0, []⟩ w' (g.2.2) g_a (s.1) ∧ OwnS (dSl dCell) 28 w' (g.2.2) v_1e e_1f x_1c ∧ OwnS dCell 26 w' (g.2.2) (g.1) (g.2.1) (s.2.1) ∧ RepS dCell w' (g.2.2) v_i x_e) (v_20, e_21, I_1g) (.c rfl (.c rfl (.c rfl (.c rfl (.c rfl (.c rfl (.c rfl .n))))))) ⟨hp, m_1z, o_1k, o_23, r_j⟩ ?_
                rintro ⟨x_26, x_27, x_28⟩ ⟨v_29, e_2a, I_2b⟩ w_2c y_2d ⟨hp, m_2e, o_1k, o_2f, r_j⟩ q_2g q_2h
                unfold frontier_Clusters_L1021 at q_2g
                apply go
                apply go
                apply go
                refine ev0 (x_lenO rfl rfl Try.underlying28 o_2f) ?_
                apply go
                refine sel_of (fun hc => ?_) (fun hc => ?_)
                ·
                  have q_2g := cond_t q_2g hc
                  apply go
                  obtain ⟨y_2i, q_2j, q_2g⟩ := bind_some q_2g
                  refine W.cut (γ := ((List (Cell × Bool)) × (List Cell) × Value × Ent × (Nat → Prop))) (fun g => [(4, (.map (some g_a))), (8, v_1e), (11, (g.2.2.1)), (12, (.int .i64 x_28)), (31, v_i), (32, (.int .i64 (x_e.length : Int))), (33, (.int .i64 x_1d))]) (fun g w' => y_2i = ((g.1), (g.2.1)) ∧ Hp ⟨w0, I0, []⟩ (g.2.2.2.2) [e_1f, (g.2.2.2.1)] w' ∧ MapAt kc48 vc48 ⟨w0, I0, []⟩ w' (g.2.2.2.2) g_a (g.1) ∧ OwnS (dSl dCell) 28 w' (g.2.2.2.2) v_1e e_1f x_1c ∧ OwnS dCell 26 w' (g.2.2.2.2) (g.2.2.1) (g.2.2.2.1) (g.2.1) ∧ RepS dCell w' (g.2.2.2.2) v_i x_e) ?_ ?_
                  ·
                    apply go
                    apply go
                    apply go
                    apply go
                    refine W.loop q_2j (γ := (Value × Ent × (Nat → Prop))) (fun s g => [(4, (.map (some g_a))), (8, v_1e), (11, (g.1)), (12, (.int .i64 x_28)), (13, (.int .i64 (s.2.2))), (31, v_i), (32, (.int .i64 (x_e.length : Int))), (33, (.int .i64 x_1d))]) (fun s g w' => Hp ⟨w0, I0, []⟩ (g.2.2) [e_1f, (g.2.1)] w' ∧ MapAt kc48 vc48 ⟨w0, I0, []⟩ w' (g.2.2) g_a (s.1) ∧ OwnS (dSl dCell) 28 w' (g.2.2) v_1e e_1f x_1c ∧ OwnS dCell 26 w' (g.2.2) (g.1) (g.2.1) (s.2.1) ∧ RepS dCell w' (g.2.2) v_i x_e) (v_29, e_2a, I_2b) (.c rfl (.c rfl (.c rfl (.c rfl (.c rfl (.c rfl (.c rfl (.c rfl .n)))))))) ⟨hp, m_2e, o_1k, o_2f, r_j⟩ ?_
                    rintro ⟨x_2k, x_2l, x_2m⟩ ⟨v_2n, e_2o, I_2p⟩ w_2q y_2r ⟨hp, m_2s, o_1k, o_2t, r_j⟩ q_2u q_2v
                    unfold frontier_Clusters_L1033 at q_2u
                    apply go
                    apply go
                    apply go
                    apply go
                    refine sel_of (fun hc => ?_) (fun hc => ?_)
                    ·
                      have q_2u := cond_t q_2u hc
                      apply go
                      obtain ⟨y_2w, q_2x, q_2u⟩ := bind_some q_2u
                      refine W.cut (γ := ((List (Cell × Bool)) × (List Cell) × Value × Ent × (Nat → Prop))) (fun g => [(4, (.map (some g_a))), (8, v_1e), (11, (g.2.2.1)), (12, (.int .i64 x_28)), (13, (.int .i64 x_2m)), (31, v_i), (32, (.int .i64 (x_e.length : Int))), (33, (.int .i64 x_1d))]) (fun g w' => y_2w = ((g.1), (g.2.1)) ∧ Hp ⟨w0, I0, []⟩ (g.2.2.2.2) [e_1f, (g.2.2.2.1)] w' ∧ MapAt kc48 vc48 ⟨w0, I0, []⟩ w' (g.2.2.2.2) g_a (g.1) ∧ OwnS (dSl dCell) 28 w' (g.2.2.2.2) v_1e e_1f x_1c ∧ OwnS dCell 26 w' (g.2.2.2.2) (g.2.2.1) (g.2.2.2.1) (g.2.1) ∧ RepS dCell w' (g.2.2.2.2) v_i x_e) ?_ ?_
                      ·
                        apply go
                        apply go
                        apply go
                        apply go
                        refine W.loop q_2x (γ := (Value × Ent × (Nat → Prop))) (fun s g => [(4, (.map (some g_a))), (8, v_1e), (11, (g.1)), (12, (.int .i64 x_28)), (13, (.int .i64 x_2m)), (14, (.int .i64 (s.2.2))), (31, v_i), (32, (.int .i64 (x_e.length : Int))), (33, (.int .i64 x_1d))]) (fun s g w' => Hp ⟨w0, I0, []⟩ (g.2.2) [e_1f, (g.2.1)] w' ∧ MapAt kc48 vc48 ⟨w0, I0, []⟩ w' (g.2.2) g_a (s.1) ∧ OwnS (dSl dCell) 28 w' (g.2.2) v_1e e_1f x_1c ∧ OwnS dCell 26 w' (g.2.2) (g.1) (g.2.1) (s.2.1) ∧ RepS dCell w' (g.2.2) v_i x_e) (v_2n, e_2o, I_2p) (.c rfl (.c rfl (.c rfl (.c rfl (.c rfl (.c rfl (.c rfl (.c rfl (.c rfl .n))))))))) ⟨hp, m_2s, o_1k, o_2t, r_j⟩ ?_
                        rintro ⟨x_2y, x_2z, x_30⟩ ⟨v_31, e_32, I_33⟩ w_34 y_35 ⟨hp, m_36, o_1k, o_37, r_j⟩ q_38 q_39
                        unfold frontier_Clusters_L1035 at q_38
                        apply go
                        apply go
                        apply go
                        apply go
                        refine sel_of (fun hc => ?_) (fun hc => ?_)
                        ·
                          have q_38 := cond_t q_38 hc
                          apply go
                          obtain ⟨y_3a, q_3b, q_38⟩ := bind_some q_38
                          refine W.cut (γ := ((List (Cell × Bool)) × (List Cell) × Value × Ent × (Nat → Prop))) (fun g => [(4, (.map (some g_a))), (8, v_1e), (11, (g.2.2.1)), (12, (.int .i64 x_28)), (13, (.int .i64 x_2m)), (14, (.int .i64 x_30)), (31, v_i), (32, (.int .i64 (x_e.length : Int))), (33, (.int .i64 x_1d))]) (fun g w' => y_3a = ((g.1), (g.2.1)) ∧ Hp ⟨w0, I0, []⟩ (g.2.2.2.2) [e_1f, (g.2.2.2.1)] w' ∧ MapAt kc48 vc48 ⟨w0, I0, []⟩ w' (g.2.2.2.2) g_a (g.1) ∧ OwnS (dSl dCell) 28 w' (g.2.2.2.2) v_1e e_1f x_1c ∧ OwnS dCell 26 w' (g.2.2.2.2) (g.2.2.1) (g.2.2.2.1) (g.2.1) ∧ RepS dCell w' (g.2.2.2.2) v_i x_e) ?_ ?_
                          ·
                            apply go
                            obtain ⟨y_3c, q_3d, q_3b⟩ := bind_some q_3b
                            refine W.cut (γ := (Int × Int × Nat)) (fun g => [(4, (.map (some g_a))), (8, v_1e), (11, v_31), (12, (.int .i64 x_28)), (13, (.int .i64 x_2m)), (14, (.int .i64 x_30)), (15, (.pointer (some ⟨(g.2.2), 0, none⟩))), (31, v_i), (32, (.int .i64 (x_e.length : Int))), (33, (.int .i64 x_1d))]) (fun g w' => y_3c = ((g.1), (g.2.1)) ∧ Hp ⟨w0, I0, []⟩ I_33 [e_1f, e_32, some ((g.2.2), [(.int .i64 (g.1)), (.int .i64 (g.2.1))], 26)] w' ∧ MapAt kc48 vc48 ⟨w0, I0, []⟩ w' I_33 g_a x_2y ∧ OwnS (dSl dCell) 28 w' I_33 v_1e e_1f x_1c ∧ OwnS dCell 26 w' I_33 v_31 e_32 x_2z ∧ RepS dCell w' I_33 v_i x_e) ?_ ?_
                            ·
                              have hs := hp.stp (Ch.drew [] w_34)
                              have hp := hp.drew
                              replace m_36 := m_36.step hs
                              replace o_1k := o_1k.step hs
                              replace o_37 := o_37.step hs
                              replace r_j := r_j.step hs
                              refine W.heldG (.q 0 (.q 1 (.q 2 (.q 3 (.q 5 (.q 7 (.q 8 (.q 9 (.q 10 (.q 12 (.l 4 (.q 6 (.l 11 (.q 13 (.q 14 (.l 15 (.l 16 .done .no) .no))) (.l 15 (.l 11 (.q 13 (.q 14 (.l 16 .done .no))) .no) .no))) (.l 11 (.q 13 (.l 4 (.q 6 (.q 14 (.l 15 (.l 16 .done .no) .no))) (.l 15 (.l 4 (.q 6 (.q 14 (.l 16 .done .no))) .no) .no))) (.l 15 (.l 4 (.q 6 (.l 11 (.q 13 (.q 14 (.l 16 .done .no))) .no)) (.l 11 (.q 13 (.l 4 (.q 6 (.q 14 (.l 16 .done .no))) .no)) .no)) .no))))))))))))) (SK (Stp I_33 w_34.drew I_33) [] []) MX (by kernel_rfl) ⟨Stp.refl _ _, kp_nil⟩ ?_
                              have hz := Stp.refl I_33 w_34.drew
                              refine ⟨SK.same (by kernel_rfl), ?_⟩
                              refine ⟨SK.same (by kernel_rfl), ?_⟩
                              refine ⟨SK.same (by kernel_rfl), ?_⟩
                              obtain ⟨x_3e, q_3f, q_3d⟩ := bind_some q_3d
                              refine evh_indexO rfl rfl rfl Try.underlying28 T26 o_37 q_3f ?_
                              intro g_3g c_3h h_3i d_3j l_3k
                              refine ⟨SK.same (by kernel_rfl), ?_⟩
                              refine evh0 (rn_field rfl rfl FO26_0) ?_
                              refine ⟨SK.same (by kernel_rfl), ?_⟩
                              refine ⟨SK.same (by kernel_rfl), ?_⟩
                              refine ⟨SK.same (by kernel_rfl), ?_⟩
                              refine ⟨SK.same (by kernel_rfl), ?_⟩
                              obtain ⟨x_3l, q_3m, q_3d⟩ := bind_some q_3d
                              refine evh_indexO rfl rfl rfl Try.underlying28 T26 o_37 q_3m ?_
                              intro g_3n c_3o h_3p d_3q l_3r
                              refine ⟨SK.same (by kernel_rfl), ?_⟩
                              refine evh0 (rn_field rfl rfl FO26_1) ?_
                              refine ⟨SK.same (by kernel_rfl), ?_⟩
                              refine ⟨?_, ?_⟩
                              ·
                                refine ev (rn_load rfl rfl (run_loadVar1 T3 (by rw [add_lit]; exact hp.cellE (i := 1) rfl h_3i (dCell_o d_3j) (j := 0) rfl))) ?_
                                refine ⟨SK (Stp I_33 w_34.drew I_33) [] [], ⟨Stp.refl _ _, kp_nil⟩, fun L x h => ⟨hz.held h.1, h.2⟩, ?_⟩
                                have hz := Stp.refl I_33 w_34.drew
                                refine ⟨SK.same (by kernel_rfl), ?_⟩
                                refine ⟨?_, ?_⟩
                                ·
                                  refine ev (rn_load rfl rfl (run_loadVar1 T3 (by rw [add_lit]; exact hp.cellE (i := 1) rfl h_3p (dCell_o d_3q) (j := 1) rfl))) ?_
                                  refine ⟨SK (Stp I_33 w_34.drew I_33) [] [], ⟨Stp.refl _ _, kp_nil⟩, fun L x h => ⟨hz.held h.1, h.2⟩, ?_⟩
                                  have hz := Stp.refl I_33 w_34.drew
                                  refine ⟨SK.same (by kernel_rfl), ?_⟩
                                  refine ⟨SK.same (by kernel_rfl), ?_⟩
                                  refine evh0 (fun w => rn_build (cs := [(.int .i64 (IntKind.i64.wrap (x_3e.X + x_30))), (.int .i64 (IntKind.i64.wrap (x_3l.Y + x_2m)))]) rfl rfl T26 PL26 rfl) ?_
                                  refine ⟨?_, trivial⟩
                                  refine ev_alloc hp rfl T26 ?_
                                  intro g_3s w_3t hp hs
                                  replace hz := hz.trans hs
                                  replace m_36 := m_36.step hs
                                  replace o_1k := o_1k.step hs
                                  replace o_37 := o_37.step hs
                                  replace r_j := r_j.step hs
                                  refine ⟨SK (Stp I_33 w_3t I_33) [] [], ⟨Stp.refl _ _, kp_nil⟩, fun L x h => ⟨hz.held h.1, h.2⟩, ?_⟩
                                  have hz := Stp.refl I_33 w_3t
                                  refine ⟨?_, trivial⟩
                                  refine ev_storeA hp (i := 0) (off := 0) (vs := [(.int .i64 (IntKind.i64.wrap (x_3e.X + x_30))), (.int .i64 (IntKind.i64.wrap (x_3l.Y + x_2m)))]) rfl rfl rfl rfl T26 rfl (Nat.le_of_ble_eq_true rfl) (ones_of rfl) ?_
                                  intro w_3u hp hs
                                  replace hz := hz.trans hs
                                  replace m_36 := m_36.step hs
                                  replace o_1k := o_1k.step hs
                                  replace o_37 := o_37.step hs
                                  replace r_j := r_j.step hs
                                  refine ⟨SK (Stp I_33 w_3u I_33) [] [], ⟨Stp.refl _ _, kp_nil⟩, fun L x h => ⟨hz.held h.1, h.2⟩, ?_⟩
                                  have hz := Stp.refl I_33 w_3u
                                  obtain rfl := Option.some.inj q_3d
                                  have hp := hp.perm [1, 2, 0] (by decide)
                                  exact ⟨((IntKind.i64.wrap (x_3e.X + x_30)), (IntKind.i64.wrap (x_3l.Y + x_2m)), g_3s), (.c rfl (.c rfl (.c rfl (.c rfl (.c rfl (.c rfl (.c rfl (.c rfl (.c rfl (.c rfl .n)))))))))), rfl, hp, m_36, o_1k, o_37, r_j⟩
                                refine ⟨?_, trivial⟩
                                refine ev_alloc hp rfl T26 ?_
                                intro g_3v w_3w hp hs
                                replace hz := hz.trans hs
                                replace m_36 := m_36.step hs
                                replace o_1k := o_1k.step hs
                                replace o_37 := o_37.step hs
                                replace r_j := r_j.step hs
                                refine ⟨SK (Stp I_33 w_3w I_33) [] [], ⟨Stp.refl _ _, kp_nil⟩, fun L x h => ⟨hz.held h.1, h.2⟩, ?_⟩
                                have hz := Stp.refl I_33 w_3w
                                refine ⟨?_, trivial⟩
                                refine ev (rn_load rfl rfl (run_loadVar1 T3 (by rw [add_lit]; exact hp.cellE (i := 2) rfl h_3p (dCell_o d_3q) (j := 1) rfl))) ?_
                                refine ⟨SK (Stp I_33 w_3w I_33) [] [], ⟨Stp.refl _ _, kp_nil⟩, fun L x h => ⟨hz.held h.1, h.2⟩, ?_⟩
                                have hz := Stp.refl I_33 w_3w
                                refine ⟨SK.same (by kernel_rfl), ?_⟩
                                refine ⟨SK.same (by kernel_rfl), ?_⟩
                                refine evh0 (fun w => rn_build (cs := [(.int .i64 (IntKind.i64.wrap (x_3e.X + x_30))), (.int .i64 (IntKind.i64.wrap (x_3l.Y + x_2m)))]) rfl rfl T26 PL26 rfl) ?_
                                refine ⟨?_, trivial⟩
                                refine ev_storeA hp (i := 0) (off := 0) (vs := [(.int .i64 (IntKind.i64.wrap (x_3e.X + x_30))), (.int .i64 (IntKind.i64.wrap (x_3l.Y + x_2m)))]) rfl rfl rfl rfl T26 rfl (Nat.le_of_ble_eq_true rfl) (ones_of rfl) ?_
                                intro w_3x hp hs
                                replace hz := hz.trans hs
                                replace m_36 := m_36.step hs
                                replace o_1k := o_1k.step hs
                                replace o_37 := o_37.step hs
                                replace r_j := r_j.step hs
                                refine ⟨SK (Stp I_33 w_3x I_33) [] [], ⟨Stp.refl _ _, kp_nil⟩, fun L x h => ⟨hz.held h.1, h.2⟩, ?_⟩
                                have hz := Stp.refl I_33 w_3x
                                obtain rfl := Option.some.inj q_3d
                                have hp := hp.perm [1, 2, 0] (by decide)
                                exact ⟨((IntKind.i64.wrap (x_3e.X + x_30)), (IntKind.i64.wrap (x_3l.Y + x_2m)), g_3v), (.c rfl (.c rfl (.c rfl (.c rfl (.c rfl (.c rfl (.c rfl (.c rfl (.c rfl (.c rfl .n)))))))))), rfl, hp, m_36, o_1k, o_37, r_j⟩
                              refine ⟨?_, ?_⟩
                              ·
                                refine ev (rn_load rfl rfl (run_loadVar1 T3 (by rw [add_lit]; exact hp.cellE (i := 1) rfl h_3p (dCell_o d_3q) (j := 1) rfl))) ?_
                                refine ⟨SK (Stp I_33 w_34.drew I_33) [] [], ⟨Stp.refl _ _, kp_nil⟩, fun L x h => ⟨hz.held h.1, h.2⟩, ?_⟩
                                have hz := Stp.refl I_33 w_34.drew
                                refine ⟨SK.same (by kernel_rfl), ?_⟩
                                refine ⟨?_, ?_⟩
                                ·
                                  refine ev (rn_load rfl rfl (run_loadVar1 T3 (by rw [add_lit]; exact hp.cellE (i := 1) rfl h_3i (dCell_o d_3j) (j := 0) rfl))) ?_
                                  refine ⟨SK (Stp I_33 w_34.drew I_33) [] [], ⟨Stp.refl _ _, kp_nil⟩, fun L x h => ⟨hz.held h.1, h.2⟩, ?_⟩
                                  have hz := Stp.refl I_33 w_34.drew
                                  refine ⟨SK.same (by kernel_rfl), ?_⟩
                                  refine ⟨SK.same (by kernel_rfl), ?_⟩
                                  refine evh0 (fun w => rn_build (cs := [(.int .i64 (IntKind.i64.wrap (x_3e.X + x_30))), (.int .i64 (IntKind.i64.wrap (x_3l.Y + x_2m)))]) rfl rfl T26 PL26 rfl) ?_
                                  refine ⟨?_, trivial⟩
                                  refine ev_alloc hp rfl T26 ?_
                                  intro g_3y w_3z hp hs
                                  replace hz := hz.trans hs
                                  replace m_36 := m_36.step hs
                                  replace o_1k := o_1k.step hs
                                  replace o_37 := o_37.step hs
                                  replace r_j := r_j.step hs
                                  refine ⟨SK (Stp I_33 w_3z I_33) [] [], ⟨Stp.refl _ _, kp_nil⟩, fun L x h => ⟨hz.held h.1, h.2⟩, ?_⟩
                                  have hz := Stp.refl I_33 w_3z
                                  refine ⟨?_, trivial⟩
                                  refine ev_storeA hp (i := 0) (off := 0) (vs := [(.int .i64 (IntKind.i64.wrap (x_3e.X + x_30))), (.int .i64 (IntKind.i64.wrap (x_3l.Y + x_2m)))]) rfl rfl rfl rfl T26 rfl (Nat.le_of_ble_eq_true rfl) (ones_of rfl) ?_
                                  intro w_40 hp hs
                                  replace hz := hz.trans hs
                                  replace m_36 := m_36.step hs
                                  replace o_1k := o_1k.step hs
                                  replace o_37 := o_37.step hs
                                  replace r_j := r_j.step hs
                                  refine ⟨SK (Stp I_33 w_40 I_33) [] [], ⟨Stp.refl _ _, kp_nil⟩, fun L x h => ⟨hz.held h.1, h.2⟩, ?_⟩
                                  have hz := Stp.refl I_33 w_40
                                  obtain rfl := Option.some.inj q_3d
                                  have hp := hp.perm [1, 2, 0] (by decide)
                                  exact ⟨((IntKind.i64.wrap (x_3e.X + x_30)), (IntKind.i64.wrap (x_3l.Y + x_2m)), g_3y), (.c rfl (.c rfl (.c rfl (.c rfl (.c rfl (.c rfl (.c rfl (.c rfl (.c rfl (.c rfl .n)))))))))), rfl, hp, m_36, o_1k, o_37, r_j⟩
                                refine ⟨?_, trivial⟩
                                refine ev_alloc hp rfl T26 ?_
                                intro g_41 w_42 hp hs
                                replace hz := hz.trans hs
                                replace m_36 := m_36.step hs
                                replace o_1k := o_1k.step hs
                                replace o_37 := o_37.step hs
                                replace r_j := r_j.step hs
                                refine ⟨SK (Stp I_33 w_42 I_33) [] [], ⟨Stp.refl _ _, kp_nil⟩, fun L x h => ⟨hz.held h.1, h.2⟩, ?_⟩
                                have hz := Stp.refl I_33 w_42
                                refine ⟨?_, trivial⟩
                                refine ev (rn_load rfl rfl (run_loadVar1 T3 (by rw [add_lit]; exact hp.cellE (i := 2) rfl h_3i (dCell_o d_3j) (j := 0) rfl))) ?_
                                refine ⟨SK (Stp I_33 w_42 I_33) [] [], ⟨Stp.refl _ _, kp_nil⟩, fun L x h => ⟨hz.held h.1, h.2⟩, ?_⟩
                                have hz := Stp.refl I_33 w_42
                                refine ⟨SK.same (by kernel_rfl), ?_⟩
                                refine ⟨SK.same (by kernel_rfl), ?_⟩
                                refine evh0 (fun w => rn_build (cs := [(.int .i64 (IntKind.i64.wrap (x_3e.X + x_30))), (.int .i64 (IntKind.i64.wrap (x_3l.Y + x_2m)))]) rfl rfl T26 PL26 rfl) ?_
                                refine ⟨?_, trivial⟩
                                refine ev_storeA hp (i := 0) (off := 0) (vs := [(.int .i64 (IntKind.i64.wrap (x_3e.X + x_30))), (.int .i64 (IntKind.i64.wrap (x_3l.Y + x_2m)))]) rfl rfl rfl rfl T26 rfl (Nat.le_of_ble_eq_true rfl) (ones_of rfl) ?_
                                intro w_43 hp hs
                                replace hz := hz.trans hs
                                replace m_36 := m_36.step hs
                                replace o_1k := o_1k.step hs
                                replace o_37 := o_37.step hs
                                replace r_j := r_j.step hs
                                refine ⟨SK (Stp I_33 w_43 I_33) [] [], ⟨Stp.refl _ _, kp_nil⟩, fun L x h => ⟨hz.held h.1, h.2⟩, ?_⟩
                                have hz := Stp.refl I_33 w_43
                                obtain rfl := Option.some.inj q_3d
                                have hp := hp.perm [1, 2, 0] (by decide)
                                exact ⟨((IntKind.i64.wrap (x_3e.X + x_30)), (IntKind.i64.wrap (x_3l.Y + x_2m)), g_41), (.c rfl (.c rfl (.c rfl (.c rfl (.c rfl (.c rfl (.c rfl (.c rfl (.c rfl (.c rfl .n)))))))))), rfl, hp, m_36, o_1k, o_37, r_j⟩
                              refine ⟨?_, trivial⟩
                              refine ev_alloc hp rfl T26 ?_
                              intro g_44 w_45 hp hs
                              replace hz := hz.trans hs
                              replace m_36 := m_36.step hs
                              replace o_1k := o_1k.step hs
                              replace o_37 := o_37.step hs
                              replace r_j := r_j.step hs
                              refine ⟨SK (Stp I_33 w_45 I_33) [] [], ⟨Stp.refl _ _, kp_nil⟩, fun L x h => ⟨hz.held h.1, h.2⟩, ?_⟩
                              have hz := Stp.refl I_33 w_45
                              refine ⟨?_, ?_⟩
                              ·
                                refine ev (rn_load rfl rfl (run_loadVar1 T3 (by rw [add_lit]; exact hp.cellE (i := 2) rfl h_3i (dCell_o d_3j) (j := 0) rfl))) ?_
                                refine ⟨SK (Stp I_33 w_45 I_33) [] [], ⟨Stp.refl _ _, kp_nil⟩, fun L x h => ⟨hz.held h.1, h.2⟩, ?_⟩
                                have hz := Stp.refl I_33 w_45
                                refine ⟨SK.same (by kernel_rfl), ?_⟩
                                refine ⟨?_, trivial⟩
                                refine ev (rn_load rfl rfl (run_loadVar1 T3 (by rw [add_lit]; exact hp.cellE (i := 2) rfl h_3p (dCell_o d_3q) (j := 1) rfl))) ?_
                                refine ⟨SK (Stp I_33 w_45 I_33) [] [], ⟨Stp.refl _ _, kp_nil⟩, fun L x h => ⟨hz.held h.1, h.2⟩, ?_⟩
                                have hz := Stp.refl I_33 w_45
                                refine ⟨SK.same (by kernel_rfl), ?_⟩
                                refine ⟨SK.same (by kernel_rfl), ?_⟩
                                refine evh0 (fun w => rn_build (cs := [(.int .i64 (IntKind.i64.wrap (x_3e.X + x_30))), (.int .i64 (IntKind.i64.wrap (x_3l.Y + x_2m)))]) rfl rfl T26 PL26 rfl) ?_
                                refine ⟨?_, trivial⟩
                                refine ev_storeA hp (i := 0) (off := 0) (vs := [(.int .i64 (IntKind.i64.wrap (x_3e.X + x_30))), (.int .i64 (IntKind.i64.wrap (x_3l.Y + x_2m)))]) rfl rfl rfl rfl T26 rfl (Nat.le_of_ble_eq_true rfl) (ones_of rfl) ?_
                                intro w_46 hp hs
                                replace hz := hz.trans hs
                                replace m_36 := m_36.step hs
                                replace o_1k := o_1k.step hs
                                replace o_37 := o_37.step hs
                                replace r_j := r_j.step hs
                                refine ⟨SK (Stp I_33 w_46 I_33) [] [], ⟨Stp.refl _ _, kp_nil⟩, fun L x h => ⟨hz.held h.1, h.2⟩, ?_⟩
                                have hz := Stp.refl I_33 w_46
                                obtain rfl := Option.some.inj q_3d
                                have hp := hp.perm [1, 2, 0] (by decide)
                                exact ⟨((IntKind.i64.wrap (x_3e.X + x_30)), (IntKind.i64.wrap (x_3l.Y + x_2m)), g_44), (.c rfl (.c rfl (.c rfl (.c rfl (.c rfl (.c rfl (.c rfl (.c rfl (.c rfl (.c rfl .n)))))))))), rfl, hp, m_36, o_1k, o_37, r_j⟩
                              refine ⟨?_, trivial⟩
                              refine ev (rn_load rfl rfl (run_loadVar1 T3 (by rw [add_lit]; exact hp.cellE (i := 2) rfl h_3p (dCell_o d_3q) (j := 1) rfl))) ?_
                              refine ⟨SK (Stp I_33 w_45 I_33) [] [], ⟨Stp.refl _ _, kp_nil⟩, fun L x h => ⟨hz.held h.1, h.2⟩, ?_⟩
                              have hz := Stp.refl I_33 w_45
                              refine ⟨SK.same (by kernel_rfl), ?_⟩
                              refine ⟨?_, trivial⟩
                              refine ev (rn_load rfl rfl (run_loadVar1 T3 (by rw [add_lit]; exact hp.cellE (i := 2) rfl h_3i (dCell_o d_3j) (j := 0) rfl))) ?_
                              refine ⟨SK (Stp I_33 w_45 I_33) [] [], ⟨Stp.refl _ _, kp_nil⟩, fun L x h => ⟨hz.held h.1, h.2⟩, ?_⟩
                              have hz := Stp.refl I_33 w_45
                              refine ⟨SK.same (by kernel_rfl), ?_⟩
                              refine ⟨SK.same (by kernel_rfl), ?_⟩
                              refine evh0 (fun w => rn_build (cs := [(.int .i64 (IntKind.i64.wrap (x_3e.X + x_30))), (.int .i64 (IntKind.i64.wrap (x_3l.Y + x_2m)))]) rfl rfl T26 PL26 rfl) ?_
                              refine ⟨?_, trivial⟩
                              refine ev_storeA hp (i := 0) (off := 0) (vs := [(.int .i64 (IntKind.i64.wrap (x_3e.X + x_30))), (.int .i64 (IntKind.i64.wrap (x_3l.Y + x_2m)))]) rfl rfl rfl rfl T26 rfl (Nat.le_of_ble_eq_true rfl) (ones_of rfl) ?_
                              intro w_47 hp hs
                              replace hz := hz.trans hs
                              replace m_36 := m_36.step hs
                              replace o_1k := o_1k.step hs
                              replace o_37 := o_37.step hs
                              replace r_j := r_j.step hs
                              refine ⟨SK (Stp I_33 w_47 I_33) [] [], ⟨Stp.refl _ _, kp_nil⟩, fun L x h => ⟨hz.held h.1, h.2⟩, ?_⟩
                              have hz := Stp.refl I_33 w_47
                              obtain rfl := Option.some.inj q_3d
                              have hp := hp.perm [1, 2, 0] (by decide)
                              exact ⟨((IntKind.i64.wrap (x_3e.X + x_30)), (IntKind.i64.wrap (x_3l.Y + x_2m)), g_44), (.c rfl (.c rfl (.c rfl (.c rfl (.c rfl (.c rfl (.c rfl (.c rfl (.c rfl (.c rfl .n)))))))))), rfl, hp, m_36, o_1k, o_37, r_j⟩
                            ·
                              rintro ⟨x_48, x_49, g_4a⟩ w_4b ⟨hy, hp, m_36, o_1k, o_37, r_j⟩
                              replace hy := hy.symm
                              subst hy
                              apply go
                              apply go
                              refine ev (rn_load rfl rfl (run_loadVarA T26 rfl (hp.at_ (i := 2) rfl))) ?_
                              refine ev (rn_lookup (k := (Cell.mk x_48 x_49)) (v0 := false) rfl rfl rfl Try.underlying48 KE48 T4 rfl m_36) ?_
                              apply go
                              refine sel_of (fun hc => ?_) (fun hc => ?_)
                              ·
                                have q_3b := cond_t q_3b hc
                                apply go
                                apply go
                                refine ev (rn_load rfl rfl (run_loadVarA T26 rfl (hp.at_ (i := 2) rfl))) ?_
                                refine ev_mapDelete (k := (Cell.mk x_48 x_49)) hp rfl rfl rfl Try.underlying48 KE48 m_36 ?_
                                intro w_4c hp hs m_4d
                                replace o_1k := o_1k.wk hs
                                replace o_37 := o_37.wk hs
                                replace r_j := r_j.wk hs
                                apply go
                                refine ev (rn_load rfl rfl (run_loadVarA T26 rfl (hp.at_ (i := 2) rfl))) ?_
                                refine ev_litN (d := dCell) (xs := [(Cell.mk x_48 x_49)]) (cs := [(.int .i64 x_48), (.int .i64 x_49)]) hp rfl rfl Try.underlying28 T26 (by decide) rfl rfl (Elems.cons (d := dCell) (xs := _) dCell_m (Elems.nil _ _ _ _)) ?_
                                intro v_4e I_4f w_4g hp hs r_4h
                                replace m_4d := m_4d.step hs
                                replace o_1k := o_1k.step hs
                                replace r_j := r_j.step hs
                                replace o_37 := o_37.step hs
                                obtain ⟨x_4i, q_4j, q_3b⟩ := bind_some q_3b
                                refine ev_append hp (i := 1) rfl rfl rfl rfl Try.underlying28 T26 rfl rfl o_37 r_4h q_4j ?_
                                rintro v_4k e_4l w_4m hp hs o_4n
                                replace m_4d := m_4d.step hs
                                replace o_1k := o_1k.step hs
                                replace r_j := r_j.step hs
                                obtain rfl := Option.some.inj q_3b
                                have hp := hp.sel [0, 1] (by decide)
                                exact ⟨((mdel ke48 (Cell.mk x_48 x_49) x_2y), x_4i, v_4k, e_4l, I_4f), (.c rfl (.c rfl (.c rfl (.c rfl (.c rfl (.c rfl (.c rfl (.c rfl (.c rfl .n))))))))), rfl, hp, m_4d, o_1k, o_4n, r_j⟩
                              ·
                                have q_3b := cond_f q_3b hc
                                apply go
                                obtain rfl := Option.some.inj q_3b
                                have hp := hp.sel [0, 1] (by decide)
                                exact ⟨(x_2y, x_2z, v_31, e_32, I_33), (.c rfl (.c rfl (.c rfl (.c rfl (.c rfl (.c rfl (.c rfl (.c rfl (.c rfl .n))))))))), rfl, hp, m_36, o_1k, o_37, r_j⟩
                          ·
                            rintro ⟨x_4o, x_4p, v_4q, e_4r, I_4s⟩ w_4t ⟨hy, hp, m_4u, o_1k, o_4v, r_j⟩
                            replace hy := hy.symm
                            subst hy
                            apply go
                            exact ⟨_, (Option.some.inj q_38).symm, (v_4q, e_4r, I_4s), (.c rfl (.c rfl (.c rfl (.c rfl (.c rfl (.c rfl (.c rfl (.c rfl (.c rfl .n))))))))), ⟨hp, m_4u, o_1k, o_4v, r_j⟩⟩
                        ·
                          have q_38 := cond_f q_38 hc
                          apply go
                          have q_4w := congrArg some (q_39 _ (Option.some.inj q_38).symm)
                          obtain rfl := Option.some.inj q_4w
                          exact ⟨(x_2y, x_2z, v_31, e_32, I_33), (.c rfl (.c rfl (.c rfl (.c rfl (.c rfl (.c rfl (.c rfl (.c rfl .n)))))))), rfl, hp, m_36, o_1k, o_37, r_j⟩
                      ·
                        rintro ⟨x_4x, x_4y, v_4z, e_50, I_51⟩ w_52 ⟨hy, hp, m_53, o_1k, o_54, r_j⟩
                        replace hy := hy.symm
                        subst hy
                        apply go
                        exact ⟨_, (Option.some.inj q_2u).symm, (v_4z, e_50, I_51), (.c rfl (.c rfl (.c rfl (.c rfl (.c rfl (.c rfl (.c rfl (.c rfl .n)))))))), ⟨hp, m_53, o_1k, o_54, r_j⟩⟩
                    ·
                      have q_2u := cond_f q_2u hc
                      apply go
                      have q_55 := congrArg some (q_2v _ (Option.some.inj q_2u).symm)
                      obtain rfl := Option.some.inj q_55
                      exact ⟨(x_2k, x_2l, v_2n, e_2o, I_2p), (.c rfl (.c rfl (.c rfl (.c rfl (.c rfl (.c rfl (.c rfl .n))))))), rfl, hp, m_2s, o_1k, o_2t, r_j⟩
                  ·
                    rintro ⟨x_56, x_57, v_58, e_59, I_5a⟩ w_5b ⟨hy, hp, m_5c, o_1k, o_5d, r_j⟩
                    replace hy := hy.symm
                    subst hy
                    apply go
                    exact ⟨_, (Option.some.inj q_2g).symm, (v_58, e_59, I_5a), (.c rfl (.c rfl (.c rfl (.c rfl (.c rfl (.c rfl (.c rfl .n))))))), ⟨hp, m_5c, o_1k, o_5d, r_j⟩⟩
                ·
                  have q_2g := cond_f q_2g hc
                  apply go
                  have q_5e := congrArg some (q_2h _ (Option.some.inj q_2g).symm)
                  obtain rfl := Option.some.inj q_5e
                  exact ⟨(x_26, x_27, v_29, e_2a, I_2b), (.c rfl (.c rfl (.c rfl (.c rfl (.c rfl (.c rfl .n)))))), rfl, hp, m_2e, o_1k, o_2f, r_j⟩
              ·
                rintro ⟨x_5f, x_5g, v_5h, e_5i, I_5j⟩ w_5k ⟨hy, hp, m_5l, o_1k, o_5m, r_j⟩
                replace hy := hy.symm
                subst hy
                apply go
                apply go
                obtain ⟨q_5n, _, q_1o⟩ := need_some q_1o
                refine ev_call rfl rfl C29 ((Sort21_ok hp (i := 1) rfl o_5m q_5n).mono ?_)
                rintro _ w_5o ⟨hv, e_5p, hp, hs, o_5q⟩
                replace hv := hv.symm
                subst hv
                replace m_5l := m_5l.step hs
                replace o_1k := o_1k.step hs
                replace r_j := r_j.step hs
                apply go
                have r_5r := o_5q.frz hp (i := 1) rfl
                obtain ⟨hp, hs⟩ := freeze_hp hp (i := 1) rfl
                replace m_5l := m_5l.step hs
                replace r_j := r_j.step hs
                replace o_1k := o_1k.step hs
                have hp := hp.sel [0] (by decide)
                obtain ⟨A_5s, m_5t, m_5u, rfl⟩ := r_5r.isSl
                refine ev_litN (d := (dSl dCell)) (xs := [(sortL cf21 x_5g)]) (cs := [(.slice A_5s m_5t m_5u)]) hp rfl rfl Try.underlying51 T28 (by decide) rfl rfl (Elems.cons (d := (dSl dCell)) (xs := _) (dSl_iff.2 r_5r) (Elems.nil _ _ _ _)) ?_
                intro v_5v I_5w w_5x hp hs r_5y
                replace m_5l := m_5l.step hs
                replace r_j := r_j.step hs
                replace o_1k := o_1k.step hs
                obtain ⟨x_5z, q_60, q_1o⟩ := bind_some q_1o
                refine ev_append hp (i := 0) rfl rfl rfl rfl Try.underlying51 T28 rfl rfl o_1k r_5y q_60 ?_
                rintro v_61 e_62 w_63 hp hs o_64
                replace m_5l := m_5l.step hs
                replace r_j := r_j.step hs
                obtain rfl := Option.some.inj q_1o
                exact ⟨(x_5f, x_5z, v_61, e_62, I_5w), (.c rfl (.c rfl (.c rfl (.c rfl (.c rfl .n))))), rfl, hp, m_5l, o_64, r_j⟩
          ·
            rintro ⟨x_65, x_66, v_67, e_68, I_69⟩ w_6a ⟨hy, hp, m_6b, o_6c, r_j⟩
            replace hy := hy.symm
            subst hy
            apply go
            exact ⟨_, (Option.some.inj q_1l).symm, (v_67, e_68, I_69), (.c rfl (.c rfl (.c rfl (.c rfl (.c rfl .n))))), ⟨hp, m_6b, o_6c, r_j⟩⟩
        ·
          have q_1l := cond_f q_1l hc
          apply go
          have q_6d := congrArg some (q_1m _ (Option.some.inj q_1l).symm)
          obtain rfl := Option.some.inj q_6d
          exact ⟨(x_1c, v_1e, e_1f, I_1g), (.c rfl .n), rfl, hp, o_1k⟩
      ·
        rintro ⟨x_6e, v_6f, e_6g, I_6h⟩ w_6i ⟨hy, hp, o_6j⟩
        replace hy := hy.symm
        subst hy
        apply go
        apply go
        apply go
        obtain rfl := Option.some.inj h
        have r_6k := o_6j.frz hp (i := 0) rfl
        obtain ⟨hp, hs⟩ := freeze_hp hp (i := 0) rfl
        have hp := hp.sel [] (by decide)
        exact ⟨(Ad I_6h e_6g), v_6f, rfl, hp, r_6k⟩

end Go.Proofs.Ytcdboppghnchpaa

namespace Go.Proofs.Ytcdboppghnchpaa
open Go Go.Proofs.Ytcdboppghnchpaa.Gw Go.RowKit
set_option linter.unusedVariables false
attribute [local irreducible] Ev EvQ EvS EvH
def frontier_Goals_S (f : Plan → Cell → Option ((List Goal) × Int)) : Prop := ∀ (w0 : World) (I0 : Nat → Prop) (x_0 : Plan) (v_1 : Value) (r_2 : RepS (dI .u8) w0 I0 v_1 x_0.Cells) (x_3 : Cell) (hI : ∀ g, I0 g → g < w0.heap.size) (r : ((List Goal) × Int)), f x_0 x_3 = some r →
    Ret Try.prog 6 #[(.agg #[(.int .i64 x_0.W), (.int .i64 x_0.H), v_1]), (.agg #[(.int .i64 x_3.X), (.int .i64 x_3.Y)])] w0 fun v w1 => ∃ (I1 : Nat → Prop) (u_4 : Value), v = (.tuple #[u_4, (.int .i64 r.2)]) ∧ Hp ⟨w0, I0, []⟩ I1 [] w1 ∧ RepS dGoal w1 I1 u_4 r.1
theorem frontier_Goals_ok (n : Nat) : frontier_Goals_S (frontier_Goals n) := by
  intro w0 I0 x_0 v_1 r_2 x_3 hI r h
  unfold frontier_Goals at h
  refine enter Try.func6 rfl (Nat.le_of_ble_eq_true rfl) ?_
  have hp : Hp ⟨w0, I0, []⟩ I0 [] w0 := Hp.start hI
  apply go
  apply go
  refine ev_boxI hp rfl rfl ?_
  intro p_4 I_5 w_6 hp hs a_7
  replace r_2 := r_2.step hs
  refine ev_boxI hp rfl rfl ?_
  intro p_8 I_9 w_a hp hs a_b
  replace a_7 := a_7.step hs
  replace r_2 := r_2.step hs
  apply go
  apply go
  refine ev (rn_load rfl rfl (run_loadVarA T24 rfl a_7)) ?_
  refine ev (rn_load rfl rfl (run_loadVarA T26 rfl a_b)) ?_
  obtain ⟨⟨x_c, x_d⟩, q_e, h⟩ := bind_some h
  refine ev_call rfl rfl C7 (((path_Costs_ok n) _ _  (Plan.mk x_0.W x_0.H x_0.Cells) v_1 r_2 (Cell.mk x_3.X x_3.Y) hp.imm _ q_e).mono ?_)
  rintro _ w_f ⟨I_g, v_h, hv, hq, r_i⟩
  replace hv := hv.symm
  subst hv
  have hs := hq.st
  have hp := hp.join0 hq
  replace a_7 := a_7.step hs
  replace r_2 := r_2.step hs
  apply go
  apply go
  apply go
  apply go
  refine sel_of (fun hc => ?_) (fun hc => ?_)
  ·
    have h := cond_t h hc
    apply go
    apply go
    apply go
    obtain rfl := Option.some.inj h
    exact ⟨I_g, .slice none 0 0, rfl, hp, RepS.nil _ _ _⟩
  ·
    have h := cond_f h hc
    apply go
    apply go
    apply go
    refine ev (rn_load rfl rfl (run_loadVarA T24 rfl a_7)) ?_
    obtain ⟨⟨x_j, x_k⟩, q_l, h⟩ := bind_some h
    refine ev_call rfl rfl C16 (((frontier_Clusters_ok n) _ _  (Plan.mk x_0.W x_0.H x_0.Cells) v_1 r_2 hp.imm _ q_l).mono ?_)
    rintro _ w_m ⟨I_n, v_o, hv, hq, r_p⟩
    replace hv := hv.symm
    subst hv
    have hs := hq.st
    have hp := hp.join0 hq
    replace a_7 := a_7.step hs
    replace r_2 := r_2.step hs
    replace r_i := r_i.step hs
    apply go
    apply go
    obtain ⟨y_q, q_r, h⟩ := bind_some h
    refine W.cut (γ := ((List Goal) × Value × Ent × (Nat → Prop))) (fun g => [(10, (g.2.1))]) (fun g w' => y_q = (g.1) ∧ Hp ⟨w0, I0, []⟩ (g.2.2.2) [(g.2.2.1)] w' ∧ OwnS dGoal 43 w' (g.2.2.2) (g.2.1) (g.2.2.1) (g.1)) ?_ ?_
    ·
      apply go
      apply go
      refine ev0 (rn_len rfl rfl Try.underlying51 r_p) ?_
      apply go
      have hp := hp.none_
      have o_s := OwnS.nil dGoal 43 w_m I_n
      refine W.loop q_r (γ := (Value × Ent × (Nat → Prop))) (fun s g => [(2, (.pointer (some (p_4)))), (6, v_h), (10, (g.1)), (31, v_o), (32, (.int .i64 (x_j.length : Int))), (33, (.int .i64 (s.2)))]) (fun s g w' => Hp ⟨w0, I0, []⟩ (g.2.2) [(g.2.1)] w' ∧ RepS (dI .u8) w' (g.2.2) v_1 x_0.Cells ∧ At w' (g.2.2) p_4 [(.int .i64 x_0.W), (.int .i64 x_0.H), v_1] ∧ RepS (dI .i64) w' (g.2.2) v_h x_c ∧ OwnS dGoal 43 w' (g.2.2) (g.1) (g.2.1) (s.1) ∧ RepS (dSl dCell) w' (g.2.2) v_o x_j) ((.slice none 0 0), none, I_n) (.c rfl (.c rfl (.c rfl (.c rfl (.c rfl (.c rfl .n)))))) ⟨hp, r_2, a_7, r_i, o_s, r_p⟩ ?_
      rintro ⟨x_t, x_u⟩ ⟨v_v, e_w, I_x⟩ w_y y_z ⟨hp, r_2, a_7, r_i, o_10, r_p⟩ q_11 q_12
      unfold frontier_Goals_L21 at q_11
      apply go
      apply go
      apply go
      apply go
      refine sel_of (fun hc => ?_) (fun hc => ?_)
      ·
        have q_11 := cond_t q_11 hc
        apply go
        obtain ⟨y_13, q_14, q_11⟩ := bind_some q_11
        refine W.cut (γ := ((List Goal) × Value × Ent × (Nat → Prop))) (fun g => [(2, (.pointer (some (p_4)))), (6, v_h), (10, (g.2.1)), (31, v_o), (32, (.int .i64 (x_j.length : Int))), (33, (.int .i64 x_u))]) (fun g w' => y_13 = (g.1) ∧ Hp ⟨w0, I0, []⟩ (g.2.2.2) [(g.2.2.1)] w' ∧ RepS (dI .u8) w' (g.2.2.2) v_1 x_0.Cells ∧ At w' (g.2.2.2) p_4 [(.int .i64 x_0.W), (.int .i64 x_0.H), v_1] ∧ RepS (dI .i64) w' (g.2.2.2) v_h x_c ∧ OwnS dGoal 43 w' (g.2.2.2) (g.2.1) (g.2.2.1) (g.1) ∧ RepS (dSl dCell) w' (g.2.2.2) v_o x_j) ?_ ?_
        ·
          apply go
          apply go
          apply go
          obtain ⟨x_15, q_16, q_14⟩ := bind_some q_14
          refine ev_index rfl rfl rfl Try.underlying51 T28 r_p q_16 ?_
          intro p_17 c_18 d_19 a_1a
          obtain ⟨v_1b, rfl, r_1c⟩ := d_19
          refine ev (rn_load rfl rfl (run_loadVar1 T28 (a_1a.2 0 _ rfl))) ?_
          apply go
          apply go
          refine ev0 (rn_len rfl rfl Try.underlying28 r_1c) ?_
          refine ev0 (fun w => rn_build (cs := [(.int .i64 0), (.int .i64 0), (.int .i64 (-1)), (.int .i64 (x_15.length : Int))]) rfl rfl T43 PL43 rfl) ?_
          refine ev_alloc hp rfl T43 ?_
          intro g_1d w_1e hp hs
          replace a_7 := a_7.step hs
          replace r_2 := r_2.step hs
          replace r_i := r_i.step hs
          replace o_10 := o_10.step hs
          replace r_p := r_p.step hs
          replace r_1c := r_1c.step hs
          refine ev_storeA hp (i := 0) (off := 0) (vs := [(.int .i64 0), (.int .i64 0), (.int .i64 (-1)), (.int .i64 (x_15.length : Int))]) rfl rfl rfl rfl T43 rfl (Nat.le_of_ble_eq_true rfl) (ones_of rfl) ?_
          intro w_1f hp hs
          replace a_7 := a_7.step hs
          replace r_2 := r_2.step hs
          replace r_i := r_i.step hs
          replace o_10 := o_10.step hs
          replace r_p := r_p.step hs
          replace r_1c := r_1c.step hs
          obtain ⟨y_1g, q_1h, q_14⟩ := bind_some q_14
          refine W.cut (γ := (Int × Int × Int)) (fun g => [(2, (.pointer (some (p_4)))), (6, v_h), (10, v_v), (13, (.pointer (some ⟨g_1d, 0, none⟩))), (31, v_o), (32, (.int .i64 (x_j.length : Int))), (33, (.int .i64 x_u))]) (fun g w' => y_1g = ((g.1), (g.2.1), (g.2.2)) ∧ Hp ⟨w0, I0, []⟩ I_x [e_w, some (g_1d, [(.int .i64 (g.1)), (.int .i64 (g.2.1)), (.int .i64 (g.2.2)), (.int .i64 (x_15.length : Int))], 43)] w' ∧ RepS (dI .u8) w' I_x v_1 x_0.Cells ∧ At w' I_x p_4 [(.int .i64 x_0.W), (.int .i64 x_0.H), v_1] ∧ RepS (dI .i64) w' I_x v_h x_c ∧ OwnS dGoal 43 w' I_x v_v e_w x_t ∧ RepS (dSl dCell) w' I_x v_o x_j) ?_ ?_
          ·
            apply go
            apply go
            refine ev0 (rn_len rfl rfl Try.underlying28 r_1c) ?_
            apply go
            have hp := hp.perm [1, 0] (by decide)
            refine W.loop q_1h (γ := Unit) (fun s _ => [(2, (.pointer (some (p_4)))), (6, v_h), (10, v_v), (13, (.pointer (some ⟨g_1d, 0, none⟩))), (31, v_o), (32, (.int .i64 (x_j.length : Int))), (33, (.int .i64 x_u)), (40, v_1b), (41, (.int .i64 (x_15.length : Int))), (42, (.int .i64 (s.2.2.2)))]) (fun s _ w' => Hp ⟨w0, I0, []⟩ I_x [e_w, some (g_1d, [(.int .i64 (s.1)), (.int .i64 (s.2.1)), (.int .i64 (s.2.2.1)), (.int .i64 (x_15.length : Int))], 43)] w' ∧ RepS (dI .u8) w' I_x v_1 x_0.Cells ∧ At w' I_x p_4 [(.int .i64 x_0.W), (.int .i64 x_0.H), v_1] ∧ RepS (dI .i64) w' I_x v_h x_c ∧ OwnS dGoal 43 w' I_x v_v e_w x_t ∧ RepS (dSl dCell) w' I_x v_o x_j ∧ RepS dCell w' I_x v_1b x_15) () (.c rfl (.c rfl (.c rfl (.c rfl (.c rfl (.c rfl (.c rfl (.c rfl (.c rfl (.c rfl .n)))))))))) ⟨hp, r_2, a_7, r_i, o_10, r_p, r_1c⟩ ?_
            rintro ⟨x_1i, x_1j, x_1k, x_1l⟩ ⟨⟩ w_1m y_1n ⟨hp, r_2, a_7, r_i, o_10, r_p, r_1c⟩ q_1o q_1p
            unfold frontier_Goals_L25 at q_1o
            apply go
            apply go
            apply go
            apply go
            refine sel_of (fun hc => ?_) (fun hc => ?_)
            ·
              have q_1o := cond_t q_1o hc
              apply go
              obtain ⟨y_1q, q_1r, q_1o⟩ := bind_some q_1o
              refine W.cut (γ := (Int × Int × Int)) (fun g => [(2, (.pointer (some (p_4)))), (6, v_h), (10, v_v), (13, (.pointer (some ⟨g_1d, 0, none⟩))), (31, v_o), (32, (.int .i64 (x_j.length : Int))), (33, (.int .i64 x_u)), (40, v_1b), (41, (.int .i64 (x_15.length : Int))), (42, (.int .i64 x_1l))]) (fun g w' => y_1q = ((g.1), (g.2.1), (g.2.2)) ∧ Hp ⟨w0, I0, []⟩ I_x [e_w, some (g_1d, [(.int .i64 (g.1)), (.int .i64 (g.2.1)), (.int .i64 (g.2.2)), (.int .i64 (x_15.length : Int))], 43)] w' ∧ RepS (dI .u8) w' I_x v_1 x_0.Cells ∧ At w' I_x p_4 [(.int .i64 x_0.W), (.int .i64 x_0.H), v_1] ∧ RepS (dI .i64) w' I_x v_h x_c ∧ OwnS dGoal 43 w' I_x v_v e_w x_t ∧ RepS (dSl dCell) w' I_x v_o x_j ∧ RepS dCell w' I_x v_1b x_15) ?_ ?_
              ·
                apply go
                apply go
                apply go
                obtain ⟨x_1s, q_1t, q_1r⟩ := bind_some q_1r
                refine ev_index rfl rfl rfl Try.underlying28 T26 r_1c q_1t ?_
                intro p_1u c_1v d_1w a_1x
                obtain rfl := dCell_o d_1w
                refine ev (rn_load rfl rfl (run_loadVarA T26 rfl a_1x)) ?_
                refine ev_alloc hp rfl T26 ?_
                intro g_1y w_1z hp hs
                replace a_7 := a_7.step hs
                replace r_2 := r_2.step hs
                replace r_i := r_i.step hs
                replace o_10 := o_10.step hs
                replace r_p := r_p.step hs
                replace r_1c := r_1c.step hs
                refine ev_storeA hp (i := 0) (off := 0) (vs := [(.int .i64 x_1s.X), (.int .i64 x_1s.Y)]) rfl rfl rfl rfl T26 rfl (Nat.le_of_ble_eq_true rfl) (ones_of rfl) ?_
                intro w_20 hp hs
                replace a_7 := a_7.step hs
                replace r_2 := r_2.step hs
                replace r_i := r_i.step hs
                replace o_10 := o_10.step hs
                replace r_p := r_p.step hs
                replace r_1c := r_1c.step hs
                apply go
                apply go
                refine ev0 (rn_field rfl rfl FO26_1) ?_
                refine ev (rn_load rfl rfl (run_loadVar1 T3 (hp.cell (i := 0) (off := 1) rfl rfl))) ?_
                refine ev0 (rn_field rfl rfl FO24_0) ?_
                refine ev (rn_load rfl rfl (run_loadVar1 T3 (a_7.2 0 _ rfl))) ?_
                refine ev0 (rn_field rfl rfl FO26_0) ?_
                refine ev (rn_load rfl rfl (run_loadVar1 T3 (hp.cell (i := 0) (off := 0) rfl rfl))) ?_
                obtain ⟨x_21, q_22, q_1r⟩ := bind_some q_1r
                refine ev_index rfl rfl rfl Try.underlying35 T3 r_i q_22 ?_
                intro p_23 c_24 d_25 a_26
                obtain rfl : c_24 = [(.int .i64 x_21)] := d_25
                refine ev (rn_load rfl rfl (run_loadVar1 T3 (a_26.2 0 _ rfl))) ?_
                obtain ⟨y_27, q_28, q_1r⟩ := bind_some q_1r
                refine W.cut (γ := Bool) (fun g => [(2, (.pointer (some (p_4)))), (6, v_h), (10, v_v), (13, (.pointer (some ⟨g_1d, 0, none⟩))), (15, (.pointer (some ⟨g_1y, 0, none⟩))), (16, (.int .i64 x_21)), (31, v_o), (32, (.int .i64 (x_j.length : Int))), (33, (.int .i64 x_u)), (40, v_1b), (41, (.int .i64 (x_15.length : Int))), (42, (.int .i64 x_1l)), (69, (.bool (g)))]) (fun g w' => y_27 = (g) ∧ w_20 = w') ?_ ?_
                ·
                  apply go
                  refine sel_of (fun hc => ?_) (fun hc => ?_)
                  ·
                    have q_28 := cond_t q_28 hc
                    refine ev0 (rn_field rfl rfl FO43_1) ?_
                    refine ev (rn_load rfl rfl (run_loadVar1 T3 (hp.cell (i := 2) (off := 2) rfl rfl))) ?_
                    refine sel_of (fun hc => ?_) (fun hc => ?_)
                    ·
                      have q_28 := cond_t q_28 hc
                      obtain rfl := Option.some.inj q_28
                      exact ⟨true, (.c rfl (.c rfl (.c rfl (.c rfl (.c rfl (.c rfl (.c rfl (.c rfl (.c rfl (.c rfl (.c rfl (.c rfl (.c rfl .n))))))))))))), rfl, rfl⟩
                    ·
                      have q_28 := cond_f q_28 hc
                      refine ev0 (rn_field rfl rfl FO43_1) ?_
                      refine ev (rn_load rfl rfl (run_loadVar1 T3 (hp.cell (i := 2) (off := 2) rfl rfl))) ?_
                      obtain rfl := Option.some.inj q_28
                      exact ⟨(decide (x_21 < x_1k)), (.c rfl (.c rfl (.c rfl (.c rfl (.c rfl (.c rfl (.c rfl (.c rfl (.c rfl (.c rfl (.c rfl (.c rfl (.c rfl .n))))))))))))), rfl, rfl⟩
                  ·
                    have q_28 := cond_f q_28 hc
                    obtain rfl := Option.some.inj q_28
                    exact ⟨false, (.c rfl (.c rfl (.c rfl (.c rfl (.c rfl (.c rfl (.c rfl (.c rfl (.c rfl (.c rfl (.c rfl (.c rfl (.c rfl .n))))))))))))), rfl, rfl⟩
                ·
                  rintro x_29 _ ⟨hy, rfl⟩
                  replace hy := hy.symm
                  subst hy
                  apply go
                  refine sel_of (fun hc => ?_) (fun hc => ?_)
                  ·
                    have q_1r := cond_t q_1r hc
                    apply go
                    refine ev (rn_load rfl rfl (run_loadVarA T26 rfl (hp.at_ (i := 0) rfl))) ?_
                    refine ev0 (rn_field rfl rfl FO43_0) ?_
                    refine ev_storeA hp (i := 2) (off := 0) (vs := [(.int .i64 x_1s.X), (.int .i64 x_1s.Y)]) rfl rfl rfl rfl T26 rfl (Nat.le_of_ble_eq_true rfl) (ones_of rfl) ?_
                    intro w_2a hp hs
                    replace a_7 := a_7.step hs
                    replace r_2 := r_2.step hs
                    replace r_i := r_i.step hs
                    replace o_10 := o_10.step hs
                    replace r_p := r_p.step hs
                    replace r_1c := r_1c.step hs
                    refine ev0 (rn_field rfl rfl FO43_1) ?_
                    refine ev_store1 hp (i := 2) (off := 2) rfl rfl rfl rfl T3 rfl (Nat.le_of_ble_eq_true rfl) ?_
                    intro w_2b hp hs
                    replace a_7 := a_7.step hs
                    replace r_2 := r_2.step hs
                    replace r_i := r_i.step hs
                    replace o_10 := o_10.step hs
                    replace r_p := r_p.step hs
                    replace r_1c := r_1c.step hs
                    obtain rfl := Option.some.inj q_1r
                    have hp := hp.sel [1, 2] (by decide)
                    exact ⟨(x_1s.X, x_1s.Y, x_21), (.c rfl (.c rfl (.c rfl (.c rfl (.c rfl (.c rfl (.c rfl (.c rfl (.c rfl (.c rfl .n)))))))))), rfl, hp, r_2, a_7, r_i, o_10, r_p, r_1c⟩
                  ·
                    have q_1r := cond_f q_1r hc
                    apply go
                    obtain rfl := Option.some.inj q_1r
                    have hp := hp.sel [1, 2] (by decide)
                    exact ⟨(x_1i, x_1j, x_1k), (.c rfl (.c rfl (.c rfl (.c rfl (.c rfl (.c rfl (.c rfl (.c rfl (.c rfl (.c rfl .n)))))))))), rfl, hp, r_2, a_7, r_i, o_10, r_p, r_1c⟩
              ·
                rintro ⟨x_2c, x_2d, x_2e⟩ w_2f ⟨hy, hp, r_2, a_7, r_i, o_10, r_p, r_1c⟩
                replace hy := hy.symm
                subst hy
                apply go
                exact ⟨_, (Option.some.inj q_1o).symm, (), (.c rfl (.c rfl (.c rfl (.c rfl (.c rfl (.c rfl (.c rfl (.c rfl (.c rfl (.c rfl .n)))))))))), ⟨hp, r_2, a_7, r_i, o_10, r_p, r_1c⟩⟩
            ·
              have q_1o := cond_f q_1o hc
              apply go
              have q_2g := congrArg some (q_1p _ (Option.some.inj q_1o).symm)
              obtain rfl := Option.some.inj q_2g
              exact ⟨(x_1i, x_1j, x_1k), (.c rfl (.c rfl (.c rfl (.c rfl (.c rfl (.c rfl (.c rfl .n))))))), rfl, hp, r_2, a_7, r_i, o_10, r_p⟩
          ·
            rintro ⟨x_2h, x_2i, x_2j⟩ w_2k ⟨hy, hp, r_2, a_7, r_i, o_10, r_p⟩
            replace hy := hy.symm
            subst hy
            apply go
            apply go
            refine ev0 (rn_field rfl rfl FO43_1) ?_
            refine ev (rn_load rfl rfl (run_loadVar1 T3 (hp.cell (i := 1) (off := 2) rfl rfl))) ?_
            apply go
            refine sel_of (fun hc => ?_) (fun hc => ?_)
            ·
              have q_14 := cond_t q_14 hc
              apply go
              refine ev (rn_load rfl rfl (run_loadVarA T43 rfl (hp.at_ (i := 1) rfl))) ?_
              refine ev_litN (d := dGoal) (xs := [(Goal.mk (Cell.mk x_2h x_2i) x_2j (x_15.length : Int))]) (cs := [(.int .i64 x_2h), (.int .i64 x_2i), (.int .i64 x_2j), (.int .i64 (x_15.length : Int))]) hp rfl rfl Try.underlying32 T43 (by decide) rfl rfl (Elems.cons (d := dGoal) (xs := _) dGoal_m (Elems.nil _ _ _ _)) ?_
              intro v_2l I_2m w_2n hp hs r_2o
              replace a_7 := a_7.step hs
              replace r_2 := r_2.step hs
              replace r_i := r_i.step hs
              replace r_p := r_p.step hs
              replace o_10 := o_10.step hs
              obtain ⟨x_2p, q_2q, q_14⟩ := bind_some q_14
              refine ev_append hp (i := 0) rfl rfl rfl rfl Try.underlying32 T43 rfl rfl o_10 r_2o q_2q ?_
              rintro v_2r e_2s w_2t hp hs o_2u
              replace a_7 := a_7.step hs
              replace r_2 := r_2.step hs
              replace r_i := r_i.step hs
              replace r_p := r_p.step hs
              obtain rfl := Option.some.inj q_14
              have hp := hp.sel [0] (by decide)
              exact ⟨(x_2p, v_2r, e_2s, I_2m), (.c rfl (.c rfl (.c rfl (.c rfl (.c rfl (.c rfl .n)))))), rfl, hp, r_2, a_7, r_i, o_2u, r_p⟩
            ·
              have q_14 := cond_f q_14 hc
              apply go
              obtain rfl := Option.some.inj q_14
              have hp := hp.sel [0] (by decide)
              exact ⟨(x_t, v_v, e_w, I_x), (.c rfl (.c rfl (.c rfl (.c rfl (.c rfl (.c rfl .n)))))), rfl, hp, r_2, a_7, r_i, o_10, r_p⟩
        ·
          rintro ⟨x_2v, v_2w, e_2x, I_2y⟩ w_2z ⟨hy, hp, r_2, a_7, r_i, o_30, r_p⟩
          replace hy := hy.symm
          subst hy
          apply go
          exact ⟨_, (Option.some.inj q_11).symm, (v_2w, e_2x, I_2y), (.c rfl (.c rfl (.c rfl (.c rfl (.c rfl (.c rfl .n)))))), ⟨hp, r_2, a_7, r_i, o_30, r_p⟩⟩
      ·
        have q_11 := cond_f q_11 hc
        apply go
        have q_31 := congrArg some (q_12 _ (Option.some.inj q_11).symm)
        obtain rfl := Option.some.inj q_31
        exact ⟨(x_t, v_v, e_w, I_x), (.c rfl .n), rfl, hp, o_10⟩
    ·
      rintro ⟨x_32, v_33, e_34, I_35⟩ w_36 ⟨hy, hp, o_37⟩
      replace hy := hy.symm
      subst hy
      apply go
      apply go
      obtain ⟨q_38, _, h⟩ := need_some h
      refine ev_call rfl rfl C17 ((Sort18_ok hp (i := 0) rfl o_37 q_38).mono ?_)
      rintro _ w_39 ⟨hv, e_3a, hp, hs, o_3b⟩
      replace hv := hv.symm
      subst hv
      apply go
      apply go
      apply go
      obtain rfl := Option.some.inj h
      have r_3c := o_3b.frz hp (i := 0) rfl
      obtain ⟨hp, hs⟩ := freeze_hp hp (i := 0) rfl
      have hp := hp.sel [] (by decide)
      exact ⟨(Ad I_35 e_3a), v_33, rfl, hp, r_3c⟩

end Go.Proofs.Ytcdboppghnchpaa

namespace Go.Proofs.Ytcdboppghnchpaa
open Go Go.Proofs.Ytcdboppghnchpaa.Gw Go.RowKit
set_option linter.unusedVariables false
attribute [local irreducible] Ev EvQ EvS EvH
def top_tourAwake_S (f : Option Bool) : Prop := ∀ (w0 : World) (I0 : Nat → Prop)  (hI : ∀ g, I0 g → g < w0.heap.size) (r : Bool), f  = some r →
    Ret Try.prog 4 #[] w0 fun v w1 => v = (.bool r) ∧ Ch [] w0 w1
theorem top_tourAwake_ok (n : Nat) : top_tourAwake_S (top_tourAwake n) := by
  intro w0 I0 hI r h
  unfold top_tourAwake at h
  refine enter Try.func4 rfl (Nat.le_of_ble_eq_true rfl) ?_
  have hp : Hp ⟨w0, I0, []⟩ I0 [] w0 := Hp.start hI
  apply go
  apply go
  apply go
  apply go
  refine ev_litN (d := (dI .u8)) (xs := [1, 1, 0]) (cs := [(.int .u8 1), (.int .u8 1), (.int .u8 0)]) hp rfl rfl Try.underlying22 T5 (by decide) rfl rfl (Elems.cons (d := (dI .u8)) (xs := _) rfl (Elems.cons (d := (dI .u8)) (xs := _) rfl (Elems.cons (d := (dI .u8)) (xs := _) rfl (Elems.nil _ _ _ _)))) ?_
  intro v_0 I_1 w_2 hp hs r_3
  obtain ⟨A_4, m_5, m_6, rfl⟩ := r_3.isSl
  refine ev0 (fun w => rn_build (cs := [(.int .i64 3), (.int .i64 1), (.slice A_4 m_5 m_6)]) rfl rfl T24 PL24 rfl) ?_
  refine ev_alloc hp rfl T24 ?_
  intro g_7 w_8 hp hs
  replace r_3 := r_3.step hs
  refine ev_storeA hp (i := 0) (off := 0) (vs := [(.int .i64 3), (.int .i64 1), (.slice A_4 m_5 m_6)]) rfl rfl rfl rfl T24 rfl (Nat.le_of_ble_eq_true rfl) (ones_cons rfl (ones_cons rfl (ones_cons r_3.one ones_nil))) ?_
  intro w_9 hp hs
  replace r_3 := r_3.step hs
  apply go
  apply go
  refine ev (rn_load rfl rfl (run_loadVarA T24 rfl (hp.at_ (i := 0) rfl))) ?_
  refine ev0 (fun w => rn_build (cs := [(.int .i64 0), (.int .i64 0)]) rfl rfl T26 PL26 rfl) ?_
  obtain ⟨⟨x_a, x_b⟩, q_c, h⟩ := bind_some h
  refine ev_call rfl rfl C5 (((tour_Tour_ok n) _ _  (Plan.mk 3 1 [1, 1, 0]) (.slice A_4 m_5 m_6) r_3 (Cell.mk 0 0) hp.imm _ q_c).mono ?_)
  rintro _ w_d ⟨I_e, v_f, hv, hq, r_g⟩
  replace hv := hv.symm
  subst hv
  have hs := hq.st
  have hp := hp.join0 hq
  replace r_3 := r_3.step hs
  apply go
  apply go
  refine ev (rn_load rfl rfl (run_loadVarA T24 rfl (hp.at_ (i := 0) rfl))) ?_
  refine ev0 (fun w => rn_build (cs := [(.int .i64 0), (.int .i64 0)]) rfl rfl T26 PL26 rfl) ?_
  obtain ⟨⟨x_h, x_i⟩, q_j, h⟩ := bind_some h
  refine ev_call rfl rfl C6 (((frontier_Goals_ok n) _ _  (Plan.mk 3 1 [1, 1, 0]) (.slice A_4 m_5 m_6) r_3 (Cell.mk 0 0) hp.imm _ q_j).mono ?_)
  rintro _ w_k ⟨I_l, v_m, hv, hq, r_n⟩
  replace hv := hv.symm
  subst hv
  have hs := hq.st
  have hp := hp.join0 hq
  replace r_g := r_g.step hs
  replace r_3 := r_3.step hs
  obtain ⟨y_o, q_p, h⟩ := bind_some h
  refine W.cut (γ := Bool) (fun g => [(0, (.bool (g)))]) (fun g w' => y_o = (g) ∧ w_k = w') ?_ ?_
  ·
    apply go
    refine sel_of (fun hc => ?_) (fun hc => ?_)
    ·
      have q_p := cond_t q_p hc
      refine ev0 (rn_len rfl rfl Try.underlying28 r_g) ?_
      refine sel_of (fun hc => ?_) (fun hc => ?_)
      ·
        have q_p := cond_t q_p hc
        refine sel_of (fun hc => ?_) (fun hc => ?_)
        ·
          have q_p := cond_t q_p hc
          refine ev0 (rn_len rfl rfl Try.underlying32 r_n) ?_
          refine sel_of (fun hc => ?_) (fun hc => ?_)
          ·
            have q_p := cond_t q_p hc
            obtain ⟨x_q, q_r, q_p⟩ := bind_some q_p
            refine ev_index rfl rfl rfl Try.underlying32 T43 r_n q_r ?_
            intro p_s c_t d_u a_v
            obtain rfl := dGoal_o d_u
            refine ev (rn_load rfl rfl (run_loadVarA T43 rfl a_v)) ?_
            refine ev0 (fun w => rn_build (cs := [(.int .i64 1), (.int .i64 0)]) rfl rfl T26 PL26 rfl) ?_
            refine ev0 (fun w => rn_build (cs := [(.int .i64 1), (.int .i64 0), (.int .i64 70), (.int .i64 1)]) rfl rfl T43 PL43 rfl) ?_
            refine ev0 (rn_eqA rfl rfl rfl (EQ43 x_q.Cell.X x_q.Cell.Y x_q.Cost x_q.Size 1 0 70 1)) ?_
            obtain rfl := Option.some.inj q_p
            exact ⟨(((x_q.Cell.X == 1) && ((x_q.Cell.Y == 0) && true)) && ((x_q.Cost == 70) && ((x_q.Size == 1) && true))), (.c rfl .n), rfl, rfl⟩
          ·
            have q_p := cond_f q_p hc
            obtain rfl := Option.some.inj q_p
            exact ⟨false, (.c rfl .n), rfl, rfl⟩
        ·
          have q_p := cond_f q_p hc
          obtain rfl := Option.some.inj q_p
          exact ⟨false, (.c rfl .n), rfl, rfl⟩
      ·
        have q_p := cond_f q_p hc
        obtain rfl := Option.some.inj q_p
        exact ⟨false, (.c rfl .n), rfl, rfl⟩
    ·
      have q_p := cond_f q_p hc
      obtain rfl := Option.some.inj q_p
      exact ⟨false, (.c rfl .n), rfl, rfl⟩
  ·
    rintro x_w _ ⟨hy, rfl⟩
    replace hy := hy.symm
    subst hy
    apply go
    obtain rfl := Option.some.inj h
    exact ⟨rfl, hp.ch⟩

end Go.Proofs.Ytcdboppghnchpaa

namespace Go.Proofs.Ytcdboppghnchpaa
open Go Go.Proofs.Ytcdboppghnchpaa.Gw Go.RowKit
set_option linter.unusedVariables false
attribute [local irreducible] Ev EvQ EvS EvH
def base_Plan_S (f : Plan → Option Bool) : Prop := ∀ (w0 : World) (I0 : Nat → Prop) (x_0 : Plan) (v_1 : Value) (r_2 : RepS (dI .u8) w0 I0 v_1 x_0.Cells) (hI : ∀ g, I0 g → g < w0.heap.size) (r : Bool), f x_0 = some r →
    Ret Try.prog 8 #[(.agg #[(.int .i64 x_0.W), (.int .i64 x_0.H), v_1])] w0 fun v w1 => v = (.bool r) ∧ Ch [] w0 w1
theorem base_Plan_ok (n : Nat) : base_Plan_S (base_Plan n) := by
  intro w0 I0 x_0 v_1 r_2 hI r h
  unfold base_Plan at h
  refine enter Try.func8 rfl (Nat.le_of_ble_eq_true rfl) ?_
  have hp : Hp ⟨w0, I0, []⟩ I0 [] w0 := Hp.start hI
  apply go
  apply go
  refine ev_boxI hp rfl rfl ?_
  intro p_3 I_4 w_5 hp hs a_6
  replace r_2 := r_2.step hs
  apply go
  obtain ⟨y_7, q_8, h⟩ := bind_some h
  refine W.cut (γ := Bool) (fun g => [(1, (.pointer (some (p_3)))), (32, (.bool (g)))]) (fun g w' => y_7 = (g) ∧ w_5 = w') ?_ ?_
  ·
    apply go
    refine ev0 (rn_field rfl rfl FO24_0) ?_
    refine ev (rn_load rfl rfl (run_loadVar1 T3 (a_6.2 0 _ rfl))) ?_
    refine sel_of (fun hc => ?_) (fun hc => ?_)
    ·
      have q_8 := cond_t q_8 hc
      obtain rfl := Option.some.inj q_8
      exact ⟨true, (.c rfl (.c rfl .n)), rfl, rfl⟩
    ·
      have q_8 := cond_f q_8 hc
      refine ev0 (rn_field rfl rfl FO24_0) ?_
      refine ev (rn_load rfl rfl (run_loadVar1 T3 (a_6.2 0 _ rfl))) ?_
      refine sel_of (fun hc => ?_) (fun hc => ?_)
      ·
        have q_8 := cond_t q_8 hc
        obtain rfl := Option.some.inj q_8
        exact ⟨true, (.c rfl (.c rfl .n)), rfl, rfl⟩
      ·
        have q_8 := cond_f q_8 hc
        refine ev0 (rn_field rfl rfl FO24_1) ?_
        refine ev (rn_load rfl rfl (run_loadVar1 T3 (a_6.2 1 _ rfl))) ?_
        refine sel_of (fun hc => ?_) (fun hc => ?_)
        ·
          have q_8 := cond_t q_8 hc
          obtain rfl := Option.some.inj q_8
          exact ⟨true, (.c rfl (.c rfl .n)), rfl, rfl⟩
        ·
          have q_8 := cond_f q_8 hc
          refine ev0 (rn_field rfl rfl FO24_1) ?_
          refine ev (rn_load rfl rfl (run_loadVar1 T3 (a_6.2 1 _ rfl))) ?_
          refine sel_of (fun hc => ?_) (fun hc => ?_)
          ·
            have q_8 := cond_t q_8 hc
            obtain rfl := Option.some.inj q_8
            exact ⟨true, (.c rfl (.c rfl .n)), rfl, rfl⟩
          ·
            have q_8 := cond_f q_8 hc
            refine ev0 (rn_field rfl rfl FO24_2) ?_
            refine ev (rn_load rfl rfl (run_loadVar1 T22 (a_6.2 2 _ rfl))) ?_
            refine ev0 (rn_len rfl rfl Try.underlying22 r_2) ?_
            refine ev0 (rn_field rfl rfl FO24_0) ?_
            refine ev (rn_load rfl rfl (run_loadVar1 T3 (a_6.2 0 _ rfl))) ?_
            refine ev0 (rn_field rfl rfl FO24_1) ?_
            refine ev (rn_load rfl rfl (run_loadVar1 T3 (a_6.2 1 _ rfl))) ?_
            obtain rfl := Option.some.inj q_8
            exact ⟨((x_0.Cells.length : Int) != (IntKind.i64.wrap (x_0.W * x_0.H))), (.c rfl (.c rfl .n)), rfl, rfl⟩
  ·
    rintro x_9 _ ⟨hy, rfl⟩
    replace hy := hy.symm
    subst hy
    apply go
    refine sel_of (fun hc => ?_) (fun hc => ?_)
    ·
      have h := cond_t h hc
      apply go
      apply go
      apply go
      obtain rfl := Option.some.inj h
      exact ⟨rfl, hp.ch⟩
    ·
      have h := cond_f h hc
      apply go
      obtain ⟨y_a, q_b, h⟩ := bind_some h
      refine W.cut (γ := Unit) (fun _ => []) (fun _ w' => y_a = .go () ∧ w_5 = w') ?_ ?_
      ·
        apply go
        apply go
        apply go
        refine W.loop q_b (γ := Unit) (fun s _ => [(1, (.pointer (some (p_3)))), (3, (.int .i64 (s)))]) (fun s _ w' => w_5 = w') () (.c rfl (.c rfl .n)) rfl ?_
        rintro x_c ⟨⟩ _ y_d rfl q_e q_f
        unfold base_Plan_L1 at q_e
        apply go
        apply go
        apply go
        refine ev0 (rn_field rfl rfl FO24_2) ?_
        refine ev (rn_load rfl rfl (run_loadVar1 T22 (a_6.2 2 _ rfl))) ?_
        refine ev0 (rn_len rfl rfl Try.underlying22 r_2) ?_
        apply go
        refine sel_of (fun hc => ?_) (fun hc => ?_)
        ·
          have q_e := cond_t q_e hc
          apply go
          apply go
          apply go
          apply go
          apply go
          refine ev0 (rn_field rfl rfl FO24_2) ?_
          refine ev (rn_load rfl rfl (run_loadVar1 T22 (a_6.2 2 _ rfl))) ?_
          obtain ⟨x_g, q_h, q_e⟩ := bind_some q_e
          refine ev_index rfl rfl rfl Try.underlying22 T5 r_2 q_h ?_
          intro p_i c_j d_k a_l
          obtain rfl : c_j = [(.int .u8 x_g)] := d_k
          refine ev (rn_load rfl rfl (run_loadVar1 T5 (a_l.2 0 _ rfl))) ?_
          apply go
          refine sel_of (fun hc => ?_) (fun hc => ?_)
          ·
            have q_e := cond_t q_e hc
            apply go
            apply go
            apply go
            have q_m := congrArg some (q_f _ (Option.some.inj q_e).symm)
            obtain rfl := Option.some.inj q_m
            obtain rfl := Option.some.inj h
            exact ⟨rfl, hp.ch⟩
          ·
            have q_e := cond_f q_e hc
            apply go
            apply go
            exact ⟨_, (Option.some.inj q_e).symm, (), (.c rfl (.c rfl .n)), rfl⟩
        ·
          have q_e := cond_f q_e hc
          apply go
          have q_n := congrArg some (q_f _ (Option.some.inj q_e).symm)
          obtain rfl := Option.some.inj q_n
          exact ⟨(), .n, rfl, rfl⟩
      ·
        rintro ⟨⟩ _ ⟨hy, rfl⟩
        replace hy := hy.symm
        subst hy
        apply go
        apply go
        apply go
        obtain rfl := Option.some.inj h
        exact ⟨rfl, hp.ch⟩

end Go.Proofs.Ytcdboppghnchpaa

namespace Go.Proofs.Ytcdboppghnchpaa
open Go Go.Proofs.Ytcdboppghnchpaa.Gw Go.RowKit
set_option linter.unusedVariables false
attribute [local irreducible] Ev EvQ EvS EvH
def base_Inside_S (f : Plan → Cell → Option Bool) : Prop := ∀ (w0 : World) (I0 : Nat → Prop) (x_0 : Plan) (v_1 : Value) (r_2 : RepS (dI .u8) w0 I0 v_1 x_0.Cells) (x_3 : Cell) (hI : ∀ g, I0 g → g < w0.heap.size) (r : Bool), f x_0 x_3 = some r →
    Ret Try.prog 9 #[(.agg #[(.int .i64 x_0.W), (.int .i64 x_0.H), v_1]), (.agg #[(.int .i64 x_3.X), (.int .i64 x_3.Y)])] w0 fun v w1 => v = (.bool r) ∧ Ch [] w0 w1
theorem base_Inside_ok (n : Nat) : base_Inside_S (base_Inside n) := by
  intro w0 I0 x_0 v_1 r_2 x_3 hI r h
  unfold base_Inside at h
  refine enter Try.func9 rfl (Nat.le_of_ble_eq_true rfl) ?_
  have hp : Hp ⟨w0, I0, []⟩ I0 [] w0 := Hp.start hI
  apply go
  apply go
  refine ev_boxI hp rfl rfl ?_
  intro p_4 I_5 w_6 hp hs a_7
  replace r_2 := r_2.step hs
  refine ev_boxI hp rfl rfl ?_
  intro p_8 I_9 w_a hp hs a_b
  replace a_7 := a_7.step hs
  replace r_2 := r_2.step hs
  obtain ⟨y_c, q_d, h⟩ := bind_some h
  refine W.cut (γ := Bool) (fun g => [(4, (.bool (g)))]) (fun g w' => y_c = (g) ∧ w_a = w') ?_ ?_
  ·
    apply go
    refine ev0 (rn_field rfl rfl FO26_0) ?_
    refine ev (rn_load rfl rfl (run_loadVar1 T3 (a_b.2 0 _ rfl))) ?_
    refine sel_of (fun hc => ?_) (fun hc => ?_)
    ·
      have q_d := cond_t q_d hc
      refine ev0 (rn_field rfl rfl FO26_0) ?_
      refine ev (rn_load rfl rfl (run_loadVar1 T3 (a_b.2 0 _ rfl))) ?_
      refine ev0 (rn_field rfl rfl FO24_0) ?_
      refine ev (rn_load rfl rfl (run_loadVar1 T3 (a_7.2 0 _ rfl))) ?_
      refine sel_of (fun hc => ?_) (fun hc => ?_)
      ·
        have q_d := cond_t q_d hc
        refine ev0 (rn_field rfl rfl FO26_1) ?_
        refine ev (rn_load rfl rfl (run_loadVar1 T3 (a_b.2 1 _ rfl))) ?_
        refine sel_of (fun hc => ?_) (fun hc => ?_)
        ·
          have q_d := cond_t q_d hc
          refine ev0 (rn_field rfl rfl FO26_1) ?_
          refine ev (rn_load rfl rfl (run_loadVar1 T3 (a_b.2 1 _ rfl))) ?_
          refine ev0 (rn_field rfl rfl FO24_1) ?_
          refine ev (rn_load rfl rfl (run_loadVar1 T3 (a_7.2 1 _ rfl))) ?_
          obtain rfl := Option.some.inj q_d
          exact ⟨(decide (x_3.Y < x_0.H)), (.c rfl .n), rfl, rfl⟩
        ·
          have q_d := cond_f q_d hc
          obtain rfl := Option.some.inj q_d
          exact ⟨false, (.c rfl .n), rfl, rfl⟩
      ·
        have q_d := cond_f q_d hc
        obtain rfl := Option.some.inj q_d
        exact ⟨false, (.c rfl .n), rfl, rfl⟩
    ·
      have q_d := cond_f q_d hc
      obtain rfl := Option.some.inj q_d
      exact ⟨false, (.c rfl .n), rfl, rfl⟩
  ·
    rintro x_e _ ⟨hy, rfl⟩
    replace hy := hy.symm
    subst hy
    apply go
    obtain rfl := Option.some.inj h
    exact ⟨rfl, hp.ch⟩

end Go.Proofs.Ytcdboppghnchpaa
