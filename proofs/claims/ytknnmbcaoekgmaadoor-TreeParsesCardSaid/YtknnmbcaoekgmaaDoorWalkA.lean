/-
  Each function of the program computes the plain function of its name.
-/
import Derived.Test.YtknnmbcaoekgmaaDoorFactsA
import Derived.Test.YtknnmbcaoekgmaaDoorCoreA
import Derived.Lib.Builder
import Derived.WalkKit
import Derived.Laws.Externs
namespace Go.Proofs.YtknnmbcaoekgmaaDoor
open Go Go.Proofs.YtknnmbcaoekgmaaDoor.Gw Go.RowKit
set_option linter.unusedVariables false
attribute [local irreducible] Ev EvQ EvS EvH
def tree_size_S (f : Node → Int → Option Int) : Prop := ∀ (w0 : World) (I0 : Nat → Prop) (x6 : Node) (v7 : Value) (r8 : RepS dNode w0 I0 v7 x6.Kids) (x9 : Int) (hI : ∀ g, I0 g → g < w0.heap.size) (r : Int), f x6 x9 = some r →
    Ret Tryd.prog 47 #[(.agg #[(.int .i64 x6.Kind), (.int .i64 x6.Name), (.int .i64 x6.Count), v7]), (.int .i64 x9)] w0 fun v w1 => v = (.int .i64 r) ∧ Ch [] w0 w1
theorem tree_size_F_ok (n : Nat) (self : Node → Int → Option Int) (ih : tree_size_S self) : tree_size_S (tree_size_F n self) := by
  intro w0 I0 x6 v7 r8 x9 hI r h
  unfold tree_size_F at h
  refine enter Tryd.func47 rfl (Nat.le_of_ble_eq_true rfl) ?_
  have hp : Hp ⟨w0, I0, []⟩ I0 [] w0 := Hp.start hI
  apply go
  apply go
  refine ev_boxI hp rfl rfl ?_
  intro p12 I13 w11 hp hs a14
  replace r8 := r8.step hs
  apply go
  apply go
  obtain ⟨y69, q70, h⟩ := bind_some h
  refine W.cut (γ := Int) (fun g => [(5, (.int .i64 (g)))]) (fun g w' => y69 = (g) ∧ Hp ⟨w0, I0, []⟩ I13 [] w') ?_ ?_
  ·
    apply go
    apply go
    refine ev0 (rn_field rfl rfl FO24_3) ?_
    refine ev (rn_load rfl rfl (run_loadVar1 T22 (a14.2 3 _ rfl))) ?_
    refine ev0 (rn_len rfl rfl Tryd.underlying22 r8) ?_
    apply go
    refine W.loop q70 (γ := Unit) (fun s _ => [(1, (.int .i64 x9)), (5, (.int .i64 (s.1))), (9, v7), (10, (.int .i64 (x6.Kids.length : Int))), (11, (.int .i64 (s.2)))]) (fun s _ w' => Hp ⟨w0, I0, []⟩ I13 [] w' ∧ RepS dNode w' I13 v7 x6.Kids) () (.c rfl (.c rfl (.c rfl (.c rfl (.c rfl .n))))) ⟨hp, r8⟩ ?_
    rintro ⟨x85, x86⟩ ⟨⟩ w103 y104 ⟨hp, r8⟩ q105 q106
    unfold tree_size_L1 at q105
    apply go
    apply go
    apply go
    apply go
    refine sel_of (fun hc => ?_) (fun hc => ?_)
    ·
      have q105 := cond_t q105 hc
      apply go
      apply go
      apply go
      apply go
      apply go
      obtain ⟨x107, q108, q105⟩ := bind_some q105
      refine ev_index rfl rfl rfl Tryd.underlying22 T24 r8 q108 ?_
      intro p109 c110 d111 a112
      obtain ⟨v113, rfl, r114⟩ := dNode_o d111
      refine ev (rn_load rfl rfl (run_loadVarA T24 rfl a112)) ?_
      refine ev_alloc hp rfl T24 ?_
      intro g115 w116 hp hs
      replace r8 := r8.step hs
      replace r114 := r114.step hs
      refine ev_storeA hp (i := 0) (off := 0) (vs := [(.int .i64 x107.Kind), (.int .i64 x107.Name), (.int .i64 x107.Count), v113]) rfl rfl rfl rfl T24 rfl (Nat.le_of_ble_eq_true rfl) (ones_cons rfl (ones_cons rfl (ones_cons rfl (ones_cons r114.one ones_nil)))) ?_
      intro w117 hp hs
      replace r8 := r8.step hs
      replace r114 := r114.step hs
      apply go
      apply go
      apply go
      apply go
      refine sel_of (fun hc => ?_) (fun hc => ?_)
      ·
        have q105 := cond_t q105 hc
        apply go
        have q118 := congrArg some (q106 _ (Option.some.inj q105).symm)
        obtain rfl := Option.some.inj q118
        have hp := hp.sel [] (by decide)
        exact ⟨x85, (.c rfl .n), rfl, hp⟩
      ·
        have q105 := cond_f q105 hc
        apply go
        apply go
        refine ev (rn_load rfl rfl (run_loadVarA T24 rfl (hp.at_ (i := 0) rfl))) ?_
        obtain ⟨x119, q120, q105⟩ := bind_some q105
        refine ev_call rfl rfl C47 ((ih _ _  (Node.mk x107.Kind x107.Name x107.Count x107.Kids) v113 r114 (IntKind.i64.wrap (x9 - x85)) hp.imm _ q120).mono ?_)
        rintro _ w121 ⟨rfl, hc⟩
        have hs := hp.stp hc
        replace hp := hp.ext hc
        replace r8 := r8.step hs
        replace r114 := r114.step hs
        apply go
        have hp := hp.sel [] (by decide)
        exact ⟨_, (Option.some.inj q105).symm, (), (.c rfl (.c rfl (.c rfl (.c rfl (.c rfl .n))))), ⟨hp, r8⟩⟩
    ·
      have q105 := cond_f q105 hc
      apply go
      have q122 := congrArg some (q106 _ (Option.some.inj q105).symm)
      obtain rfl := Option.some.inj q122
      exact ⟨x85, (.c rfl .n), rfl, hp⟩
  ·
    rintro x67 w68 ⟨hy, hp⟩
    replace hy := hy.symm
    subst hy
    apply go
    apply go
    apply go
    obtain rfl := Option.some.inj h
    exact ⟨rfl, hp.ch⟩
theorem tree_size_ok : ∀ n, tree_size_S (tree_size n)
  | 0 => by intro w0 I0 x6 v7 r8 x9 hI r h; cases h
  | n + 1 => tree_size_F_ok n _ (tree_size_ok n)

end Go.Proofs.YtknnmbcaoekgmaaDoor

namespace Go.Proofs.YtknnmbcaoekgmaaDoor
open Go Go.Proofs.YtknnmbcaoekgmaaDoor.Gw Go.RowKit
set_option linter.unusedVariables false
attribute [local irreducible] Ev EvQ EvS EvH
def tree_Size_S (f : Node → Option Int) : Prop := ∀ (w0 : World) (I0 : Nat → Prop) (x123 : Node) (v124 : Value) (r125 : RepS dNode w0 I0 v124 x123.Kids) (hI : ∀ g, I0 g → g < w0.heap.size) (r : Int), f x123 = some r →
    Ret Tryd.prog 31 #[(.agg #[(.int .i64 x123.Kind), (.int .i64 x123.Name), (.int .i64 x123.Count), v124])] w0 fun v w1 => v = (.int .i64 r) ∧ Ch [] w0 w1
theorem tree_Size_ok (n : Nat) : tree_Size_S (tree_Size n) := by
  intro w0 I0 x123 v124 r125 hI r h
  unfold tree_Size at h
  refine enter Tryd.func31 rfl (Nat.le_of_ble_eq_true rfl) ?_
  have hp : Hp ⟨w0, I0, []⟩ I0 [] w0 := Hp.start hI
  apply go
  apply go
  refine ev_boxI hp rfl rfl ?_
  intro p128 I129 w127 hp hs a130
  replace r125 := r125.step hs
  apply go
  apply go
  refine ev (rn_load rfl rfl (run_loadVarA T24 rfl a130)) ?_
  obtain ⟨x131, q132, h⟩ := bind_some h
  refine ev_call rfl rfl C47 (((tree_size_ok n) _ _  (Node.mk x123.Kind x123.Name x123.Count x123.Kids) v124 r125 65 hp.imm _ q132).mono ?_)
  rintro _ w133 ⟨rfl, hc⟩
  have hs := hp.stp hc
  replace hp := hp.ext hc
  apply go
  obtain rfl := Option.some.inj h
  exact ⟨rfl, hp.ch⟩

end Go.Proofs.YtknnmbcaoekgmaaDoor

namespace Go.Proofs.YtknnmbcaoekgmaaDoor
open Go Go.Proofs.YtknnmbcaoekgmaaDoor.Gw Go.RowKit
set_option linter.unusedVariables false
attribute [local irreducible] Ev EvQ EvS EvH
def tree_fits_S (f : Node → Option Bool) : Prop := ∀ (w0 : World) (I0 : Nat → Prop) (x134 : Node) (v135 : Value) (r136 : RepS dNode w0 I0 v135 x134.Kids) (hI : ∀ g, I0 g → g < w0.heap.size) (r : Bool), f x134 = some r →
    Ret Tryd.prog 48 #[(.agg #[(.int .i64 x134.Kind), (.int .i64 x134.Name), (.int .i64 x134.Count), v135])] w0 fun v w1 => v = (.bool r) ∧ Ch [] w0 w1
theorem tree_fits_ok (n : Nat) : tree_fits_S (tree_fits n) := by
  intro w0 I0 x134 v135 r136 hI r h
  unfold tree_fits at h
  refine enter Tryd.func48 rfl (Nat.le_of_ble_eq_true rfl) ?_
  have hp : Hp ⟨w0, I0, []⟩ I0 [] w0 := Hp.start hI
  apply go
  apply go
  refine ev_boxI hp rfl rfl ?_
  intro p139 I140 w138 hp hs a141
  replace r136 := r136.step hs
  apply go
  refine W.quiet (fun w' => Ch [] w138 w') MX (by kernel_rfl) (Ch.drew [] w138) ?_
  refine evq0 (rn_field rfl rfl FO24_1) ?_
  refine evq (fun w' hw => rn_load rfl rfl (run_loadVar1 T3 ((a141.step (hp.stp hw)).2 1 _ rfl))) ?_
  refine evq0 (rn_field rfl rfl FO24_2) ?_
  refine evq (fun w' hw => rn_load rfl rfl (run_loadVar1 T3 ((a141.step (hp.stp hw)).2 2 _ rfl))) ?_
  refine evq0 (rn_field rfl rfl FO24_3) ?_
  refine evq (fun w' hw => rn_load rfl rfl (run_loadVar1 T22 ((a141.step (hp.stp hw)).2 3 _ rfl))) ?_
  refine evq0 (rn_len rfl rfl Tryd.underlying22 r136) ?_
  intro w142 hc
  have hs := hp.stp hc
  replace hp := hp.ext hc
  replace a141 := a141.step hs
  replace r136 := r136.step hs
  apply go
  apply go
  apply go
  refine ev0 (rn_field rfl rfl FO24_0) ?_
  refine ev (rn_load rfl rfl (run_loadVar1 T3 (a141.2 0 _ rfl))) ?_
  apply go
  obtain ⟨y144, q145, h⟩ := bind_some h
  refine W.cut (γ := Bool) (fun g => [(1, (.pointer (some (p139)))), (3, (.bool (x134.Name == 0))), (4, (.bool (x134.Count == 0))), (5, (.int .i64 (x134.Kids.length : Int))), (16, (.int .i64 x134.Kind)), (17, (.bool (g)))]) (fun g w' => y144 = (g) ∧ w142 = w') ?_ ?_
  ·
    apply go
    apply go
    apply go
    refine sel_of (fun hc => ?_) (fun hc => ?_)
    ·
      have q145 := cond_t q145 hc
      apply go
      obtain rfl := Option.some.inj q145
      exact ⟨(x134.Kind == 1), (.c rfl (.c rfl (.c rfl (.c rfl (.c rfl (.c rfl .n)))))), rfl, rfl⟩
    ·
      have q145 := cond_f q145 hc
      apply go
      obtain rfl := Option.some.inj q145
      exact ⟨(x134.Kind == 2), (.c rfl (.c rfl (.c rfl (.c rfl (.c rfl (.c rfl .n)))))), rfl, rfl⟩
  ·
    rintro x143 _ ⟨hy, rfl⟩
    replace hy := hy.symm
    subst hy
    apply go
    refine sel_of (fun hc => ?_) (fun hc => ?_)
    ·
      have h := cond_t h hc
      obtain ⟨y147, q148, h⟩ := bind_some h
      refine W.cut (γ := Bool) (fun g => [(2, (.bool (g)))]) (fun g w' => y147 = (g) ∧ w142 = w') ?_ ?_
      ·
        apply go
        refine ev0 (rn_field rfl rfl FO24_1) ?_
        refine ev (rn_load rfl rfl (run_loadVar1 T3 (a141.2 1 _ rfl))) ?_
        refine sel_of (fun hc => ?_) (fun hc => ?_)
        ·
          have q148 := cond_t q148 hc
          refine ev0 (rn_field rfl rfl FO24_1) ?_
          refine ev (rn_load rfl rfl (run_loadVar1 T3 (a141.2 1 _ rfl))) ?_
          refine sel_of (fun hc => ?_) (fun hc => ?_)
          ·
            have q148 := cond_t q148 hc
            refine sel_of (fun hc => ?_) (fun hc => ?_)
            ·
              have q148 := cond_t q148 hc
              obtain rfl := Option.some.inj q148
              exact ⟨((x134.Kids.length : Int) == 0), (.c rfl .n), rfl, rfl⟩
            ·
              have q148 := cond_f q148 hc
              obtain rfl := Option.some.inj q148
              exact ⟨false, (.c rfl .n), rfl, rfl⟩
          ·
            have q148 := cond_f q148 hc
            obtain rfl := Option.some.inj q148
            exact ⟨false, (.c rfl .n), rfl, rfl⟩
        ·
          have q148 := cond_f q148 hc
          obtain rfl := Option.some.inj q148
          exact ⟨false, (.c rfl .n), rfl, rfl⟩
      ·
        rintro x146 _ ⟨hy, rfl⟩
        replace hy := hy.symm
        subst hy
        apply go
        obtain rfl := Option.some.inj h
        exact ⟨rfl, hp.ch⟩
    ·
      have h := cond_f h hc
      obtain ⟨y150, q151, h⟩ := bind_some h
      refine W.cut (γ := Bool) (fun g => [(1, (.pointer (some (p139)))), (3, (.bool (x134.Name == 0))), (4, (.bool (x134.Count == 0))), (5, (.int .i64 (x134.Kids.length : Int))), (16, (.int .i64 x134.Kind)), (35, (.bool (g)))]) (fun g w' => y150 = (g) ∧ w142 = w') ?_ ?_
      ·
        apply go
        apply go
        apply go
        refine sel_of (fun hc => ?_) (fun hc => ?_)
        ·
          have q151 := cond_t q151 hc
          apply go
          obtain rfl := Option.some.inj q151
          exact ⟨(x134.Kind == 3), (.c rfl (.c rfl (.c rfl (.c rfl (.c rfl (.c rfl .n)))))), rfl, rfl⟩
        ·
          have q151 := cond_f q151 hc
          apply go
          obtain rfl := Option.some.inj q151
          exact ⟨(x134.Kind == 4), (.c rfl (.c rfl (.c rfl (.c rfl (.c rfl (.c rfl .n)))))), rfl, rfl⟩
      ·
        rintro x149 _ ⟨hy, rfl⟩
        replace hy := hy.symm
        subst hy
        apply go
        refine sel_of (fun hc => ?_) (fun hc => ?_)
        ·
          have h := cond_t h hc
          obtain ⟨y153, q154, h⟩ := bind_some h
          refine W.cut (γ := Bool) (fun g => [(2, (.bool (g)))]) (fun g w' => y153 = (g) ∧ w142 = w') ?_ ?_
          ·
            apply go
            refine sel_of (fun hc => ?_) (fun hc => ?_)
            ·
              have q154 := cond_t q154 hc
              obtain rfl := Option.some.inj q154
              exact ⟨(x134.Count == 0), (.c rfl .n), rfl, rfl⟩
            ·
              have q154 := cond_f q154 hc
              obtain rfl := Option.some.inj q154
              exact ⟨false, (.c rfl .n), rfl, rfl⟩
          ·
            rintro x152 _ ⟨hy, rfl⟩
            replace hy := hy.symm
            subst hy
            apply go
            obtain rfl := Option.some.inj h
            exact ⟨rfl, hp.ch⟩
        ·
          have h := cond_f h hc
          apply go
          apply go
          apply go
          refine sel_of (fun hc => ?_) (fun hc => ?_)
          ·
            have h := cond_t h hc
            obtain ⟨y156, q157, h⟩ := bind_some h
            refine W.cut (γ := Bool) (fun g => [(2, (.bool (g)))]) (fun g w' => y156 = (g) ∧ w142 = w') ?_ ?_
            ·
              apply go
              refine sel_of (fun hc => ?_) (fun hc => ?_)
              ·
                have q157 := cond_t q157 hc
                refine ev0 (rn_field rfl rfl FO24_2) ?_
                refine ev (rn_load rfl rfl (run_loadVar1 T3 (a141.2 2 _ rfl))) ?_
                refine sel_of (fun hc => ?_) (fun hc => ?_)
                ·
                  have q157 := cond_t q157 hc
                  refine ev0 (rn_field rfl rfl FO24_2) ?_
                  refine ev (rn_load rfl rfl (run_loadVar1 T3 (a141.2 2 _ rfl))) ?_
                  obtain rfl := Option.some.inj q157
                  exact ⟨(decide (x134.Count ≤ (x134.Kids.length : Int))), (.c rfl .n), rfl, rfl⟩
                ·
                  have q157 := cond_f q157 hc
                  obtain rfl := Option.some.inj q157
                  exact ⟨false, (.c rfl .n), rfl, rfl⟩
              ·
                have q157 := cond_f q157 hc
                obtain rfl := Option.some.inj q157
                exact ⟨false, (.c rfl .n), rfl, rfl⟩
            ·
              rintro x155 _ ⟨hy, rfl⟩
              replace hy := hy.symm
              subst hy
              apply go
              obtain rfl := Option.some.inj h
              exact ⟨rfl, hp.ch⟩
          ·
            have h := cond_f h hc
            apply go
            apply go
            apply go
            refine sel_of (fun hc => ?_) (fun hc => ?_)
            ·
              have h := cond_t h hc
              obtain ⟨y159, q160, h⟩ := bind_some h
              refine W.cut (γ := Bool) (fun g => [(2, (.bool (g)))]) (fun g w' => y159 = (g) ∧ w142 = w') ?_ ?_
              ·
                apply go
                refine sel_of (fun hc => ?_) (fun hc => ?_)
                ·
                  have q160 := cond_t q160 hc
                  refine sel_of (fun hc => ?_) (fun hc => ?_)
                  ·
                    have q160 := cond_t q160 hc
                    obtain rfl := Option.some.inj q160
                    exact ⟨((x134.Kids.length : Int) == 1), (.c rfl .n), rfl, rfl⟩
                  ·
                    have q160 := cond_f q160 hc
                    obtain rfl := Option.some.inj q160
                    exact ⟨false, (.c rfl .n), rfl, rfl⟩
                ·
                  have q160 := cond_f q160 hc
                  obtain rfl := Option.some.inj q160
                  exact ⟨false, (.c rfl .n), rfl, rfl⟩
              ·
                rintro x158 _ ⟨hy, rfl⟩
                replace hy := hy.symm
                subst hy
                apply go
                obtain rfl := Option.some.inj h
                exact ⟨rfl, hp.ch⟩
            ·
              have h := cond_f h hc
              obtain ⟨y162, q163, h⟩ := bind_some h
              refine W.cut (γ := Bool) (fun g => [(1, (.pointer (some (p139)))), (3, (.bool (x134.Name == 0))), (5, (.int .i64 (x134.Kids.length : Int))), (66, (.bool (g)))]) (fun g w' => y162 = (g) ∧ w142 = w') ?_ ?_
              ·
                apply go
                apply go
                apply go
                refine sel_of (fun hc => ?_) (fun hc => ?_)
                ·
                  have q163 := cond_t q163 hc
                  apply go
                  obtain rfl := Option.some.inj q163
                  exact ⟨(x134.Kind == 7), (.c rfl (.c rfl (.c rfl (.c rfl .n)))), rfl, rfl⟩
                ·
                  have q163 := cond_f q163 hc
                  apply go
                  obtain rfl := Option.some.inj q163
                  exact ⟨(x134.Kind == 8), (.c rfl (.c rfl (.c rfl (.c rfl .n)))), rfl, rfl⟩
              ·
                rintro x161 _ ⟨hy, rfl⟩
                replace hy := hy.symm
                subst hy
                apply go
                refine sel_of (fun hc => ?_) (fun hc => ?_)
                ·
                  have h := cond_t h hc
                  obtain ⟨y165, q166, h⟩ := bind_some h
                  refine W.cut (γ := Bool) (fun g => [(2, (.bool (g)))]) (fun g w' => y165 = (g) ∧ w142 = w') ?_ ?_
                  ·
                    apply go
                    refine sel_of (fun hc => ?_) (fun hc => ?_)
                    ·
                      have q166 := cond_t q166 hc
                      refine ev0 (rn_field rfl rfl FO24_2) ?_
                      refine ev (rn_load rfl rfl (run_loadVar1 T3 (a141.2 2 _ rfl))) ?_
                      refine sel_of (fun hc => ?_) (fun hc => ?_)
                      ·
                        have q166 := cond_t q166 hc
                        refine ev0 (rn_field rfl rfl FO24_2) ?_
                        refine ev (rn_load rfl rfl (run_loadVar1 T3 (a141.2 2 _ rfl))) ?_
                        refine sel_of (fun hc => ?_) (fun hc => ?_)
                        ·
                          have q166 := cond_t q166 hc
                          obtain rfl := Option.some.inj q166
                          exact ⟨((x134.Kids.length : Int) == 1), (.c rfl .n), rfl, rfl⟩
                        ·
                          have q166 := cond_f q166 hc
                          obtain rfl := Option.some.inj q166
                          exact ⟨false, (.c rfl .n), rfl, rfl⟩
                      ·
                        have q166 := cond_f q166 hc
                        obtain rfl := Option.some.inj q166
                        exact ⟨false, (.c rfl .n), rfl, rfl⟩
                    ·
                      have q166 := cond_f q166 hc
                      obtain rfl := Option.some.inj q166
                      exact ⟨false, (.c rfl .n), rfl, rfl⟩
                  ·
                    rintro x164 _ ⟨hy, rfl⟩
                    replace hy := hy.symm
                    subst hy
                    apply go
                    obtain rfl := Option.some.inj h
                    exact ⟨rfl, hp.ch⟩
                ·
                  have h := cond_f h hc
                  apply go
                  apply go
                  apply go
                  apply go
                  obtain rfl := Option.some.inj h
                  exact ⟨rfl, hp.ch⟩

end Go.Proofs.YtknnmbcaoekgmaaDoor

namespace Go.Proofs.YtknnmbcaoekgmaaDoor
open Go Go.Proofs.YtknnmbcaoekgmaaDoor.Gw Go.RowKit
set_option linter.unusedVariables false
attribute [local irreducible] Ev EvQ EvS EvH
def tree_valid_S (f : Node → Int → Option Bool) : Prop := ∀ (w0 : World) (I0 : Nat → Prop) (x167 : Node) (v168 : Value) (r169 : RepS dNode w0 I0 v168 x167.Kids) (x170 : Int) (hI : ∀ g, I0 g → g < w0.heap.size) (r : Bool), f x167 x170 = some r →
    Ret Tryd.prog 32 #[(.agg #[(.int .i64 x167.Kind), (.int .i64 x167.Name), (.int .i64 x167.Count), v168]), (.int .i64 x170)] w0 fun v w1 => v = (.bool r) ∧ Ch [] w0 w1
theorem tree_valid_F_ok (n : Nat) (self : Node → Int → Option Bool) (ih : tree_valid_S self) : tree_valid_S (tree_valid_F n self) := by
  intro w0 I0 x167 v168 r169 x170 hI r h
  unfold tree_valid_F at h
  refine enter Tryd.func32 rfl (Nat.le_of_ble_eq_true rfl) ?_
  have hp : Hp ⟨w0, I0, []⟩ I0 [] w0 := Hp.start hI
  apply go
  apply go
  refine ev_boxI hp rfl rfl ?_
  intro p173 I174 w172 hp hs a175
  replace r169 := r169.step hs
  apply go
  obtain ⟨y181, q182, h⟩ := bind_some h
  refine W.cut (γ := Bool) (fun g => [(1, (.int .i64 x170)), (2, (.pointer (some (p173)))), (13, (.bool (g)))]) (fun g w' => y181 = (g) ∧ Hp ⟨w0, I0, []⟩ I174 [] w' ∧ RepS dNode w' I174 v168 x167.Kids ∧ At w' I174 p173 [(.int .i64 x167.Kind), (.int .i64 x167.Name), (.int .i64 x167.Count), v168]) ?_ ?_
  ·
    apply go
    refine sel_of (fun hc => ?_) (fun hc => ?_)
    ·
      have q182 := cond_t q182 hc
      obtain rfl := Option.some.inj q182
      exact ⟨true, (.c rfl (.c rfl (.c rfl .n))), rfl, hp, r169, a175⟩
    ·
      have q182 := cond_f q182 hc
      refine ev (rn_load rfl rfl (run_loadVarA T24 rfl a175)) ?_
      obtain ⟨x183, q184, q182⟩ := bind_some q182
      refine ev_call rfl rfl C48 (((tree_fits_ok n) _ _  (Node.mk x167.Kind x167.Name x167.Count x167.Kids) v168 r169 hp.imm _ q184).mono ?_)
      rintro _ w185 ⟨rfl, hc⟩
      have hs := hp.stp hc
      replace hp := hp.ext hc
      replace a175 := a175.step hs
      replace r169 := r169.step hs
      obtain rfl := Option.some.inj q182
      exact ⟨(!x183), (.c rfl (.c rfl (.c rfl .n))), rfl, hp, r169, a175⟩
  ·
    rintro x179 w180 ⟨hy, hp, r169, a175⟩
    replace hy := hy.symm
    subst hy
    apply go
    refine sel_of (fun hc => ?_) (fun hc => ?_)
    ·
      have h := cond_t h hc
      apply go
      apply go
      apply go
      obtain rfl := Option.some.inj h
      exact ⟨rfl, hp.ch⟩
    ·
      have h := cond_f h hc
      apply go
      obtain ⟨y237, q238, h⟩ := bind_some h
      refine W.cut (γ := Unit) (fun _ => []) (fun _ w' => y237 = .go () ∧ Hp ⟨w0, I0, []⟩ I174 [] w') ?_ ?_
      ·
        apply go
        apply go
        refine ev0 (rn_field rfl rfl FO24_3) ?_
        refine ev (rn_load rfl rfl (run_loadVar1 T22 (a175.2 3 _ rfl))) ?_
        refine ev0 (rn_len rfl rfl Tryd.underlying22 r169) ?_
        apply go
        refine W.loop q238 (γ := Unit) (fun s _ => [(1, (.int .i64 x170)), (15, v168), (16, (.int .i64 (x167.Kids.length : Int))), (17, (.int .i64 (s)))]) (fun s _ w' => Hp ⟨w0, I0, []⟩ I174 [] w' ∧ RepS dNode w' I174 v168 x167.Kids) () (.c rfl (.c rfl (.c rfl (.c rfl .n)))) ⟨hp, r169⟩ ?_
        rintro x253 ⟨⟩ w269 y270 ⟨hp, r169⟩ q271 q272
        unfold tree_valid_L1 at q271
        apply go
        apply go
        apply go
        apply go
        refine sel_of (fun hc => ?_) (fun hc => ?_)
        ·
          have q271 := cond_t q271 hc
          apply go
          apply go
          apply go
          apply go
          apply go
          obtain ⟨x273, q274, q271⟩ := bind_some q271
          refine ev_index rfl rfl rfl Tryd.underlying22 T24 r169 q274 ?_
          intro p275 c276 d277 a278
          obtain ⟨v279, rfl, r280⟩ := dNode_o d277
          refine ev (rn_load rfl rfl (run_loadVarA T24 rfl a278)) ?_
          refine ev_alloc hp rfl T24 ?_
          intro g281 w282 hp hs
          replace r169 := r169.step hs
          replace r280 := r280.step hs
          refine ev_storeA hp (i := 0) (off := 0) (vs := [(.int .i64 x273.Kind), (.int .i64 x273.Name), (.int .i64 x273.Count), v279]) rfl rfl rfl rfl T24 rfl (Nat.le_of_ble_eq_true rfl) (ones_cons rfl (ones_cons rfl (ones_cons rfl (ones_cons r280.one ones_nil)))) ?_
          intro w283 hp hs
          replace r169 := r169.step hs
          replace r280 := r280.step hs
          apply go
          apply go
          refine ev (rn_load rfl rfl (run_loadVarA T24 rfl (hp.at_ (i := 0) rfl))) ?_
          obtain ⟨x284, q285, q271⟩ := bind_some q271
          refine ev_call rfl rfl C32 ((ih _ _  (Node.mk x273.Kind x273.Name x273.Count x273.Kids) v279 r280 (IntKind.i64.wrap (x170 - 1)) hp.imm _ q285).mono ?_)
          rintro _ w286 ⟨rfl, hc⟩
          have hs := hp.stp hc
          replace hp := hp.ext hc
          replace r169 := r169.step hs
          replace r280 := r280.step hs
          apply go
          refine sel_of (fun hc => ?_) (fun hc => ?_)
          ·
            have q271 := cond_t q271 hc
            apply go
            apply go
            apply go
            have q287 := congrArg some (q272 _ (Option.some.inj q271).symm)
            obtain rfl := Option.some.inj q287
            obtain rfl := Option.some.inj h
            exact ⟨rfl, hp.ch⟩
          ·
            have q271 := cond_f q271 hc
            apply go
            apply go
            have hp := hp.sel [] (by decide)
            exact ⟨_, (Option.some.inj q271).symm, (), (.c rfl (.c rfl (.c rfl (.c rfl .n)))), ⟨hp, r169⟩⟩
        ·
          have q271 := cond_f q271 hc
          apply go
          have q288 := congrArg some (q272 _ (Option.some.inj q271).symm)
          obtain rfl := Option.some.inj q288
          exact ⟨(), .n, rfl, hp⟩
      ·
        rintro ⟨⟩ w236 ⟨hy, hp⟩
        replace hy := hy.symm
        subst hy
        apply go
        apply go
        apply go
        obtain rfl := Option.some.inj h
        exact ⟨rfl, hp.ch⟩
theorem tree_valid_ok : ∀ n, tree_valid_S (tree_valid n)
  | 0 => by intro w0 I0 x167 v168 r169 x170 hI r h; cases h
  | n + 1 => tree_valid_F_ok n _ (tree_valid_ok n)

end Go.Proofs.YtknnmbcaoekgmaaDoor

namespace Go.Proofs.YtknnmbcaoekgmaaDoor
open Go Go.Proofs.YtknnmbcaoekgmaaDoor.Gw Go.RowKit
set_option linter.unusedVariables false
attribute [local irreducible] Ev EvQ EvS EvH
def tree_Valid_S (f : Node → Option Bool) : Prop := ∀ (w0 : World) (I0 : Nat → Prop) (x289 : Node) (v290 : Value) (r291 : RepS dNode w0 I0 v290 x289.Kids) (hI : ∀ g, I0 g → g < w0.heap.size) (r : Bool), f x289 = some r →
    Ret Tryd.prog 19 #[(.agg #[(.int .i64 x289.Kind), (.int .i64 x289.Name), (.int .i64 x289.Count), v290])] w0 fun v w1 => v = (.bool r) ∧ Ch [] w0 w1
theorem tree_Valid_ok (n : Nat) : tree_Valid_S (tree_Valid n) := by
  intro w0 I0 x289 v290 r291 hI r h
  unfold tree_Valid at h
  refine enter Tryd.func19 rfl (Nat.le_of_ble_eq_true rfl) ?_
  have hp : Hp ⟨w0, I0, []⟩ I0 [] w0 := Hp.start hI
  apply go
  apply go
  refine ev_boxI hp rfl rfl ?_
  intro p294 I295 w293 hp hs a296
  replace r291 := r291.step hs
  obtain ⟨y305, q306, h⟩ := bind_some h
  refine W.cut (γ := Bool) (fun g => [(2, (.bool (g)))]) (fun g w' => y305 = (g) ∧ Hp ⟨w0, I0, []⟩ I295 [] w') ?_ ?_
  ·
    apply go
    refine ev (rn_load rfl rfl (run_loadVarA T24 rfl a296)) ?_
    obtain ⟨x307, q308, q306⟩ := bind_some q306
    refine ev_call rfl rfl C31 (((tree_Size_ok n) _ _  (Node.mk x289.Kind x289.Name x289.Count x289.Kids) v290 r291 hp.imm _ q308).mono ?_)
    rintro _ w309 ⟨rfl, hc⟩
    have hs := hp.stp hc
    replace hp := hp.ext hc
    replace a296 := a296.step hs
    replace r291 := r291.step hs
    refine sel_of (fun hc => ?_) (fun hc => ?_)
    ·
      have q306 := cond_t q306 hc
      refine ev (rn_load rfl rfl (run_loadVarA T24 rfl a296)) ?_
      obtain ⟨x310, q311, q306⟩ := bind_some q306
      refine ev_call rfl rfl C32 (((tree_valid_ok n) _ _  (Node.mk x289.Kind x289.Name x289.Count x289.Kids) v290 r291 16 hp.imm _ q311).mono ?_)
      rintro _ w312 ⟨rfl, hc⟩
      have hs := hp.stp hc
      replace hp := hp.ext hc
      obtain rfl := Option.some.inj q306
      exact ⟨x310, (.c rfl .n), rfl, hp⟩
    ·
      have q306 := cond_f q306 hc
      obtain rfl := Option.some.inj q306
      exact ⟨false, (.c rfl .n), rfl, hp⟩
  ·
    rintro x303 w304 ⟨hy, hp⟩
    replace hy := hy.symm
    subst hy
    apply go
    obtain rfl := Option.some.inj h
    exact ⟨rfl, hp.ch⟩

end Go.Proofs.YtknnmbcaoekgmaaDoor

namespace Go.Proofs.YtknnmbcaoekgmaaDoor
open Go Go.Proofs.YtknnmbcaoekgmaaDoor.Gw Go.RowKit
set_option linter.unusedVariables false
attribute [local irreducible] Ev EvQ EvS EvH
def tree_Runner_add_S (f : Runner → Node → Option (Int × Runner)) : Prop := ∀ (w0 : World) (I0 : Nat → Prop) (x313 : Runner) (g314 : Nat) (E315 : List Ent) (q316 : qZ w0 I0 g314 E315 x313) (x317 : Node) (v318 : Value) (r319 : RepS dNode w0 I0 v318 x317.Kids) (hp : Hp ⟨w0, I0, blks E315⟩ I0 E315 w0) (r : (Int × Runner)), f x313 x317 = some r →
    Ret Tryd.prog 26 #[(.pointer (some ⟨g314, 0, none⟩)), (.agg #[(.int .i64 x317.Kind), (.int .i64 x317.Name), (.int .i64 x317.Count), v318])] w0 fun v w1 => ∃ (I1 : Nat → Prop) (u320 : List Ent), v = (.int .i64 r.1) ∧ Hp ⟨w0, I0, blks E315⟩ I1 u320 w1 ∧ qN w0.heap.size w1 I1 g314 u320 r.2

/-- Nodes whose lists of kids are own rows. -/
def KidsR (w : World) (I : Nat → Prop) (rs : List Rw) (ks : List Ent) (xs : List Node_2) : Prop :=
  rs.length = xs.length ∧ ks.length = xs.length ∧ ∀ (i : Nat) (r : Rw) (k : Ent) (x : Node_2), rs[i]? = some r → ks[i]? = some k → xs[i]? = some x → r.a = x.kind ∧ r.b = x.name ∧ r.c = x.count ∧ OwnS (dI .i64) 3 w I r.v k x.kids
theorem KidsR.step {w w' : World} {I I' : Nat → Prop} {rs : List Rw} {ks : List Ent} {xs : List Node_2} (h : KidsR w I rs ks xs) (k : Stp I w I' w') : KidsR w' I' rs ks xs :=
  ⟨h.1, h.2.1, fun i r e x h1 h2 h3 => let ⟨a, b, c, o⟩ := h.2.2 i r e x h1 h2 h3; ⟨a, b, c, o.step k⟩⟩
theorem KidsR.snoc {w : World} {I : Nat → Prop} {rs : List Rw} {ks : List Ent} {xs : List Node_2} (h : KidsR w I rs ks xs) (a b c : Int) : KidsR w I (rs ++ [⟨a, b, c, .slice none 0 0⟩]) (ks ++ [none]) (xs ++ [Node_2.mk a b c []]) := by
  obtain ⟨h1, h2, h3⟩ := h
  refine ⟨by simp [h1], by simp [h2], fun i r k x hr hk hx => ?_⟩
  rcases Nat.lt_trichotomy i xs.length with hi | hi | hi
  · rw [List.getElem?_append_left (by omega)] at hr hk hx
    exact h3 i r k x hr hk hx
  · rw [List.getElem?_append_right (by omega)] at hr hk hx
    simp only [h1, h2, hi, Nat.sub_self, List.getElem?_cons_zero, Option.some.injEq] at hr hk hx
    subst hr hk hx
    exact ⟨rfl, rfl, rfl, OwnS.nil _ _ _ _⟩
  · rw [List.getElem?_eq_none (by simp; omega)] at hx; cases hx
theorem KidsR.put {w : World} {I : Nat → Prop} {rs : List Rw} {ks : List Ent} {xs : List Node_2} (h : KidsR w I rs ks xs) {j : Nat} {r : Rw} {x : Node_2} {v : Value} {e : Ent} {l : List Int} (hr : rs[j]? = some r) (hx : xs[j]? = some x) (ho : OwnS (dI .i64) 3 w I v e l) :
    KidsR w I (rs.set j ⟨r.a, r.b, r.c, v⟩) (ks.set j e) (xs.set j (Node_2.mk x.kind x.name x.count l)) := by
  obtain ⟨h1, h2, h3⟩ := h
  have hj := (List.getElem?_eq_some_iff.1 hx).1
  refine ⟨by simp [h1], by simp [h2], fun i r' k' x' hr' hk' hx' => ?_⟩
  rw [List.getElem?_set] at hr' hk' hx'
  split at hr'
  · rename_i e0
    subst e0
    rw [if_pos rfl, if_pos (by omega)] at hk' hx'
    rw [if_pos (by omega)] at hr'
    simp only [Option.some.injEq] at hr' hk' hx'
    subst hr' hk' hx'
    obtain ⟨a, b, c, _⟩ := h3 j r (ks[j]'(by omega)) x hr (List.getElem?_eq_getElem (by omega)) hx
    exact ⟨a, b, c, ho⟩
  · rename_i e0
    rw [if_neg e0] at hk' hx'
    exact h3 i r' k' x' hr' hk' hx'
theorem KidsR.get {w : World} {I : Nat → Prop} {rs : List Rw} {ks : List Ent} {xs : List Node_2} (h : KidsR w I rs ks xs) {i : Int} {x : Node_2} (hx : idx xs i = some x) : ∃ (r : Rw) (e : Ent), idx rs i = some r ∧ rs[i.toNat]? = some r ∧ ks[i.toNat]? = some e ∧ xs[i.toNat]? = some x ∧ OwnS (dI .i64) 3 w I r.v e x.kids := by
  obtain ⟨h0, hl, hg⟩ := idx_some hx
  have h1 := h.1; have h2 := h.2.1
  refine ⟨rs[i.toNat]'(by omega), ks[i.toNat]'(by omega), ?_, List.getElem?_eq_getElem _, List.getElem?_eq_getElem _, hg, (h.2.2 i.toNat _ _ x (List.getElem?_eq_getElem _) (List.getElem?_eq_getElem _) hg).2.2.2⟩
  unfold idx; rw [if_pos h0]; exact List.getElem?_eq_getElem _
theorem PLadd : Places Tryd.prog 68 [(0, 1), (1, 1), (2, 1), (3, 1)] := by unfold Places; kernel_rfl
def add_G (f : List Node_2 → Node → Option (Int × List Node_2)) : Prop := ∀ (w0 : World) (I0 : Nat → Prop) (g : Nat) (v : Value) (e : Ent) (ks : List Ent) (xs : List Node_2) (rs : List Rw) (t : Node) (vt : Value) (_ : RepS dNode w0 I0 vt t.Kids)
    (_ : OwnS dRw 68 w0 I0 v e rs) (_ : KidsR w0 I0 rs ks xs) (_ : Hp ⟨w0, I0, blks (some (g, [v, (.slice none 0 0), (.slice none 0 0)], 60) :: e :: ks)⟩ I0 (some (g, [v, (.slice none 0 0), (.slice none 0 0)], 60) :: e :: ks) w0) (r : Int × List Node_2), f xs t = some r →
    Ret Tryd.prog 26 #[(.pointer (some ⟨g, 0, none⟩)), (.agg #[(.int .i64 t.Kind), (.int .i64 t.Name), (.int .i64 t.Count), vt])] w0 fun u w1 => ∃ (I1 : Nat → Prop) (v' : Value) (e' : Ent) (ks' : List Ent) (rs' : List Rw), u = .int .i64 r.1 ∧
      Hp ⟨w0, I0, blks (some (g, [v, (.slice none 0 0), (.slice none 0 0)], 60) :: e :: ks)⟩ I1 (some (g, [v', (.slice none 0 0), (.slice none 0 0)], 60) :: e' :: ks') w1 ∧ OwnS dRw 68 w1 I1 v' e' rs' ∧ KidsR w1 I1 rs' ks' r.2
set_option maxHeartbeats 1000000 in
theorem addN_F_ok (n : Nat) (self : List Node_2 → Node → Option (Int × List Node_2)) (ih : add_G self) : add_G (addN_F n self) := by
  intro w0 I0 g v e ks xs rs t vt rt on kr hp r h
  unfold addN_F at h
  refine enter Tryd.func26 rfl (Nat.le_of_ble_eq_true rfl) ?_
  generalize blks (some (g, [v, (.slice none 0 0), (.slice none 0 0)], 60) :: e :: ks) = B at hp ⊢
  apply go
  apply go
  refine ev_boxI hp rfl rfl ?_
  intro p I1 w1 hp hs a
  replace rt := rt.step hs
  replace on := on.step hs
  replace kr := kr.step hs
  apply go
  apply go
  refine ev0 (rn_field rfl rfl FO60_0) ?_
  refine ev (rn_load rfl rfl (run_loadVar1 T57 (hp.cell (i := 0) (off := 0) rfl rfl))) ?_
  refine ev0 (show Rn0 _ _ _ (.int .i64 (xs.length : Int)) from by rw [← kr.1]; exact x_lenO rfl rfl Tryd.underlying57 on) ?_
  obtain ⟨xs1, q1, h⟩ := bind_some h
  apply go
  have hs := hp.stp (Ch.drew [] w1)
  have hp := hp.drew
  replace a := a.step hs
  replace rt := rt.step hs
  replace on := on.step hs
  replace kr := kr.step hs
  refine W.heldG (.q 0 (.q 1 (.q 2 (.q 3 (.q 4 (.q 5 (.q 6 (.q 7 (.q 8 (.q 9 (.q 10 (.q 11 (.l 12 (.l 13 (.q 14 (.q 15 (.l 16 .done .no))) .no) .no))))))))))))) (SK (Stp I1 w1.drew I1) [(g, [v, (.slice none 0 0), (.slice none 0 0)], 60)] [[16]]) MX (by kernel_rfl) ⟨Stp.refl _ _, (kp_cons (fun _ => (hp.own 0 _ _ _ rfl).1) kp_nil)⟩ ?_
  have hz := Stp.refl I1 w1.drew
  refine ⟨SK.same (by kernel_rfl), ?_⟩
  refine ⟨SK.same (by kernel_rfl), ?_⟩
  refine ⟨SK.same (by kernel_rfl), ?_⟩
  refine ⟨SK.same (by kernel_rfl), ?_⟩
  refine evh0 (rn_field rfl rfl FO60_0) ?_
  refine ⟨SK.same (by kernel_rfl), ?_⟩
  refine evh (fun w' hw => rn_load rfl rfl (run_loadVar1 T57 ((S0.keep (p := 0) hw rfl rfl (by kernel_rfl)).cell (i := 0) (off := 0) rfl rfl))) ?_
  refine ⟨SK.same (by kernel_rfl), ?_⟩
  refine evh0 (rn_field rfl rfl FO24_0) ?_
  refine ⟨SK.same (by kernel_rfl), ?_⟩
  refine evh (fun w' hw => rn_load rfl rfl (run_loadVar1 T3 ((a.step (S0.si hw)).2 0 _ rfl))) ?_
  refine ⟨SK.same (by kernel_rfl), ?_⟩
  refine evh0 (rn_field rfl rfl FO24_1) ?_
  refine ⟨SK.same (by kernel_rfl), ?_⟩
  refine evh (fun w' hw => rn_load rfl rfl (run_loadVar1 T3 ((a.step (S0.si hw)).2 1 _ rfl))) ?_
  refine ⟨SK.same (by kernel_rfl), ?_⟩
  refine evh0 (rn_field rfl rfl FO24_2) ?_
  refine ⟨SK.same (by kernel_rfl), ?_⟩
  refine evh (fun w' hw => rn_load rfl rfl (run_loadVar1 T3 ((a.step (S0.si hw)).2 2 _ rfl))) ?_
  refine ⟨SK.same (by kernel_rfl), ?_⟩
  refine evh0 (fun w => rn_build (cs := [(.int .i64 t.Kind), (.int .i64 t.Name), (.int .i64 t.Count), (.slice none 0 0)]) rfl rfl T68 PLadd rfl) ?_
  refine ⟨?_, trivial⟩
  refine ev_litN (d := dRw) (xs := [Rw.mk t.Kind t.Name t.Count (.slice none 0 0)]) (cs := [(.int .i64 t.Kind), (.int .i64 t.Name), (.int .i64 t.Count), (.slice none 0 0)]) hp rfl rfl Tryd.underlying57 T68 (by decide) rfl rfl (Elems.cons (d := dRw) (xs := _) (dRw_one rfl) (Elems.nil _ _ _ _)) ?_
  intro v2 I2 w2 hp hs r2
  replace hz := hz.trans hs
  replace a := a.step hs
  replace rt := rt.step hs
  replace on := on.step hs
  replace kr := kr.step hs
  refine ⟨SK (Stp I2 w2 I2) [(g, [v, (.slice none 0 0), (.slice none 0 0)], 60)] [[16]], ⟨Stp.refl _ _, (kp_cons (fun _ => (hp.own 0 _ _ _ rfl).1) kp_nil)⟩, fun L x h => ⟨hz.held h.1, h.2⟩, ?_⟩
  have hz := Stp.refl I2 w2
  have q1' : app rs [Rw.mk t.Kind t.Name t.Count (.slice none 0 0)] = some (rs ++ [Rw.mk t.Kind t.Name t.Count (.slice none 0 0)]) := by
    have := (app_some q1).1
    unfold app
    rw [if_pos (by rw [kr.1]; simpa using this)]
  refine ⟨?_, trivial⟩
  refine ev_append hp (i := 1) rfl rfl rfl rfl Tryd.underlying57 T68 rfl rfl on r2 q1' ?_
  rintro v3 e3 w3 hp hs on3
  obtain rfl := (app_some q1).2
  replace hz := hz.trans hs
  replace a := a.step hs
  replace rt := rt.step hs
  replace kr := (kr.step hs).snoc t.Kind t.Name t.Count
  refine ⟨SK (Stp I2 w3 I2) [(g, [v, (.slice none 0 0), (.slice none 0 0)], 60)] [[16]], ⟨Stp.refl _ _, (kp_cons (fun _ => (hp.own 0 _ _ _ rfl).1) kp_nil)⟩, fun L x h => ⟨hz.held h.1, h.2⟩, ?_⟩
  have hz := Stp.refl I2 w3
  refine ⟨SK.same (by kernel_rfl), ?_⟩
  refine ⟨SK.same (by kernel_rfl), ?_⟩
  refine evh0 (rn_field rfl rfl FO60_0) ?_
  refine ⟨?_, trivial⟩
  refine ev_store1 hp (i := 0) (off := 0) rfl rfl rfl rfl T57 on3.one (Nat.le_of_ble_eq_true rfl) ?_
  intro w4 hp hs
  replace hz := hz.trans hs
  replace a := a.step hs
  replace rt := rt.step hs
  replace on3 := on3.step hs
  replace kr := kr.step hs
  have hp : Hp ⟨w0, I0, B⟩ I2 (some (g, [v3, (.slice none 0 0), (.slice none 0 0)], 60) :: e3 :: (ks ++ [none])) w4 := hp.snoc_none
  refine ⟨SK (Stp I2 w4 I2) [(g, [v, (.slice none 0 0), (.slice none 0 0)], 60)] [[16]], ⟨Stp.refl _ _, (kp_cons (kp_off (by kernel_rfl)) kp_nil)⟩, fun L x h => ⟨hz.held h.1, h.2⟩, ?_⟩
  have hz := Stp.refl I2 w4
  obtain ⟨ns2, q2, h⟩ := bind_some h
  refine W.cut (γ := (List Node_2 × Value × Ent × List Ent × List Rw × (Nat → Prop))) (fun _ => [(5, (.int .i64 (xs.length : Int)))]) (fun s w' => ns2 = s.1 ∧ Hp ⟨w0, I0, B⟩ s.2.2.2.2.2 (some (g, [s.2.1, (.slice none 0 0), (.slice none 0 0)], 60) :: s.2.2.1 :: s.2.2.2.1) w' ∧ OwnS dRw 68 w' s.2.2.2.2.2 s.2.1 s.2.2.1 s.2.2.2.2.1 ∧ KidsR w' s.2.2.2.2.2 s.2.2.2.2.1 s.2.2.2.1 s.1) ?_ ?_
  ·
    apply go
    apply go
    refine ev0 (rn_field rfl rfl FO24_3) ?_
    refine ev (rn_load rfl rfl (run_loadVar1 T22 (a.2 3 _ rfl))) ?_
    refine ev0 (rn_len rfl rfl Tryd.underlying22 rt) ?_
    apply go
    refine W.loop q2 (γ := (Value × Ent × List Ent × List Rw × (Nat → Prop))) (fun s _ => [(0, (.pointer (some ⟨g, 0, none⟩))), (5, (.int .i64 (xs.length : Int))), (31, vt), (32, (.int .i64 (t.Kids.length : Int))), (33, (.int .i64 s.1))])
      (fun s b w' => Hp ⟨w0, I0, B⟩ b.2.2.2.2 (some (g, [b.1, (.slice none 0 0), (.slice none 0 0)], 60) :: b.2.1 :: b.2.2.1) w' ∧ OwnS dRw 68 w' b.2.2.2.2 b.1 b.2.1 b.2.2.2.1 ∧ KidsR w' b.2.2.2.2 b.2.2.2.1 b.2.2.1 s.2 ∧ RepS dNode w' b.2.2.2.2 vt t.Kids)
      (v3, e3, ks ++ [none], rs ++ [Rw.mk t.Kind t.Name t.Count (.slice none 0 0)], I2) (.c rfl (.c rfl (.c rfl (.c rfl (.c rfl .n))))) ⟨hp, on3, kr, rt⟩ ?_
    rintro ⟨i, ns⟩ ⟨v6, e6, ks6, rs6, I6⟩ w6 y ⟨hp, on, kr, rt⟩ q3 q4
    unfold addN_L at q3
    apply go
    apply go
    apply go
    apply go
    refine sel_of (fun hc => ?_) (fun hc => ?_)
    ·
      have q3 := cond_t q3 hc
      apply go
      apply go
      apply go
      apply go
      apply go
      obtain ⟨t1, q5, q3⟩ := bind_some q3
      refine ev_index rfl rfl rfl Tryd.underlying22 T24 rt q5 ?_
      intro p7 c7 d7 a7
      obtain ⟨v7, rfl, r7⟩ := dNode_o d7
      refine ev (rn_load rfl rfl (run_loadVarA T24 rfl a7)) ?_
      refine ev_alloc hp rfl T24 ?_
      intro g8 w8 hp hs
      replace on := on.step hs
      replace kr := kr.step hs
      replace rt := rt.step hs
      replace r7 := r7.step hs
      refine ev_storeA hp (i := 0) (off := 0) (vs := [(.int .i64 t1.Kind), (.int .i64 t1.Name), (.int .i64 t1.Count), v7]) rfl rfl rfl rfl T24 rfl (Nat.le_of_ble_eq_true rfl) (ones_cons rfl (ones_cons rfl (ones_cons rfl (ones_cons r7.one ones_nil)))) ?_
      intro w9 hp hs
      replace on := on.step hs
      replace kr := kr.step hs
      replace rt := rt.step hs
      replace r7 := r7.step hs
      apply go
      apply go
      refine ev (rn_load rfl rfl (run_loadVarA T24 rfl (hp.at_ (i := 0) rfl))) ?_
      have hp := hp.tail
      obtain ⟨⟨j, ns1⟩, q6, q3⟩ := bind_some q3
      refine ev_call rfl rfl C26 ((ih w9 I6 g v6 e6 ks6 ns rs6 t1 v7 r7 on kr hp.lendAll (j, ns1) q6).mono ?_)
      rintro _ w10 ⟨I10, v10, e10, ks10, rs10, hv, hq, on, kr⟩
      replace hv := hv.symm
      subst hv
      have hs := hq.st
      have hp := hp.backAll hq
      replace rt := rt.step hs
      obtain ⟨nd, q7, q3⟩ := bind_some q3
      obtain ⟨r10, ek, q8, q9, q10, q11, ok⟩ := kr.get q7
      obtain ⟨ge, cs, cap, _, he, _⟩ := on.open q8
      rw [he] at hp on
      apply go
      have hs := hp.stp (Ch.drew [] w10)
      have hp := hp.drew
      replace on := on.step hs
      replace kr := kr.step hs
      replace rt := rt.step hs
      replace ok := ok.step hs
      refine W.heldG (.q 0 (.q 1 (.q 2 (.q 3 (.q 4 (.q 5 (.q 6 (.q 7 (.q 8 (.q 9 (.q 10 (.q 11 (.q 12 (.q 13 (.l 14 (.l 15 (.q 16 (.q 17 (.l 18 .done .no))) .no) .no))))))))))))))) (SK (Stp I10 w10.drew I10) [(g, [v10, (.slice none 0 0), (.slice none 0 0)], 60), (ge, cs, 68)] [[], [18]]) MX (by kernel_rfl) ⟨Stp.refl _ _, (kp_cons (fun _ => (hp.own 0 _ _ _ rfl).1) (kp_cons (fun _ => (hp.own 1 _ _ _ rfl).1) kp_nil))⟩ ?_
      have hz := Stp.refl I10 w10.drew
      refine ⟨SK.same (by kernel_rfl), ?_⟩
      refine ⟨SK.same (by kernel_rfl), ?_⟩
      refine ⟨SK.same (by kernel_rfl), ?_⟩
      refine evh0 (rn_field rfl rfl FO60_0) ?_
      refine ⟨SK.same (by kernel_rfl), ?_⟩
      refine evh (fun w' hw => rn_load rfl rfl (run_loadVar1 T57 ((S0.keep (p := 0) hw rfl rfl (by kernel_rfl)).cell (i := 0) (off := 0) rfl rfl))) ?_
      refine ⟨SK.same (by kernel_rfl), ?_⟩
      refine ⟨SK.same (by kernel_rfl), ?_⟩
      refine ⟨SK.same (by kernel_rfl), ?_⟩
      refine ⟨SK.same (by kernel_rfl), ?_⟩
      refine evh0 (rn_field rfl rfl FO60_0) ?_
      refine ⟨SK.same (by kernel_rfl), ?_⟩
      refine evh (fun w' hw => rn_load rfl rfl (run_loadVar1 T57 ((S0.keep (p := 0) hw rfl rfl (by kernel_rfl)).cell (i := 0) (off := 0) rfl rfl))) ?_
      refine ⟨SK.same (by kernel_rfl), ?_⟩
      refine ⟨SK.same (by kernel_rfl), ?_⟩
      refine evh_indexP rfl rfl rfl Tryd.underlying57 T68 on q8 ?_
      intro d10 l10
      refine ⟨SK.same (by kernel_rfl), ?_⟩
      refine evh0 (rn_field rfl rfl FO68_3) ?_
      refine ⟨SK.same (by kernel_rfl), ?_⟩
      refine evh (fun w' hw => rn_load rfl rfl (run_loadVar1 T37 (by rw [add_lit]; exact (S0.keep (p := 1) hw rfl rfl (by kernel_rfl)).cell (i := 0) (off := (xs.length : Int).toNat * 4 + 3) rfl (on.cell3 q8).2.2.2))) ?_
      refine ⟨SK.same (by kernel_rfl), ?_⟩
      refine ⟨?_, trivial⟩
      refine ev_litN (d := dI .i64) (xs := [j]) (cs := [(.int .i64 j)]) hp rfl rfl Tryd.underlying37 T3 (by decide) rfl rfl (Elems.cons (d := dI .i64) (xs := _) rfl (Elems.nil _ _ _ _)) ?_
      intro v11 I11 w11 hp hs r11
      replace hz := hz.trans hs
      replace on := on.step hs
      replace kr := kr.step hs
      replace rt := rt.step hs
      replace ok := ok.step hs
      refine ⟨SK (Stp I11 w11 I11) [(g, [v10, (.slice none 0 0), (.slice none 0 0)], 60), (ge, cs, 68)] [[], [18]], ⟨Stp.refl _ _, (kp_cons (fun _ => (hp.own 0 _ _ _ rfl).1) (kp_cons (fun _ => (hp.own 1 _ _ _ rfl).1) kp_nil))⟩, fun L x h => ⟨hz.held h.1, h.2⟩, ?_⟩
      have hz := Stp.refl I11 w11
      refine ⟨?_, trivial⟩
      obtain ⟨kk, q12, q3⟩ := bind_some q3
      refine ev_append hp (i := (xs.length : Int).toNat + 2) (by simpa using q10) rfl rfl rfl Tryd.underlying37 T3 rfl rfl ok r11 q12 ?_
      rintro v12 e12 w12 hp hs o12
      replace hp : Hp ⟨w0, I0, B⟩ I11 (some (g, [v10, (.slice none 0 0), (.slice none 0 0)], 60) :: some (ge, cs, 68) :: ks10.set (xs.length : Int).toNat e12) w12 := hp
      replace hz := hz.trans hs
      replace on := on.step hs
      replace kr := kr.step hs
      replace rt := rt.step hs
      refine ⟨SK (Stp I11 w12 I11) [(g, [v10, (.slice none 0 0), (.slice none 0 0)], 60), (ge, cs, 68)] [[], [18]], ⟨Stp.refl _ _, (kp_cons (fun _ => (hp.own 0 _ _ _ rfl).1) (kp_cons (fun _ => (hp.own 1 _ _ _ rfl).1) kp_nil))⟩, fun L x h => ⟨hz.held h.1, h.2⟩, ?_⟩
      have hz := Stp.refl I11 w12
      refine ⟨SK.same (by kernel_rfl), ?_⟩
      refine evh_indexP rfl rfl rfl Tryd.underlying57 T68 on q8 ?_
      intro d12 l12
      refine ⟨SK.same (by kernel_rfl), ?_⟩
      refine evh0 (rn_field rfl rfl FO68_3) ?_
      refine ⟨?_, trivial⟩
      refine ev_store1 hp (i := 1) (off := (xs.length : Int).toNat * 4 + 3) rfl rfl rfl rfl T37 o12.one (List.getElem?_eq_some_iff.1 (on.cell3 q8).2.2.2).1 ?_
      intro w13 hp hs
      replace hz := hz.trans hs
      replace on := (on.put3 q8 o12.one).step hs
      replace kr := (kr.put q9 q11 o12).step hs
      replace rt := rt.step hs
      refine ⟨SK (Stp I11 w13 I11) [(g, [v10, (.slice none 0 0), (.slice none 0 0)], 60), (ge, cs, 68)] [[], [18]], ⟨Stp.refl _ _, (kp_cons (fun _ => (hp.own 0 _ _ _ rfl).1) (kp_cons (kp_off (by kernel_rfl)) kp_nil))⟩, fun L x h => ⟨hz.held h.1, h.2⟩, ?_⟩
      have hz := Stp.refl I11 w13
      apply go
      obtain rfl := Option.some.inj q3
      exact ⟨_, rfl, (v10, some (ge, cs.set ((xs.length : Int).toNat * 4 + 3) v12, 68), ks10.set (xs.length : Int).toNat e12, rs10.set (xs.length : Int).toNat ⟨r10.a, r10.b, r10.c, v12⟩, I11), (.c rfl (.c rfl (.c rfl (.c rfl (.c rfl .n))))), ⟨hp, on, kr, rt⟩⟩
    ·
      have q3 := cond_f q3 hc
      apply go
      have q5 := congrArg some (q4 _ (Option.some.inj q3).symm)
      obtain rfl := Option.some.inj q5
      exact ⟨(ns, v6, e6, ks6, rs6, I6), (.c rfl .n), rfl, hp, on, kr⟩
  ·
    rintro ⟨ns3, v5, e5, ks5, rs5, I5⟩ w5 ⟨hy, hp, on, kr⟩
    replace hy := hy.symm
    subst hy
    apply go
    apply go
    apply go
    obtain rfl := Option.some.inj h
    exact ⟨I5, v5, e5, ks5, rs5, rfl, hp, on, kr⟩
theorem addN_ok : ∀ n, add_G (addN n)
  | 0 => by intro w0 I0 g v e ks xs rs t vt _ _ _ _ r h; cases h
  | n + 1 => addN_F_ok n _ (addN_ok n)
theorem KidsR.freeze {c : Cx} {w : World} {I : Nat → Prop} {b : Nat} {bc : List Value} {bt : TypeId} {e : Ent} {ks : List Ent} {rs : List Rw} {xs : List Node_2} {v : Value} (on : OwnS dRw 68 w I v e rs) (kr : KidsR w I rs ks xs) (hp : Hp c I (some (b, bc, bt) :: e :: ks) w) (hB : ∀ g, g ∈ c.B → g = b) :
    ∃ I', Hp c I' [some (b, bc, bt)] w ∧ Stp I w I' w ∧ RepF dNode_2 c.w0.heap.size w I' v xs := by
  refine ⟨_, hp.freezeAll.1, hp.freezeAll.2, ?_⟩
  have hlen := kr.1
  have hN : ∀ (i g : Nat) (cs : List Value) (t : TypeId), (some (b, bc, bt) :: e :: ks)[i + 1]? = some (some (g, cs, t)) → c.w0.heap.size ≤ g := by
    intro i g cs t hi
    rcases (hp.own _ g cs t hi).2.2 with h | h
    · exact h
    · have := hB g h
      subst this
      have := hp.inj (i + 1) 0 g cs bc t bt hi rfl
      omega
  rcases on with ⟨rfl, rfl, hr⟩ | ⟨g, cs, n, rfl, rfl, h3, h4, h5, h7⟩
  · rw [hr] at hlen
    obtain rfl := List.eq_nil_of_length_eq_zero hlen.symm
    exact RepF.nil
  · have hg := hN 0 g cs _ rfl
    refine ⟨some ⟨g, 0, none⟩, n, by rw [hlen], by omega, fun _ => ⟨_, rfl, ⟨.inr (by simp [blks, blk]), hg⟩, fun i x hx => ?_⟩⟩
    have hi := (List.getElem?_eq_some_iff.1 hx).1
    have hk := kr.2.1
    have hr := List.getElem?_eq_getElem (l := rs) (i := i) (by omega)
    have he := List.getElem?_eq_getElem (l := ks) (i := i) (by omega)
    obtain ⟨a, b', c', ok⟩ := kr.2.2 i _ _ x hr he hx
    obtain ⟨hd, _⟩ := h7 i _ hr
    have hR : RepS (dI .i64) w (fun g' => (I g' ∨ g' ∈ blks (some (g, cs, 68) :: ks)) ∧ c.w0.heap.size ≤ g') (rs[i]'(by omega)).v x.kids := by
      have hr0 := ok
      rcases ok with ⟨h1, h2, h3⟩ | ⟨g2, cs2, n2, h1, h2, h3, h4, h5, h8⟩
      · rw [h1, h3]; exact RepS.nil _ _ _
      · refine ⟨some ⟨g2, 0, none⟩, n2, h1, h3, fun _ => ⟨_, rfl, ⟨.inr (mem_blks.2 ⟨i + 1, cs2, _, by simpa [h2] using he⟩), hN (i + 1) g2 cs2 _ (by simpa [h2] using he)⟩, fun j y hy => ⟨_, h8 j y hy, ⟨by rw [add_block]; exact ⟨.inr (mem_blks.2 ⟨i + 1, cs2, _, by simpa [h2] using he⟩), hN (i + 1) g2 cs2 _ (by simpa [h2] using he)⟩, fun k v hv => ?_⟩⟩⟩⟩
        rw [add_lit, add_lit, Nat.zero_add]
        exact hp.cell (i := i + 2) (by simpa [h2] using he) (drop_take_get hv)
    refine ⟨_, dNode_2_m hR, ⟨by rw [add_block]; exact ⟨.inr (by simp [blks, blk]), hg⟩, fun j v hv => ?_⟩⟩
    rw [add_lit, add_lit, Nat.zero_add]
    rw [← a, ← b', ← c'] at hv
    have hd' : (cs.drop (i * dNode_2.size)).take 4 = _ := hd
    exact hp.cell (i := 1) rfl (drop_take_get (n := 4) (by rw [hd']; exact hv))
theorem tree_Runner_add_ok (n : Nat) : tree_Runner_add_S (tree_Runner_add n) := by
  intro w0 I0 x g E q t vt rt hp r h
  obtain ⟨rfl, rfl⟩ := q
  obtain ⟨⟨i, ns⟩, q1, h⟩ := bind_some h
  obtain rfl := Option.some.inj h
  refine (addN_ok n w0 I0 g (.slice none 0 0) none [] [] [] t vt rt (OwnS.nil _ _ _ _) ⟨rfl, rfl, fun i r k x h => by simp at h⟩ (hp.perm [0, 1] (by decide)) (i, ns) q1).mono ?_
  rintro u w1 ⟨I1, v', e', ks', rs', rfl, hq, on, kr⟩
  obtain ⟨I2, h1, h2, h3⟩ := kr.freeze on hq (fun g h => by simpa [blks, blk] using h)
  exact ⟨I2, _, rfl, h1, v', rfl, h3⟩

end Go.Proofs.YtknnmbcaoekgmaaDoor

namespace Go.Proofs.YtknnmbcaoekgmaaDoor
open Go Go.Proofs.YtknnmbcaoekgmaaDoor.Gw Go.RowKit
set_option linter.unusedVariables false
attribute [local irreducible] Ev EvQ EvS EvH vch
def tree_New_S (f : Node → Option ((Option Runner) × Int)) : Prop := ∀ (w0 : World) (I0 : Nat → Prop) (x384 : Node) (v385 : Value) (r386 : RepS dNode w0 I0 v385 x384.Kids) (hI : ∀ g, I0 g → g < w0.heap.size) (r : ((Option Runner) × Int)), f x384 = some r →
    Ret Tryd.prog 13 #[(.agg #[(.int .i64 x384.Kind), (.int .i64 x384.Name), (.int .i64 x384.Count), v385])] w0 fun v w1 => ∃ (I1 : Nat → Prop) (u387 : Value) (u388 : List Ent), v = (.tuple #[u387, (.int .i64 r.2)]) ∧ Hp ⟨w0, I0, []⟩ I1 u388 w1 ∧ qoF w0.heap.size w1 I1 u387 u388 r.1
theorem tree_New_ok (n : Nat) : tree_New_S (tree_New n) := by
  intro w0 I0 x384 v385 r386 hI r h
  unfold tree_New at h
  refine enter Tryd.func13 rfl (Nat.le_of_ble_eq_true rfl) ?_
  have hp : Hp ⟨w0, I0, []⟩ I0 [] w0 := Hp.start hI
  apply go
  apply go
  refine ev_boxI hp rfl rfl ?_
  intro p391 I392 w390 hp hs a393
  replace r386 := r386.step hs
  apply go
  apply go
  apply go
  refine ev (rn_load rfl rfl (run_loadVarA T24 rfl a393)) ?_
  obtain ⟨x394, q395, h⟩ := bind_some h
  refine ev_call rfl rfl C19 (((tree_Valid_ok n) _ _  (Node.mk x384.Kind x384.Name x384.Count x384.Kids) v385 r386 hp.imm _ q395).mono ?_)
  rintro _ w396 ⟨rfl, hc⟩
  have hs := hp.stp hc
  replace hp := hp.ext hc
  replace a393 := a393.step hs
  replace r386 := r386.step hs
  apply go
  refine sel_of (fun hc => ?_) (fun hc => ?_)
  ·
    have h := cond_t h hc
    apply go
    apply go
    apply go
    obtain rfl := Option.some.inj h
    exact ⟨I392, (.pointer none), [], rfl, hp, ⟨rfl, rfl⟩⟩
  ·
    have h := cond_f h hc
    apply go
    apply go
    apply go
    refine ev0 (fun w => rn_build (cs := [(.slice none 0 0), (.slice none 0 0), (.slice none 0 0)]) rfl rfl T60 PL60 rfl) ?_
    refine ev_box hp rfl rfl ?_
    intro g397 w398 hp hs
    replace a393 := a393.step hs
    replace r386 := r386.step hs
    apply go
    apply go
    refine ev (rn_load rfl rfl (run_loadVarA T24 rfl a393)) ?_
    obtain ⟨⟨x399, x400⟩, q401, h⟩ := bind_some h
    have hN406 := hp.ch.size
    refine ev_call rfl rfl C26 (((tree_Runner_add_ok n) _ _  (Runner.mk [] [] []) g397 [some (g397, [(.slice none 0 0), (.slice none 0 0), (.slice none 0 0)], 60)] ⟨rfl, rfl⟩ (Node.mk x384.Kind x384.Name x384.Count x384.Kids) v385 r386 (hp.lendL [0] (by decide)) _ q401).mono ?_)
    rintro _ w402 ⟨I403, F404, hv, hq407, q405⟩
    replace hv := hv.symm
    subst hv
    obtain ⟨v408, rfl, f410⟩ := q405
    have r409 := f410.imm
    have hs := hq407.st
    have hp := hp.backL [0] [] (by decide) hq407
    obtain ⟨y492, q493, h⟩ := bind_some h
    refine W.cut (γ := ((List Int) × (List Bool) × Value × Ent × Value × Ent)) (fun g => [(4, (.pointer (some ⟨g397, 0, none⟩)))]) (fun g w' => y492 = ((g.1), (g.2.1)) ∧ Hp ⟨w0, I0, []⟩ I403 [(g.2.2.2.1), (g.2.2.2.2.2), some (g397, [v408, (g.2.2.1), (g.2.2.2.2.1)], 60)] w' ∧ RepS dNode_2 w' I403 v408 x400.nodes ∧ RepF dNode_2 w398.heap.size w' I403 v408 x400.nodes ∧ OwnS (dI .i64) 3 w' I403 (g.2.2.1) (g.2.2.2.1) (g.1) ∧ OwnS dB 4 w' I403 (g.2.2.2.2.1) (g.2.2.2.2.2) (g.2.1)) ?_ ?_
    ·
      have hs := hp.stp (Ch.drew [] w402)
      have hp := hp.drew
      replace r409 := r409.step hs
      replace f410 := f410.step hs
      refine W.heldG (.q 0 (.q 1 (.q 2 (.q 3 (.q 4 (.q 5 (.q 6 (.q 8 (.q 9 (.q 10 (.q 11 (.q 12 (.l 7 (.q 14 (.q 15 (.l 13 (.l 16 (.q 17 (.q 18 (.l 19 .done .no))) .no) (.l 16 (.l 13 (.q 17 (.q 18 (.l 19 .done .no))) .no) .no)))) (.l 13 (.l 7 (.q 14 (.q 15 (.l 16 (.q 17 (.q 18 (.l 19 .done .no))) .no))) .no) .no)))))))))))))) (SK (Stp I403 w402.drew I403) [(g397, [v408, (.slice none 0 0), (.slice none 0 0)], 60)] [[16, 19]]) MX (by kernel_rfl) ⟨Stp.refl _ _, (kp_cons (fun _ => (hp.own 0 _ _ _ rfl).1) kp_nil)⟩ ?_
      have hz := Stp.refl I403 w402.drew
      refine ⟨SK.same (by kernel_rfl), ?_⟩
      refine ⟨SK.same (by kernel_rfl), ?_⟩
      refine ⟨SK.same (by kernel_rfl), ?_⟩
      refine ⟨SK.same (by kernel_rfl), ?_⟩
      refine ⟨SK.same (by kernel_rfl), ?_⟩
      refine evh0 (rn_field rfl rfl FO60_0) ?_
      refine ⟨SK.same (by kernel_rfl), ?_⟩
      refine evh (fun w' hw => rn_load rfl rfl (run_loadVar1 T57 ((S0.keep (p := 0) hw rfl rfl (by kernel_rfl)).cell (i := 0) (off := 0) rfl rfl))) ?_
      refine ⟨SK.same (by kernel_rfl), ?_⟩
      refine evh0 (rn_len rfl rfl Tryd.underlying57 r409) ?_
      refine ⟨SK.same (by kernel_rfl), ?_⟩
      refine ⟨SK.same (by kernel_rfl), ?_⟩
      refine ⟨SK.same (by kernel_rfl), ?_⟩
      refine evh0 (rn_field rfl rfl FO60_0) ?_
      refine ⟨SK.same (by kernel_rfl), ?_⟩
      refine evh (fun w' hw => rn_load rfl rfl (run_loadVar1 T57 ((S0.keep (p := 0) hw rfl rfl (by kernel_rfl)).cell (i := 0) (off := 0) rfl rfl))) ?_
      refine ⟨SK.same (by kernel_rfl), ?_⟩
      refine evh0 (rn_len rfl rfl Tryd.underlying57 r409) ?_
      refine ⟨?_, ?_⟩
      ·
        obtain ⟨x530, q531, q493⟩ := bind_some q493
        refine ev_make (d := (dI .i64)) (x0 := 0) hp rfl rfl rfl Tryd.underlying37 T3 (fun _ _ => rfl) (Nat.le_of_ble_eq_true rfl) q531 ?_
        intro v532 e533 w534 hp hs o535
        replace hz := hz.trans hs
        replace r409 := r409.step hs
        replace f410 := f410.step hs
        refine ⟨SK (Stp I403 w534 I403) [(g397, [v408, (.slice none 0 0), (.slice none 0 0)], 60)] [[16, 19]], ⟨Stp.refl _ _, (kp_cons (fun _ => (hp.own 1 _ _ _ rfl).1) kp_nil)⟩, fun L x h => ⟨hz.held h.1, h.2⟩, ?_⟩
        have hz := Stp.refl I403 w534
        refine ⟨SK.same (by kernel_rfl), ?_⟩
        refine ⟨SK.same (by kernel_rfl), ?_⟩
        refine evh0 (rn_field rfl rfl FO60_1) ?_
        refine ⟨?_, ?_⟩
        ·
          obtain ⟨x536, q537, q493⟩ := bind_some q493
          refine ev_make (d := dB) (x0 := false) hp rfl rfl rfl Tryd.underlying58 T4 (fun _ _ => rfl) (Nat.le_of_ble_eq_true rfl) q537 ?_
          intro v538 e539 w540 hp hs o541
          replace hz := hz.trans hs
          replace o535 := o535.step hs
          replace r409 := r409.step hs
          replace f410 := f410.step hs
          refine ⟨SK (Stp I403 w540 I403) [(g397, [v408, (.slice none 0 0), (.slice none 0 0)], 60)] [[16, 19]], ⟨Stp.refl _ _, (kp_cons (fun _ => (hp.own 2 _ _ _ rfl).1) kp_nil)⟩, fun L x h => ⟨hz.held h.1, h.2⟩, ?_⟩
          have hz := Stp.refl I403 w540
          refine ⟨?_, trivial⟩
          refine ev_store1 hp (i := 2) (off := 1) rfl rfl rfl rfl T37 o535.one (Nat.le_of_ble_eq_true rfl) ?_
          intro w542 hp hs
          replace hz := hz.trans hs
          replace o541 := o541.step hs
          replace r409 := r409.step hs
          replace f410 := f410.step hs
          replace o535 := o535.step hs
          refine ⟨SK (Stp I403 w542 I403) [(g397, [v408, (.slice none 0 0), (.slice none 0 0)], 60)] [[16, 19]], ⟨Stp.refl _ _, (kp_cons (kp_off (by kernel_rfl)) kp_nil)⟩, fun L x h => ⟨hz.held h.1, h.2⟩, ?_⟩
          have hz := Stp.refl I403 w542
          refine ⟨SK.same (by kernel_rfl), ?_⟩
          refine ⟨SK.same (by kernel_rfl), ?_⟩
          refine evh0 (rn_field rfl rfl FO60_2) ?_
          refine ⟨?_, trivial⟩
          refine ev_store1 hp (i := 2) (off := 2) rfl rfl rfl rfl T58 o541.one (Nat.le_of_ble_eq_true rfl) ?_
          intro w543 hp hs
          replace hz := hz.trans hs
          replace r409 := r409.step hs
          replace f410 := f410.step hs
          replace o535 := o535.step hs
          replace o541 := o541.step hs
          refine ⟨SK (Stp I403 w543 I403) [(g397, [v408, (.slice none 0 0), (.slice none 0 0)], 60)] [[16, 19]], ⟨Stp.refl _ _, (kp_cons (kp_off (by kernel_rfl)) kp_nil)⟩, fun L x h => ⟨hz.held h.1, h.2⟩, ?_⟩
          have hz := Stp.refl I403 w543
          obtain rfl := Option.some.inj q493
          have hp := hp.perm [1, 0, 2] (by decide)
          exact ⟨(x530, x536, v532, e533, v538, e539), (.c rfl .n), rfl, hp, r409, f410, o535, o541⟩
        refine ⟨?_, trivial⟩
        refine ev_store1 hp (i := 1) (off := 1) rfl rfl rfl rfl T37 o535.one (Nat.le_of_ble_eq_true rfl) ?_
        intro w544 hp hs
        replace hz := hz.trans hs
        replace r409 := r409.step hs
        replace f410 := f410.step hs
        replace o535 := o535.step hs
        refine ⟨SK (Stp I403 w544 I403) [(g397, [v408, (.slice none 0 0), (.slice none 0 0)], 60)] [[16, 19]], ⟨Stp.refl _ _, (kp_cons (kp_off (by kernel_rfl)) kp_nil)⟩, fun L x h => ⟨hz.held h.1, h.2⟩, ?_⟩
        have hz := Stp.refl I403 w544
        refine ⟨?_, trivial⟩
        obtain ⟨x545, q546, q493⟩ := bind_some q493
        refine ev_make (d := dB) (x0 := false) hp rfl rfl rfl Tryd.underlying58 T4 (fun _ _ => rfl) (Nat.le_of_ble_eq_true rfl) q546 ?_
        intro v547 e548 w549 hp hs o550
        replace hz := hz.trans hs
        replace r409 := r409.step hs
        replace f410 := f410.step hs
        replace o535 := o535.step hs
        refine ⟨SK (Stp I403 w549 I403) [(g397, [v408, (.slice none 0 0), (.slice none 0 0)], 60)] [[16, 19]], ⟨Stp.refl _ _, (kp_cons (kp_off (by kernel_rfl)) kp_nil)⟩, fun L x h => ⟨hz.held h.1, h.2⟩, ?_⟩
        have hz := Stp.refl I403 w549
        refine ⟨SK.same (by kernel_rfl), ?_⟩
        refine ⟨SK.same (by kernel_rfl), ?_⟩
        refine evh0 (rn_field rfl rfl FO60_2) ?_
        refine ⟨?_, trivial⟩
        refine ev_store1 hp (i := 2) (off := 2) rfl rfl rfl rfl T58 o550.one (Nat.le_of_ble_eq_true rfl) ?_
        intro w551 hp hs
        replace hz := hz.trans hs
        replace r409 := r409.step hs
        replace f410 := f410.step hs
        replace o535 := o535.step hs
        replace o550 := o550.step hs
        refine ⟨SK (Stp I403 w551 I403) [(g397, [v408, (.slice none 0 0), (.slice none 0 0)], 60)] [[16, 19]], ⟨Stp.refl _ _, (kp_cons (kp_off (by kernel_rfl)) kp_nil)⟩, fun L x h => ⟨hz.held h.1, h.2⟩, ?_⟩
        have hz := Stp.refl I403 w551
        obtain rfl := Option.some.inj q493
        have hp := hp.perm [1, 0, 2] (by decide)
        exact ⟨(x530, x545, v532, e533, v547, e548), (.c rfl .n), rfl, hp, r409, f410, o535, o550⟩
      refine ⟨?_, trivial⟩
      replace q493 := bind_comm q493
      obtain ⟨x552, q553, q493⟩ := bind_some q493
      refine ev_make (d := dB) (x0 := false) hp rfl rfl rfl Tryd.underlying58 T4 (fun _ _ => rfl) (Nat.le_of_ble_eq_true rfl) q553 ?_
      intro v554 e555 w556 hp hs o557
      replace hz := hz.trans hs
      replace r409 := r409.step hs
      replace f410 := f410.step hs
      refine ⟨SK (Stp I403 w556 I403) [(g397, [v408, (.slice none 0 0), (.slice none 0 0)], 60)] [[16, 19]], ⟨Stp.refl _ _, (kp_cons (fun _ => (hp.own 1 _ _ _ rfl).1) kp_nil)⟩, fun L x h => ⟨hz.held h.1, h.2⟩, ?_⟩
      have hz := Stp.refl I403 w556
      refine ⟨?_, trivial⟩
      obtain ⟨x558, q559, q493⟩ := bind_some q493
      refine ev_make (d := (dI .i64)) (x0 := 0) hp rfl rfl rfl Tryd.underlying37 T3 (fun _ _ => rfl) (Nat.le_of_ble_eq_true rfl) q559 ?_
      intro v560 e561 w562 hp hs o563
      replace hz := hz.trans hs
      replace o557 := o557.step hs
      replace r409 := r409.step hs
      replace f410 := f410.step hs
      refine ⟨SK (Stp I403 w562 I403) [(g397, [v408, (.slice none 0 0), (.slice none 0 0)], 60)] [[16, 19]], ⟨Stp.refl _ _, (kp_cons (fun _ => (hp.own 2 _ _ _ rfl).1) kp_nil)⟩, fun L x h => ⟨hz.held h.1, h.2⟩, ?_⟩
      have hz := Stp.refl I403 w562
      refine ⟨SK.same (by kernel_rfl), ?_⟩
      refine ⟨SK.same (by kernel_rfl), ?_⟩
      refine evh0 (rn_field rfl rfl FO60_1) ?_
      refine ⟨?_, trivial⟩
      refine ev_store1 hp (i := 2) (off := 1) rfl rfl rfl rfl T37 o563.one (Nat.le_of_ble_eq_true rfl) ?_
      intro w564 hp hs
      replace hz := hz.trans hs
      replace o557 := o557.step hs
      replace r409 := r409.step hs
      replace f410 := f410.step hs
      replace o563 := o563.step hs
      refine ⟨SK (Stp I403 w564 I403) [(g397, [v408, (.slice none 0 0), (.slice none 0 0)], 60)] [[16, 19]], ⟨Stp.refl _ _, (kp_cons (kp_off (by kernel_rfl)) kp_nil)⟩, fun L x h => ⟨hz.held h.1, h.2⟩, ?_⟩
      have hz := Stp.refl I403 w564
      refine ⟨SK.same (by kernel_rfl), ?_⟩
      refine ⟨SK.same (by kernel_rfl), ?_⟩
      refine evh0 (rn_field rfl rfl FO60_2) ?_
      refine ⟨?_, trivial⟩
      refine ev_store1 hp (i := 2) (off := 2) rfl rfl rfl rfl T58 o557.one (Nat.le_of_ble_eq_true rfl) ?_
      intro w565 hp hs
      replace hz := hz.trans hs
      replace r409 := r409.step hs
      replace f410 := f410.step hs
      replace o563 := o563.step hs
      replace o557 := o557.step hs
      refine ⟨SK (Stp I403 w565 I403) [(g397, [v408, (.slice none 0 0), (.slice none 0 0)], 60)] [[16, 19]], ⟨Stp.refl _ _, (kp_cons (kp_off (by kernel_rfl)) kp_nil)⟩, fun L x h => ⟨hz.held h.1, h.2⟩, ?_⟩
      have hz := Stp.refl I403 w565
      obtain rfl := Option.some.inj q493
      exact ⟨(x558, x552, v560, e561, v554, e555), (.c rfl .n), rfl, hp, r409, f410, o563, o557⟩
    ·
      rintro ⟨x483, x487, v484, e485, v488, e489⟩ w491 ⟨hy, hp, r409, f410, o486, o490⟩
      replace hy := hy.symm
      subst hy
      apply go
      apply go
      apply go
      obtain rfl := Option.some.inj h
      have hp := hp.perm [2, 0, 1] (by decide)
      exact ⟨I403, (.pointer (some ⟨g397, 0, none⟩)), [some (g397, [v408, v484, v488], 60), e485, e489], rfl, hp, ⟨_, rfl, ⟨v408, v484, e485, v488, e489, rfl, (f410.mono hN406), o486, o490⟩⟩⟩

end Go.Proofs.YtknnmbcaoekgmaaDoor

namespace Go.Proofs.YtknnmbcaoekgmaaDoor
open Go Go.Proofs.YtknnmbcaoekgmaaDoor.Gw Go.RowKit
set_option linter.unusedVariables false
attribute [local irreducible] Ev EvQ EvS EvH
def law41_action_S (f : Int → Option Node) : Prop := ∀ (w0 : World) (I0 : Nat → Prop) (x1 : Int) (hI : ∀ g, I0 g → g < w0.heap.size) (r : Node), f x1 = some r →
    Ret Tryd.prog 14 #[(.int .i64 x1)] w0 fun v w1 => ∃ (I1 : Nat → Prop) (u2 : Value), v = (.agg #[(.int .i64 r.Kind), (.int .i64 r.Name), (.int .i64 r.Count), u2]) ∧ Hp ⟨w0, I0, []⟩ I1 [] w1 ∧ RepS dNode w1 I1 u2 r.Kids
theorem law41_action_ok (n : Nat) : law41_action_S (law41_action n) := by
  intro w0 I0 x1 hI r h
  unfold law41_action at h
  refine enter Tryd.func14 rfl (Nat.le_of_ble_eq_true rfl) ?_
  have hp : Hp ⟨w0, I0, []⟩ I0 [] w0 := Hp.start hI
  apply go
  apply go
  refine ev_alloc hp rfl T24 ?_
  intro g3 w4 hp hs
  apply go
  apply go
  refine ev0 (fun w => rn_build (cs := [(.int .i64 1), (.int .i64 x1), (.int .i64 0), (.slice none 0 0)]) rfl rfl T24 PL24 rfl) ?_
  refine ev_storeA hp (i := 0) (off := 0) (vs := [(.int .i64 1), (.int .i64 x1), (.int .i64 0), (.slice none 0 0)]) rfl rfl rfl rfl T24 rfl (Nat.le_of_ble_eq_true rfl) (ones_of rfl) ?_
  intro w5 hp hs
  apply go
  obtain rfl := Option.some.inj h
  refine ⟨_, run_loadVarA T24 rfl (hp.at_ (i := 0) rfl), ?_⟩
  have hp := hp.sel [] (by decide)
  exact ⟨I0, .slice none 0 0, rfl, hp, RepS.nil _ _ _⟩

end Go.Proofs.YtknnmbcaoekgmaaDoor

namespace Go.Proofs.YtknnmbcaoekgmaaDoor
open Go Go.Proofs.YtknnmbcaoekgmaaDoor.Gw Go.RowKit
set_option linter.unusedVariables false
attribute [local irreducible] Ev EvQ EvS EvH
def tree_Runner_chain_S (f : Runner → (List Int) → Int → Tick → Option (Int × Runner × Tick)) : Prop := ∀ (w0 : World) (I0 : Nat → Prop) (x566 : Runner) (g567 : Nat) (E568 : List Ent) (q569 : qR w0 I0 g567 E568 x566) (x570 : (List Int)) (v571 : Value) (r572 : RepS (dI .i64) w0 I0 v571 x570) (x573 : Int) (x574 : Tick) (g575 : Nat) (E576 : List Ent) (q577 : qK w0 I0 g575 E576 x574) (hp : Hp ⟨w0, I0, blks (E568 ++ E576)⟩ I0 (E568 ++ E576) w0) (r : (Int × Runner × Tick)), f x566 x570 x573 x574 = some r →
    Ret Tryd.prog 44 #[(.pointer (some ⟨g567, 0, none⟩)), v571, (.int .i64 x573), (.pointer (some ⟨g575, 0, none⟩))] w0 fun v w1 => ∃ (I1 : Nat → Prop) (u578 : List Ent) (u579 : List Ent), v = (.int .i64 r.1) ∧ Hp ⟨w0, I0, blks (E568 ++ E576)⟩ I1 (u578 ++ u579) w1 ∧ qR w1 I1 g567 u578 r.2.1 ∧ qK w1 I1 g575 u579 r.2.2
theorem tree_Runner_chain_ok (n : Nat) (f_tree_Runner_run : (Runner → Int → Tick → Option (Int × Runner × Tick))) (Hf_tree_Runner_run : tree_Runner_run_S f_tree_Runner_run) : tree_Runner_chain_S (tree_Runner_chain n f_tree_Runner_run) := by
  intro w0 I0 x566 g567 E568 q569 x570 v571 r572 x573 x574 g575 E576 q577 hp r h
  unfold tree_Runner_chain at h
  refine enter Tryd.func44 rfl (Nat.le_of_ble_eq_true rfl) ?_
  generalize blks (E568 ++ E576) = B at hp ⊢
  obtain ⟨v580, v582, e583, v585, e586, rfl, r581, o584, o587⟩ := q569
  obtain ⟨v588, v590, v592, e593, v595, e596, rfl, r589, r591, o594, o597⟩ := q577
  have hp : Hp ⟨w0, I0, B⟩ I0 [some (g567, [v580, v582, v585], 60), e583, e586, some (g575, [v588, v590, v592, v595], 63), e593, e596] w0 := hp
  apply go
  apply go
  obtain ⟨y790, q791, h⟩ := bind_some h
  refine W.cut (γ := ((List Node_2) × (List Int) × (List Bool) × (List Int) × (List Bool) × (List Int) × (List Int) × Value × Value × Ent × Value × Ent × Value × Value × Value × Ent × Value × Ent × (Nat → Prop))) (fun g => [(2, (.int .i64 x573))]) (fun g w' => y790 = .go ((g.1), (g.2.1), (g.2.2.1), (g.2.2.2.1), (g.2.2.2.2.1), (g.2.2.2.2.2.1), (g.2.2.2.2.2.2.1)) ∧ Hp ⟨w0, I0, B⟩ (g.2.2.2.2.2.2.2.2.2.2.2.2.2.2.2.2.2.2) [(g.2.2.2.2.2.2.2.2.2.1), (g.2.2.2.2.2.2.2.2.2.2.2.1), some (g567, [(g.2.2.2.2.2.2.2.1), (g.2.2.2.2.2.2.2.2.1), (g.2.2.2.2.2.2.2.2.2.2.1)], 60), (g.2.2.2.2.2.2.2.2.2.2.2.2.2.2.2.1), (g.2.2.2.2.2.2.2.2.2.2.2.2.2.2.2.2.2.1), some (g575, [(g.2.2.2.2.2.2.2.2.2.2.2.2.1), (g.2.2.2.2.2.2.2.2.2.2.2.2.2.1), (g.2.2.2.2.2.2.2.2.2.2.2.2.2.2.1), (g.2.2.2.2.2.2.2.2.2.2.2.2.2.2.2.2.1)], 63)] w' ∧ RepS dNode_2 w' (g.2.2.2.2.2.2.2.2.2.2.2.2.2.2.2.2.2.2) (g.2.2.2.2.2.2.2.1) (g.1) ∧ OwnS (dI .i64) 3 w' (g.2.2.2.2.2.2.2.2.2.2.2.2.2.2.2.2.2.2) (g.2.2.2.2.2.2.2.2.1) (g.2.2.2.2.2.2.2.2.2.1) (g.2.1) ∧ OwnS dB 4 w' (g.2.2.2.2.2.2.2.2.2.2.2.2.2.2.2.2.2.2) (g.2.2.2.2.2.2.2.2.2.2.1) (g.2.2.2.2.2.2.2.2.2.2.2.1) (g.2.2.1) ∧ RepS (dI .i64) w' (g.2.2.2.2.2.2.2.2.2.2.2.2.2.2.2.2.2.2) (g.2.2.2.2.2.2.2.2.2.2.2.2.1) (g.2.2.2.1) ∧ RepS dB w' (g.2.2.2.2.2.2.2.2.2.2.2.2.2.2.2.2.2.2) (g.2.2.2.2.2.2.2.2.2.2.2.2.2.1) (g.2.2.2.2.1) ∧ OwnS (dI .i64) 3 w' (g.2.2.2.2.2.2.2.2.2.2.2.2.2.2.2.2.2.2) (g.2.2.2.2.2.2.2.2.2.2.2.2.2.2.1) (g.2.2.2.2.2.2.2.2.2.2.2.2.2.2.2.1) (g.2.2.2.2.2.1) ∧ OwnS (dI .i64) 3 w' (g.2.2.2.2.2.2.2.2.2.2.2.2.2.2.2.2.2.2) (g.2.2.2.2.2.2.2.2.2.2.2.2.2.2.2.2.1) (g.2.2.2.2.2.2.2.2.2.2.2.2.2.2.2.2.2.1) (g.2.2.2.2.2.2.1)) ?_ ?_
  ·
    apply go
    apply go
    refine ev0 (rn_len rfl rfl Tryd.underlying37 r572) ?_
    apply go
    have hp := hp.perm [1, 2, 0, 4, 5, 3] (by decide)
    refine W.loop q791 (γ := (Value × Value × Ent × Value × Ent × Value × Value × Value × Ent × Value × Ent × (Nat → Prop))) (fun s g => [(0, (.pointer (some ⟨g567, 0, none⟩))), (2, (.int .i64 x573)), (3, (.pointer (some ⟨g575, 0, none⟩))), (12, v571), (13, (.int .i64 (x570.length : Int))), (14, (.int .i64 (s.2.2.2.2.2.2.2)))]) (fun s g w' => Hp ⟨w0, I0, B⟩ (g.2.2.2.2.2.2.2.2.2.2.2) [(g.2.2.1), (g.2.2.2.2.1), some (g567, [(g.1), (g.2.1), (g.2.2.2.1)], 60), (g.2.2.2.2.2.2.2.2.1), (g.2.2.2.2.2.2.2.2.2.2.1), some (g575, [(g.2.2.2.2.2.1), (g.2.2.2.2.2.2.1), (g.2.2.2.2.2.2.2.1), (g.2.2.2.2.2.2.2.2.2.1)], 63)] w' ∧ RepS dNode_2 w' (g.2.2.2.2.2.2.2.2.2.2.2) (g.1) (s.1) ∧ OwnS (dI .i64) 3 w' (g.2.2.2.2.2.2.2.2.2.2.2) (g.2.1) (g.2.2.1) (s.2.1) ∧ OwnS dB 4 w' (g.2.2.2.2.2.2.2.2.2.2.2) (g.2.2.2.1) (g.2.2.2.2.1) (s.2.2.1) ∧ RepS (dI .i64) w' (g.2.2.2.2.2.2.2.2.2.2.2) (g.2.2.2.2.2.1) (s.2.2.2.1) ∧ RepS dB w' (g.2.2.2.2.2.2.2.2.2.2.2) (g.2.2.2.2.2.2.1) (s.2.2.2.2.1) ∧ OwnS (dI .i64) 3 w' (g.2.2.2.2.2.2.2.2.2.2.2) (g.2.2.2.2.2.2.2.1) (g.2.2.2.2.2.2.2.2.1) (s.2.2.2.2.2.1) ∧ OwnS (dI .i64) 3 w' (g.2.2.2.2.2.2.2.2.2.2.2) (g.2.2.2.2.2.2.2.2.2.1) (g.2.2.2.2.2.2.2.2.2.2.1) (s.2.2.2.2.2.2.1) ∧ RepS (dI .i64) w' (g.2.2.2.2.2.2.2.2.2.2.2) v571 x570) (v580, v582, e583, v585, e586, v588, v590, v592, e593, v595, e596, I0) (.c rfl (.c rfl (.c rfl (.c rfl (.c rfl (.c rfl .n)))))) ⟨hp, r581, o584, o587, r589, r591, o594, o597, r572⟩ ?_
    rintro ⟨x827, x830, x834, x838, x841, x844, x848, x852⟩ ⟨v828, v831, e832, v835, e836, v839, v842, v845, e846, v849, e850, I853⟩ w916 y917 ⟨hp, r829, o833, o837, r840, r843, o847, o851, r572⟩ q918 q919
    unfold tree_Runner_chain_L1 at q918
    apply go
    apply go
    apply go
    apply go
    refine sel_of (fun hc => ?_) (fun hc => ?_)
    ·
      have q918 := cond_t q918 hc
      apply go
      apply go
      apply go
      apply go
      apply go
      obtain ⟨x920, q921, q918⟩ := bind_some q918
      refine ev_index rfl rfl rfl Tryd.underlying37 T3 r572 q921 ?_
      intro p922 c923 d924 a925
      obtain rfl : c923 = [(.int .i64 x920)] := d924
      refine ev (rn_load rfl rfl (run_loadVar1 T3 (a925.2 0 _ rfl))) ?_
      apply go
      apply go
      obtain ⟨⟨x926, x927, x928⟩, q929, q918⟩ := bind_some q918
      refine ev_call rfl rfl C27 ((Hf_tree_Runner_run _ _  (Runner.mk x827 x830 x834) g567 [some (g567, [v828, v831, v835], 60), e832, e836] ⟨v828, v831, e832, v835, e836, rfl, r829, o833, o837⟩ x920 (Tick.mk x838 x841 x844 x848) g575 [some (g575, [v839, v842, v845, v849], 63), e846, e850] ⟨v839, v842, v845, e846, v849, e850, rfl, r840, r843, o847, o851⟩ (hp.lendL [2, 0, 1, 5, 3, 4] (by decide)) _ q929).mono ?_)
      rintro _ w930 ⟨I931, F932, F934, hv, hq936, q933, q935⟩
      replace hv := hv.symm
      subst hv
      obtain ⟨v937, v939, e940, v942, e943, rfl, r938, o941, o944⟩ := q933
      obtain ⟨v945, v947, v949, e950, v952, e953, rfl, r946, r948, o951, o954⟩ := q935
      have hs := hq936.st
      have hp := hp.backL [2, 0, 1, 5, 3, 4] [] (by decide) hq936
      replace r572 := r572.step hs
      apply go
      apply go
      apply go
      refine sel_of (fun hc => ?_) (fun hc => ?_)
      ·
        have q918 := cond_t q918 hc
        apply go
        apply go
        apply go
        have q955 := congrArg some (q919 _ (Option.some.inj q918).symm)
        obtain rfl := Option.some.inj q955
        obtain rfl := Option.some.inj h
        exact ⟨I931, [some (g567, [v937, v939, v942], 60), e940, e943], [some (g575, [v945, v947, v949, v952], 63), e950, e953], rfl, hp, ⟨v937, v939, e940, v942, e943, rfl, r938, o941, o944⟩, ⟨v945, v947, v949, e950, v952, e953, rfl, r946, r948, o951, o954⟩⟩
      ·
        have q918 := cond_f q918 hc
        apply go
        apply go
        have hp := hp.perm [1, 2, 0, 4, 5, 3] (by decide)
        exact ⟨_, (Option.some.inj q918).symm, (v937, v939, e940, v942, e943, v945, v947, v949, e950, v952, e953, I931), (.c rfl (.c rfl (.c rfl (.c rfl (.c rfl (.c rfl .n)))))), ⟨hp, r938, o941, o944, r946, r948, o951, o954, r572⟩⟩
    ·
      have q918 := cond_f q918 hc
      apply go
      have q956 := congrArg some (q919 _ (Option.some.inj q918).symm)
      obtain rfl := Option.some.inj q956
      exact ⟨(x827, x830, x834, x838, x841, x844, x848, v828, v831, e832, v835, e836, v839, v842, v845, e846, v849, e850, I853), (.c rfl .n), rfl, hp, r829, o833, o837, r840, r843, o847, o851⟩
  ·
    rintro ⟨x763, x766, x770, x774, x777, x780, x784, v764, v767, e768, v771, e772, v775, v778, v781, e782, v785, e786, I788⟩ w789 ⟨hy, hp, r765, o769, o773, r776, r779, o783, o787⟩
    replace hy := hy.symm
    subst hy
    apply go
    apply go
    apply go
    obtain rfl := Option.some.inj h
    have hp := hp.perm [2, 0, 1, 5, 3, 4] (by decide)
    exact ⟨I788, [some (g567, [v764, v767, v771], 60), e768, e772], [some (g575, [v775, v778, v781, v785], 63), e782, e786], rfl, hp, ⟨v764, v767, e768, v771, e772, rfl, r765, o769, o773⟩, ⟨v775, v778, v781, e782, v785, e786, rfl, r776, r779, o783, o787⟩⟩

end Go.Proofs.YtknnmbcaoekgmaaDoor

namespace Go.Proofs.YtknnmbcaoekgmaaDoor
open Go Go.Proofs.YtknnmbcaoekgmaaDoor.Gw Go.RowKit
set_option linter.unusedVariables false
attribute [local irreducible] Ev EvQ EvS EvH
def tree_Runner_parallel_S (f : Runner → Node_2 → Tick → Option (Int × Runner × Tick)) : Prop := ∀ (w0 : World) (I0 : Nat → Prop) (x957 : Runner) (g958 : Nat) (E959 : List Ent) (q960 : qR w0 I0 g958 E959 x957) (x961 : Node_2) (v962 : Value) (r963 : RepS (dI .i64) w0 I0 v962 x961.kids) (x964 : Tick) (g965 : Nat) (E966 : List Ent) (q967 : qK w0 I0 g965 E966 x964) (hp : Hp ⟨w0, I0, blks (E959 ++ E966)⟩ I0 (E959 ++ E966) w0) (r : (Int × Runner × Tick)), f x957 x961 x964 = some r →
    Ret Tryd.prog 45 #[(.pointer (some ⟨g958, 0, none⟩)), (.agg #[(.int .i64 x961.kind), (.int .i64 x961.name), (.int .i64 x961.count), v962]), (.pointer (some ⟨g965, 0, none⟩))] w0 fun v w1 => ∃ (I1 : Nat → Prop) (u968 : List Ent) (u969 : List Ent), v = (.int .i64 r.1) ∧ Hp ⟨w0, I0, blks (E959 ++ E966)⟩ I1 (u968 ++ u969) w1 ∧ qR w1 I1 g958 u968 r.2.1 ∧ qK w1 I1 g965 u969 r.2.2
theorem tree_Runner_parallel_ok (n : Nat) (f_tree_Runner_run : (Runner → Int → Tick → Option (Int × Runner × Tick))) (Hf_tree_Runner_run : tree_Runner_run_S f_tree_Runner_run) : tree_Runner_parallel_S (tree_Runner_parallel n f_tree_Runner_run) := by
  intro w0 I0 x957 g958 E959 q960 x961 v962 r963 x964 g965 E966 q967 hp r h
  unfold tree_Runner_parallel at h
  refine enter Tryd.func45 rfl (Nat.le_of_ble_eq_true rfl) ?_
  generalize blks (E959 ++ E966) = B at hp ⊢
  obtain ⟨v970, v972, e973, v975, e976, rfl, r971, o974, o977⟩ := q960
  obtain ⟨v978, v980, v982, e983, v985, e986, rfl, r979, r981, o984, o987⟩ := q967
  have hp : Hp ⟨w0, I0, B⟩ I0 [some (g958, [v970, v972, v975], 60), e973, e976, some (g965, [v978, v980, v982, v985], 63), e983, e986] w0 := hp
  apply go
  apply go
  refine ev_boxI hp rfl rfl ?_
  intro p990 I991 w989 hp hs a992
  replace r963 := r963.step hs
  replace r971 := r971.step hs
  replace o974 := o974.step hs
  replace o977 := o977.step hs
  replace r979 := r979.step hs
  replace r981 := r981.step hs
  replace o984 := o984.step hs
  replace o987 := o987.step hs
  apply go
  apply go
  obtain ⟨y_0, q_1, h⟩ := bind_some h
  refine W.cut (γ := (Int × Int × (List Node_2) × (List Int) × (List Bool) × (List Int) × (List Bool) × (List Int) × (List Int) × Value × Value × Ent × Value × Ent × Value × Value × Value × Ent × Value × Ent × (Nat → Prop))) (fun g => [(4, (.pointer (some (p990)))), (7, (.int .i64 (g.1))), (8, (.int .i64 (g.2.1)))]) (fun g w' => y_0 = ((g.1), (g.2.1), (g.2.2.1), (g.2.2.2.1), (g.2.2.2.2.1), (g.2.2.2.2.2.1), (g.2.2.2.2.2.2.1), (g.2.2.2.2.2.2.2.1), (g.2.2.2.2.2.2.2.2.1)) ∧ Hp ⟨w0, I0, B⟩ (g.2.2.2.2.2.2.2.2.2.2.2.2.2.2.2.2.2.2.2.2) [(g.2.2.2.2.2.2.2.2.2.2.2.1), (g.2.2.2.2.2.2.2.2.2.2.2.2.2.1), some (g958, [(g.2.2.2.2.2.2.2.2.2.1), (g.2.2.2.2.2.2.2.2.2.2.1), (g.2.2.2.2.2.2.2.2.2.2.2.2.1)], 60), (g.2.2.2.2.2.2.2.2.2.2.2.2.2.2.2.2.2.1), (g.2.2.2.2.2.2.2.2.2.2.2.2.2.2.2.2.2.2.2.1), some (g965, [(g.2.2.2.2.2.2.2.2.2.2.2.2.2.2.1), (g.2.2.2.2.2.2.2.2.2.2.2.2.2.2.2.1), (g.2.2.2.2.2.2.2.2.2.2.2.2.2.2.2.2.1), (g.2.2.2.2.2.2.2.2.2.2.2.2.2.2.2.2.2.2.1)], 63)] w' ∧ RepS (dI .i64) w' (g.2.2.2.2.2.2.2.2.2.2.2.2.2.2.2.2.2.2.2.2) v962 x961.kids ∧ At w' (g.2.2.2.2.2.2.2.2.2.2.2.2.2.2.2.2.2.2.2.2) p990 [(.int .i64 x961.kind), (.int .i64 x961.name), (.int .i64 x961.count), v962] ∧ RepS dNode_2 w' (g.2.2.2.2.2.2.2.2.2.2.2.2.2.2.2.2.2.2.2.2) (g.2.2.2.2.2.2.2.2.2.1) (g.2.2.1) ∧ OwnS (dI .i64) 3 w' (g.2.2.2.2.2.2.2.2.2.2.2.2.2.2.2.2.2.2.2.2) (g.2.2.2.2.2.2.2.2.2.2.1) (g.2.2.2.2.2.2.2.2.2.2.2.1) (g.2.2.2.1) ∧ OwnS dB 4 w' (g.2.2.2.2.2.2.2.2.2.2.2.2.2.2.2.2.2.2.2.2) (g.2.2.2.2.2.2.2.2.2.2.2.2.1) (g.2.2.2.2.2.2.2.2.2.2.2.2.2.1) (g.2.2.2.2.1) ∧ RepS (dI .i64) w' (g.2.2.2.2.2.2.2.2.2.2.2.2.2.2.2.2.2.2.2.2) (g.2.2.2.2.2.2.2.2.2.2.2.2.2.2.1) (g.2.2.2.2.2.1) ∧ RepS dB w' (g.2.2.2.2.2.2.2.2.2.2.2.2.2.2.2.2.2.2.2.2) (g.2.2.2.2.2.2.2.2.2.2.2.2.2.2.2.1) (g.2.2.2.2.2.2.1) ∧ OwnS (dI .i64) 3 w' (g.2.2.2.2.2.2.2.2.2.2.2.2.2.2.2.2.2.2.2.2) (g.2.2.2.2.2.2.2.2.2.2.2.2.2.2.2.2.1) (g.2.2.2.2.2.2.2.2.2.2.2.2.2.2.2.2.2.1) (g.2.2.2.2.2.2.2.1) ∧ OwnS (dI .i64) 3 w' (g.2.2.2.2.2.2.2.2.2.2.2.2.2.2.2.2.2.2.2.2) (g.2.2.2.2.2.2.2.2.2.2.2.2.2.2.2.2.2.2.1) (g.2.2.2.2.2.2.2.2.2.2.2.2.2.2.2.2.2.2.2.1) (g.2.2.2.2.2.2.2.2.1)) ?_ ?_
  ·
    apply go
    apply go
    refine ev0 (rn_field rfl rfl FO68_3) ?_
    refine ev (rn_load rfl rfl (run_loadVar1 T37 (a992.2 3 _ rfl))) ?_
    refine ev0 (rn_len rfl rfl Tryd.underlying37 r963) ?_
    apply go
    have hp := hp.perm [1, 2, 0, 4, 5, 3] (by decide)
    refine W.loop q_1 (γ := (Value × Value × Ent × Value × Ent × Value × Value × Value × Ent × Value × Ent × (Nat → Prop))) (fun s g => [(0, (.pointer (some ⟨g958, 0, none⟩))), (2, (.pointer (some ⟨g965, 0, none⟩))), (4, (.pointer (some (p990)))), (7, (.int .i64 (s.2.2.2.2.2.2.2.1))), (8, (.int .i64 (s.2.2.2.2.2.2.2.2.1))), (12, v962), (13, (.int .i64 (x961.kids.length : Int))), (14, (.int .i64 (s.2.2.2.2.2.2.2.2.2)))]) (fun s g w' => Hp ⟨w0, I0, B⟩ (g.2.2.2.2.2.2.2.2.2.2.2) [(g.2.2.1), (g.2.2.2.2.1), some (g958, [(g.1), (g.2.1), (g.2.2.2.1)], 60), (g.2.2.2.2.2.2.2.2.1), (g.2.2.2.2.2.2.2.2.2.2.1), some (g965, [(g.2.2.2.2.2.1), (g.2.2.2.2.2.2.1), (g.2.2.2.2.2.2.2.1), (g.2.2.2.2.2.2.2.2.2.1)], 63)] w' ∧ RepS dNode_2 w' (g.2.2.2.2.2.2.2.2.2.2.2) (g.1) (s.1) ∧ OwnS (dI .i64) 3 w' (g.2.2.2.2.2.2.2.2.2.2.2) (g.2.1) (g.2.2.1) (s.2.1) ∧ OwnS dB 4 w' (g.2.2.2.2.2.2.2.2.2.2.2) (g.2.2.2.1) (g.2.2.2.2.1) (s.2.2.1) ∧ RepS (dI .i64) w' (g.2.2.2.2.2.2.2.2.2.2.2) (g.2.2.2.2.2.1) (s.2.2.2.1) ∧ RepS dB w' (g.2.2.2.2.2.2.2.2.2.2.2) (g.2.2.2.2.2.2.1) (s.2.2.2.2.1) ∧ OwnS (dI .i64) 3 w' (g.2.2.2.2.2.2.2.2.2.2.2) (g.2.2.2.2.2.2.2.1) (g.2.2.2.2.2.2.2.2.1) (s.2.2.2.2.2.1) ∧ OwnS (dI .i64) 3 w' (g.2.2.2.2.2.2.2.2.2.2.2) (g.2.2.2.2.2.2.2.2.2.1) (g.2.2.2.2.2.2.2.2.2.2.1) (s.2.2.2.2.2.2.1) ∧ RepS (dI .i64) w' (g.2.2.2.2.2.2.2.2.2.2.2) v962 x961.kids ∧ At w' (g.2.2.2.2.2.2.2.2.2.2.2) p990 [(.int .i64 x961.kind), (.int .i64 x961.name), (.int .i64 x961.count), v962]) (v970, v972, e973, v975, e976, v978, v980, v982, e983, v985, e986, I991) (.c rfl (.c rfl (.c rfl (.c rfl (.c rfl (.c rfl (.c rfl (.c rfl .n)))))))) ⟨hp, r971, o974, o977, r979, r981, o984, o987, r963, a992⟩ ?_
    rintro ⟨x_2, x_3, x_4, x_5, x_6, x_7, x_8, x_9, x_a, x_b⟩ ⟨v_c, v_d, e_e, v_f, e_g, v_h, v_i, v_j, e_k, v_l, e_m, I_n⟩ w_o y_p ⟨hp, r_q, o_r, o_s, r_t, r_u, o_v, o_w, r963, a992⟩ q_x q_y
    unfold tree_Runner_parallel_L1 at q_x
    apply go
    apply go
    apply go
    apply go
    refine sel_of (fun hc => ?_) (fun hc => ?_)
    ·
      have q_x := cond_t q_x hc
      apply go
      obtain ⟨y_z, q_10, q_x⟩ := bind_some q_x
      refine W.cut (γ := ((List Node_2) × (List Int) × (List Bool) × (List Int) × (List Bool) × (List Int) × (List Int) × Int × Int × Value × Value × Ent × Value × Ent × Value × Value × Value × Ent × Value × Ent × (Nat → Prop))) (fun g => [(0, (.pointer (some ⟨g958, 0, none⟩))), (2, (.pointer (some ⟨g965, 0, none⟩))), (4, (.pointer (some (p990)))), (7, (.int .i64 (g.2.2.2.2.2.2.2.1))), (8, (.int .i64 (g.2.2.2.2.2.2.2.2.1))), (12, v962), (13, (.int .i64 (x961.kids.length : Int))), (14, (.int .i64 x_b))]) (fun g w' => y_z = ((g.1), (g.2.1), (g.2.2.1), (g.2.2.2.1), (g.2.2.2.2.1), (g.2.2.2.2.2.1), (g.2.2.2.2.2.2.1), (g.2.2.2.2.2.2.2.1), (g.2.2.2.2.2.2.2.2.1)) ∧ Hp ⟨w0, I0, B⟩ (g.2.2.2.2.2.2.2.2.2.2.2.2.2.2.2.2.2.2.2.2) [(g.2.2.2.2.2.2.2.2.2.2.2.1), (g.2.2.2.2.2.2.2.2.2.2.2.2.2.1), some (g958, [(g.2.2.2.2.2.2.2.2.2.1), (g.2.2.2.2.2.2.2.2.2.2.1), (g.2.2.2.2.2.2.2.2.2.2.2.2.1)], 60), (g.2.2.2.2.2.2.2.2.2.2.2.2.2.2.2.2.2.1), (g.2.2.2.2.2.2.2.2.2.2.2.2.2.2.2.2.2.2.2.1), some (g965, [(g.2.2.2.2.2.2.2.2.2.2.2.2.2.2.1), (g.2.2.2.2.2.2.2.2.2.2.2.2.2.2.2.1), (g.2.2.2.2.2.2.2.2.2.2.2.2.2.2.2.2.1), (g.2.2.2.2.2.2.2.2.2.2.2.2.2.2.2.2.2.2.1)], 63)] w' ∧ RepS dNode_2 w' (g.2.2.2.2.2.2.2.2.2.2.2.2.2.2.2.2.2.2.2.2) (g.2.2.2.2.2.2.2.2.2.1) (g.1) ∧ OwnS (dI .i64) 3 w' (g.2.2.2.2.2.2.2.2.2.2.2.2.2.2.2.2.2.2.2.2) (g.2.2.2.2.2.2.2.2.2.2.1) (g.2.2.2.2.2.2.2.2.2.2.2.1) (g.2.1) ∧ OwnS dB 4 w' (g.2.2.2.2.2.2.2.2.2.2.2.2.2.2.2.2.2.2.2.2) (g.2.2.2.2.2.2.2.2.2.2.2.2.1) (g.2.2.2.2.2.2.2.2.2.2.2.2.2.1) (g.2.2.1) ∧ RepS (dI .i64) w' (g.2.2.2.2.2.2.2.2.2.2.2.2.2.2.2.2.2.2.2.2) (g.2.2.2.2.2.2.2.2.2.2.2.2.2.2.1) (g.2.2.2.1) ∧ RepS dB w' (g.2.2.2.2.2.2.2.2.2.2.2.2.2.2.2.2.2.2.2.2) (g.2.2.2.2.2.2.2.2.2.2.2.2.2.2.2.1) (g.2.2.2.2.1) ∧ OwnS (dI .i64) 3 w' (g.2.2.2.2.2.2.2.2.2.2.2.2.2.2.2.2.2.2.2.2) (g.2.2.2.2.2.2.2.2.2.2.2.2.2.2.2.2.1) (g.2.2.2.2.2.2.2.2.2.2.2.2.2.2.2.2.2.1) (g.2.2.2.2.2.1) ∧ OwnS (dI .i64) 3 w' (g.2.2.2.2.2.2.2.2.2.2.2.2.2.2.2.2.2.2.2.2) (g.2.2.2.2.2.2.2.2.2.2.2.2.2.2.2.2.2.2.1) (g.2.2.2.2.2.2.2.2.2.2.2.2.2.2.2.2.2.2.2.1) (g.2.2.2.2.2.2.1) ∧ RepS (dI .i64) w' (g.2.2.2.2.2.2.2.2.2.2.2.2.2.2.2.2.2.2.2.2) v962 x961.kids ∧ At w' (g.2.2.2.2.2.2.2.2.2.2.2.2.2.2.2.2.2.2.2.2) p990 [(.int .i64 x961.kind), (.int .i64 x961.name), (.int .i64 x961.count), v962]) ?_ ?_
      ·
        apply go
        apply go
        apply go
        obtain ⟨x_11, q_12, q_10⟩ := bind_some q_10
        refine ev_index rfl rfl rfl Tryd.underlying37 T3 r963 q_12 ?_
        intro p_13 c_14 d_15 a_16
        obtain rfl : c_14 = [(.int .i64 x_11)] := d_15
        refine ev (rn_load rfl rfl (run_loadVar1 T3 (a_16.2 0 _ rfl))) ?_
        apply go
        apply go
        obtain ⟨⟨x_17, x_18, x_19⟩, q_1a, q_10⟩ := bind_some q_10
        refine ev_call rfl rfl C27 ((Hf_tree_Runner_run _ _  (Runner.mk x_2 x_3 x_4) g958 [some (g958, [v_c, v_d, v_f], 60), e_e, e_g] ⟨v_c, v_d, e_e, v_f, e_g, rfl, r_q, o_r, o_s⟩ x_11 (Tick.mk x_5 x_6 x_7 x_8) g965 [some (g965, [v_h, v_i, v_j, v_l], 63), e_k, e_m] ⟨v_h, v_i, v_j, e_k, v_l, e_m, rfl, r_t, r_u, o_v, o_w⟩ (hp.lendL [2, 0, 1, 5, 3, 4] (by decide)) _ q_1a).mono ?_)
        rintro _ w_1b ⟨I_1c, F_1d, F_1e, hv, hq1736, q_1f, q_1g⟩
        replace hv := hv.symm
        subst hv
        obtain ⟨v_1h, v_1i, e_1j, v_1k, e_1l, rfl, r_1m, o_1n, o_1o⟩ := q_1f
        obtain ⟨v_1p, v_1q, v_1r, e_1s, v_1t, e_1u, rfl, r_1v, r_1w, o_1x, o_1y⟩ := q_1g
        have hs := hq1736.st
        have hp := hp.backL [2, 0, 1, 5, 3, 4] [] (by decide) hq1736
        replace a992 := a992.step hs
        replace r963 := r963.step hs
        apply go
        apply go
        apply go
        apply go
        refine sel_of (fun hc => ?_) (fun hc => ?_)
        ·
          have q_10 := cond_t q_10 hc
          apply go
          obtain rfl := Option.some.inj q_10
          have hp := hp.perm [1, 2, 0, 4, 5, 3] (by decide)
          exact ⟨(x_18.nodes, x_18.counters, x_18.active, x_19.actions, x_19.tests, x_19.status, x_19.ticked, (IntKind.i64.wrap (x_9 + 1)), x_a, v_1h, v_1i, e_1j, v_1k, e_1l, v_1p, v_1q, v_1r, e_1s, v_1t, e_1u, I_1c), (.c rfl (.c rfl (.c rfl (.c rfl (.c rfl (.c rfl (.c rfl (.c rfl .n)))))))), rfl, hp, r_1m, o_1n, o_1o, r_1v, r_1w, o_1x, o_1y, r963, a992⟩
        ·
          have q_10 := cond_f q_10 hc
          apply go
          apply go
          apply go
          refine sel_of (fun hc => ?_) (fun hc => ?_)
          ·
            have q_10 := cond_t q_10 hc
            apply go
            obtain rfl := Option.some.inj q_10
            have hp := hp.perm [1, 2, 0, 4, 5, 3] (by decide)
            exact ⟨(x_18.nodes, x_18.counters, x_18.active, x_19.actions, x_19.tests, x_19.status, x_19.ticked, x_9, (IntKind.i64.wrap (x_a + 1)), v_1h, v_1i, e_1j, v_1k, e_1l, v_1p, v_1q, v_1r, e_1s, v_1t, e_1u, I_1c), (.c rfl (.c rfl (.c rfl (.c rfl (.c rfl (.c rfl (.c rfl (.c rfl .n)))))))), rfl, hp, r_1m, o_1n, o_1o, r_1v, r_1w, o_1x, o_1y, r963, a992⟩
          ·
            have q_10 := cond_f q_10 hc
            apply go
            obtain rfl := Option.some.inj q_10
            have hp := hp.perm [1, 2, 0, 4, 5, 3] (by decide)
            exact ⟨(x_18.nodes, x_18.counters, x_18.active, x_19.actions, x_19.tests, x_19.status, x_19.ticked, x_9, x_a, v_1h, v_1i, e_1j, v_1k, e_1l, v_1p, v_1q, v_1r, e_1s, v_1t, e_1u, I_1c), (.c rfl (.c rfl (.c rfl (.c rfl (.c rfl (.c rfl (.c rfl (.c rfl .n)))))))), rfl, hp, r_1m, o_1n, o_1o, r_1v, r_1w, o_1x, o_1y, r963, a992⟩
      ·
        rintro ⟨x_1z, x_20, x_21, x_22, x_23, x_24, x_25, x_26, x_27, v_28, v_29, e_2a, v_2b, e_2c, v_2d, v_2e, v_2f, e_2g, v_2h, e_2i, I_2j⟩ w_2k ⟨hy, hp, r_2l, o_2m, o_2n, r_2o, r_2p, o_2q, o_2r, r963, a992⟩
        replace hy := hy.symm
        subst hy
        apply go
        exact ⟨_, (Option.some.inj q_x).symm, (v_28, v_29, e_2a, v_2b, e_2c, v_2d, v_2e, v_2f, e_2g, v_2h, e_2i, I_2j), (.c rfl (.c rfl (.c rfl (.c rfl (.c rfl (.c rfl (.c rfl (.c rfl .n)))))))), ⟨hp, r_2l, o_2m, o_2n, r_2o, r_2p, o_2q, o_2r, r963, a992⟩⟩
    ·
      have q_x := cond_f q_x hc
      apply go
      have q_2s := congrArg some (q_y _ (Option.some.inj q_x).symm)
      obtain rfl := Option.some.inj q_2s
      exact ⟨(x_9, x_a, x_2, x_3, x_4, x_5, x_6, x_7, x_8, v_c, v_d, e_e, v_f, e_g, v_h, v_i, v_j, e_k, v_l, e_m, I_n), (.c rfl (.c rfl (.c rfl .n))), rfl, hp, r963, a992, r_q, o_r, o_s, r_t, r_u, o_v, o_w⟩
  ·
    rintro ⟨x_2t, x_2u, x_2v, x_2w, x_2x, x_2y, x_2z, x_30, x_31, v_32, v_33, e_34, v_35, e_36, v_37, v_38, v_39, e_3a, v_3b, e_3c, I_3d⟩ w_3e ⟨hy, hp, r963, a992, r_3f, o_3g, o_3h, r_3i, r_3j, o_3k, o_3l⟩
    replace hy := hy.symm
    subst hy
    apply go
    apply go
    apply go
    apply go
    refine ev0 (rn_field rfl rfl FO68_2) ?_
    refine ev (rn_load rfl rfl (run_loadVar1 T3 (a992.2 2 _ rfl))) ?_
    apply go
    refine sel_of (fun hc => ?_) (fun hc => ?_)
    ·
      have h := cond_t h hc
      apply go
      apply go
      apply go
      obtain rfl := Option.some.inj h
      have hp := hp.perm [2, 0, 1, 5, 3, 4] (by decide)
      exact ⟨I_3d, [some (g958, [v_32, v_33, v_35], 60), e_34, e_36], [some (g965, [v_37, v_38, v_39, v_3b], 63), e_3a, e_3c], rfl, hp, ⟨v_32, v_33, e_34, v_35, e_36, rfl, r_3f, o_3g, o_3h⟩, ⟨v_37, v_38, v_39, e_3a, v_3b, e_3c, rfl, r_3i, r_3j, o_3k, o_3l⟩⟩
    ·
      have h := cond_f h hc
      apply go
      apply go
      refine ev0 (rn_field rfl rfl FO68_3) ?_
      refine ev (rn_load rfl rfl (run_loadVar1 T37 (a992.2 3 _ rfl))) ?_
      refine ev0 (rn_len rfl rfl Tryd.underlying37 r963) ?_
      refine ev0 (rn_field rfl rfl FO68_2) ?_
      refine ev (rn_load rfl rfl (run_loadVar1 T3 (a992.2 2 _ rfl))) ?_
      apply go
      refine sel_of (fun hc => ?_) (fun hc => ?_)
      ·
        have h := cond_t h hc
        apply go
        apply go
        apply go
        obtain rfl := Option.some.inj h
        have hp := hp.perm [2, 0, 1, 5, 3, 4] (by decide)
        exact ⟨I_3d, [some (g958, [v_32, v_33, v_35], 60), e_34, e_36], [some (g965, [v_37, v_38, v_39, v_3b], 63), e_3a, e_3c], rfl, hp, ⟨v_32, v_33, e_34, v_35, e_36, rfl, r_3f, o_3g, o_3h⟩, ⟨v_37, v_38, v_39, e_3a, v_3b, e_3c, rfl, r_3i, r_3j, o_3k, o_3l⟩⟩
      ·
        have h := cond_f h hc
        apply go
        apply go
        apply go
        apply go
        obtain rfl := Option.some.inj h
        have hp := hp.perm [2, 0, 1, 5, 3, 4] (by decide)
        exact ⟨I_3d, [some (g958, [v_32, v_33, v_35], 60), e_34, e_36], [some (g965, [v_37, v_38, v_39, v_3b], 63), e_3a, e_3c], rfl, hp, ⟨v_32, v_33, e_34, v_35, e_36, rfl, r_3f, o_3g, o_3h⟩, ⟨v_37, v_38, v_39, e_3a, v_3b, e_3c, rfl, r_3i, r_3j, o_3k, o_3l⟩⟩

end Go.Proofs.YtknnmbcaoekgmaaDoor

namespace Go.Proofs.YtknnmbcaoekgmaaDoor
open Go Go.Proofs.YtknnmbcaoekgmaaDoor.Gw Go.RowKit
set_option linter.unusedVariables false
attribute [local irreducible] Ev EvQ EvS EvH
def tree_Runner_decorate_S (f : Runner → Int → Tick → Option (Int × Runner × Tick)) : Prop := ∀ (w0 : World) (I0 : Nat → Prop) (x_0 : Runner) (g_1 : Nat) (E_2 : List Ent) (q_3 : qR w0 I0 g_1 E_2 x_0) (x_4 : Int) (x_5 : Tick) (g_6 : Nat) (E_7 : List Ent) (q_8 : qK w0 I0 g_6 E_7 x_5) (hp : Hp ⟨w0, I0, blks (E_2 ++ E_7)⟩ I0 (E_2 ++ E_7) w0) (r : (Int × Runner × Tick)), f x_0 x_4 x_5 = some r →
    Ret Tryd.prog 46 #[(.pointer (some ⟨g_1, 0, none⟩)), (.int .i64 x_4), (.pointer (some ⟨g_6, 0, none⟩))] w0 fun v w1 => ∃ (I1 : Nat → Prop) (u_9 : List Ent) (u_a : List Ent), v = (.int .i64 r.1) ∧ Hp ⟨w0, I0, blks (E_2 ++ E_7)⟩ I1 (u_9 ++ u_a) w1 ∧ qR w1 I1 g_1 u_9 r.2.1 ∧ qK w1 I1 g_6 u_a r.2.2
theorem tree_Runner_decorate_ok (n : Nat) (f_tree_Runner_run : (Runner → Int → Tick → Option (Int × Runner × Tick))) (Hf_tree_Runner_run : tree_Runner_run_S f_tree_Runner_run) : tree_Runner_decorate_S (tree_Runner_decorate n f_tree_Runner_run) := by
  intro w0 I0 x_0 g_1 E_2 q_3 x_4 x_5 g_6 E_7 q_8 hp r h
  unfold tree_Runner_decorate at h
  refine enter Tryd.func46 rfl (Nat.le_of_ble_eq_true rfl) ?_
  generalize blks (E_2 ++ E_7) = B at hp ⊢
  obtain ⟨v_9, v_a, e_b, v_c, e_d, rfl, r_e, o_f, o_g⟩ := q_3
  obtain ⟨v_h, v_i, v_j, e_k, v_l, e_m, rfl, r_n, r_o, o_p, o_q⟩ := q_8
  have hp : Hp ⟨w0, I0, B⟩ I0 [some (g_1, [v_9, v_a, v_c], 60), e_b, e_d, some (g_6, [v_h, v_i, v_j, v_l], 63), e_k, e_m] w0 := hp
  apply go
  apply go
  apply go
  apply go
  refine ev0 (rn_field rfl rfl FO60_0) ?_
  refine ev (rn_load rfl rfl (run_loadVar1 T57 (hp.cell (i := 0) (off := 0) rfl rfl))) ?_
  obtain ⟨x_r, q_s, h⟩ := bind_some h
  refine ev_index rfl rfl rfl Tryd.underlying57 T68 r_e q_s ?_
  intro p_t c_u d_v a_w
  obtain ⟨v_x, rfl, r_y⟩ := dNode_2_o d_v
  refine ev (rn_load rfl rfl (run_loadVarA T68 rfl a_w)) ?_
  refine ev_alloc hp rfl T68 ?_
  intro g_z w_10 hp hs
  replace r_y := r_y.step hs
  replace r_e := r_e.step hs
  replace o_f := o_f.step hs
  replace o_g := o_g.step hs
  replace r_n := r_n.step hs
  replace r_o := r_o.step hs
  replace o_p := o_p.step hs
  replace o_q := o_q.step hs
  refine ev_storeA hp (i := 0) (off := 0) (vs := [(.int .i64 x_r.kind), (.int .i64 x_r.name), (.int .i64 x_r.count), v_x]) rfl rfl rfl rfl T68 rfl (Nat.le_of_ble_eq_true rfl) (ones_cons rfl (ones_cons rfl (ones_cons rfl (ones_cons r_y.one ones_nil)))) ?_
  intro w_11 hp hs
  replace r_y := r_y.step hs
  replace r_e := r_e.step hs
  replace o_f := o_f.step hs
  replace o_g := o_g.step hs
  replace r_n := r_n.step hs
  replace r_o := r_o.step hs
  replace o_p := o_p.step hs
  replace o_q := o_q.step hs
  apply go
  apply go
  refine ev0 (rn_field rfl rfl FO68_3) ?_
  refine ev (rn_load rfl rfl (run_loadVar1 T37 (hp.cell (i := 0) (off := 3) rfl rfl))) ?_
  obtain ⟨x_12, q_13, h⟩ := bind_some h
  refine ev_index rfl rfl rfl Tryd.underlying37 T3 r_y q_13 ?_
  intro p_14 c_15 d_16 a_17
  obtain rfl : c_15 = [(.int .i64 x_12)] := d_16
  refine ev (rn_load rfl rfl (run_loadVar1 T3 (a_17.2 0 _ rfl))) ?_
  obtain ⟨⟨x_18, x_19, x_1a⟩, q_1b, h⟩ := bind_some h
  refine ev_call rfl rfl C27 ((Hf_tree_Runner_run _ _  (Runner.mk x_0.nodes x_0.counters x_0.active) g_1 [some (g_1, [v_9, v_a, v_c], 60), e_b, e_d] ⟨v_9, v_a, e_b, v_c, e_d, rfl, r_e, o_f, o_g⟩ x_12 (Tick.mk x_5.actions x_5.tests x_5.status x_5.ticked) g_6 [some (g_6, [v_h, v_i, v_j, v_l], 63), e_k, e_m] ⟨v_h, v_i, v_j, e_k, v_l, e_m, rfl, r_n, r_o, o_p, o_q⟩ (hp.lendL [1, 2, 3, 4, 5, 6] (by decide)) _ q_1b).mono ?_)
  rintro _ w_1c ⟨I_1d, F_1e, F_1f, hv, hq1812, q_1g, q_1h⟩
  replace hv := hv.symm
  subst hv
  obtain ⟨v_1i, v_1j, e_1k, v_1l, e_1m, rfl, r_1n, o_1o, o_1p⟩ := q_1g
  obtain ⟨v_1q, v_1r, v_1s, e_1t, v_1u, e_1v, rfl, r_1w, r_1x, o_1y, o_1z⟩ := q_1h
  have hs := hq1812.st
  have hp := hp.backL [1, 2, 3, 4, 5, 6] [0] (by decide) hq1812
  replace r_y := r_y.step hs
  obtain ⟨y_20, q_21, h⟩ := bind_some h
  refine W.cut (γ := ((List Int) × Ent)) (fun g => [(8, (.int .i64 x_18))]) (fun g w' => y_20 = .go (g.1) ∧ Hp ⟨w0, I0, B⟩ I_1d [(g.2), e_1m, some (g_1, [v_1i, v_1j, v_1l], 60), e_1t, e_1v, some (g_6, [v_1q, v_1r, v_1s, v_1u], 63)] w' ∧ RepS dNode_2 w' I_1d v_1i x_19.nodes ∧ OwnS (dI .i64) 3 w' I_1d v_1j (g.2) (g.1) ∧ OwnS dB 4 w' I_1d v_1l e_1m x_19.active ∧ RepS (dI .i64) w' I_1d v_1q x_1a.actions ∧ RepS dB w' I_1d v_1r x_1a.tests ∧ OwnS (dI .i64) 3 w' I_1d v_1s e_1t x_1a.status ∧ OwnS (dI .i64) 3 w' I_1d v_1u e_1v x_1a.ticked) ?_ ?_
  ·
    apply go
    obtain ⟨y_22, q_23, q_21⟩ := bind_some q_21
    refine W.cut (γ := Bool) (fun g => [(0, (.pointer (some ⟨g_1, 0, none⟩))), (1, (.int .i64 x_4)), (7, (.pointer (some ⟨g_z, 0, none⟩))), (8, (.int .i64 x_18)), (23, (.bool (g)))]) (fun g w' => y_22 = (g) ∧ w_1c = w') ?_ ?_
    ·
      apply go
      refine ev0 (rn_field rfl rfl FO68_0) ?_
      refine ev (rn_load rfl rfl (run_loadVar1 T3 (hp.cell (i := 6) (off := 0) rfl rfl))) ?_
      refine sel_of (fun hc => ?_) (fun hc => ?_)
      ·
        have q_23 := cond_t q_23 hc
        obtain rfl := Option.some.inj q_23
        exact ⟨(x_18 != 1), (.c rfl (.c rfl (.c rfl (.c rfl (.c rfl .n))))), rfl, rfl⟩
      ·
        have q_23 := cond_f q_23 hc
        obtain rfl := Option.some.inj q_23
        exact ⟨false, (.c rfl (.c rfl (.c rfl (.c rfl (.c rfl .n))))), rfl, rfl⟩
    ·
      rintro x_24 _ ⟨hy, rfl⟩
      replace hy := hy.symm
      subst hy
      apply go
      refine sel_of (fun hc => ?_) (fun hc => ?_)
      ·
        have q_21 := cond_t q_21 hc
        apply go
        apply go
        apply go
        obtain rfl := Option.some.inj q_21
        obtain rfl := Option.some.inj h
        have hp := hp.sel [0, 1, 2, 3, 4, 5] (by decide)
        exact ⟨I_1d, [some (g_1, [v_1i, v_1j, v_1l], 60), e_1k, e_1m], [some (g_6, [v_1q, v_1r, v_1s, v_1u], 63), e_1t, e_1v], rfl, hp, ⟨v_1i, v_1j, e_1k, v_1l, e_1m, rfl, r_1n, o_1o, o_1p⟩, ⟨v_1q, v_1r, v_1s, e_1t, v_1u, e_1v, rfl, r_1w, r_1x, o_1y, o_1z⟩⟩
      ·
        have q_21 := cond_f q_21 hc
        obtain ⟨y_25, q_26, q_21⟩ := bind_some q_21
        refine W.cut (γ := Bool) (fun g => [(0, (.pointer (some ⟨g_1, 0, none⟩))), (1, (.int .i64 x_4)), (7, (.pointer (some ⟨g_z, 0, none⟩))), (8, (.int .i64 x_18)), (33, (.bool (g)))]) (fun g w' => y_25 = (g) ∧ w_1c = w') ?_ ?_
        ·
          apply go
          refine ev0 (rn_field rfl rfl FO68_0) ?_
          refine ev (rn_load rfl rfl (run_loadVar1 T3 (hp.cell (i := 6) (off := 0) rfl rfl))) ?_
          refine sel_of (fun hc => ?_) (fun hc => ?_)
          ·
            have q_26 := cond_t q_26 hc
            obtain rfl := Option.some.inj q_26
            exact ⟨(x_18 == 3), (.c rfl (.c rfl (.c rfl (.c rfl (.c rfl .n))))), rfl, rfl⟩
          ·
            have q_26 := cond_f q_26 hc
            obtain rfl := Option.some.inj q_26
            exact ⟨false, (.c rfl (.c rfl (.c rfl (.c rfl (.c rfl .n))))), rfl, rfl⟩
        ·
          rintro x_27 _ ⟨hy, rfl⟩
          replace hy := hy.symm
          subst hy
          apply go
          refine sel_of (fun hc => ?_) (fun hc => ?_)
          ·
            have q_21 := cond_t q_21 hc
            apply go
            apply go
            refine ev0 (rn_field rfl rfl FO60_1) ?_
            refine ev (rn_load rfl rfl (run_loadVar1 T37 (hp.cell (i := 0) (off := 1) rfl rfl))) ?_
            obtain ⟨x_28, q_29, q_21⟩ := bind_some q_21
            refine ev_indexO rfl rfl rfl Tryd.underlying37 T3 o_1o q_29 ?_
            intro g_2a c_2b h_2c d_2d l_2e
            refine ev (rn_load rfl rfl (run_loadVar1 T3 (hp.cellE (i := 1) rfl h_2c d_2d (j := 0) rfl))) ?_
            obtain ⟨x_2f, q_2g, q_21⟩ := bind_some q_21
            refine ev_indexO rfl rfl rfl Tryd.underlying37 T3 o_1o q_2g ?_
            intro g_2h c_2i h_2j d_2k l_2l
            refine ev_storeE hp (i := 1) rfl h_2j rfl rfl rfl T3 o_1o q_2g (x0 := (IntKind.i64.wrap (x_28 + 1))) rfl ?_
            intro e_2m w_2n hp hs o_2o
            replace r_1n := r_1n.step hs
            replace o_1p := o_1p.step hs
            replace r_1w := r_1w.step hs
            replace r_1x := r_1x.step hs
            replace o_1y := o_1y.step hs
            replace o_1z := o_1z.step hs
            replace r_y := r_y.step hs
            apply go
            refine W.quiet (fun w' => Ch [] w_2n w') MX (by kernel_rfl) (Ch.drew [] w_2n) ?_
            refine evq0 (rn_field rfl rfl FO60_1) ?_
            refine evq (fun w' hw => rn_load rfl rfl (run_loadVar1 T37 ((hp.ext hw).cell (i := 0) (off := 1) rfl rfl))) ?_
            obtain ⟨x_2p, q_2q, q_21⟩ := bind_some q_21
            refine evq_indexO rfl rfl rfl Tryd.underlying37 T3 o_2o q_2q ?_
            intro g_2r c_2s h_2t d_2u l_2v
            refine evq (fun w' hw => rn_load rfl rfl (run_loadVar1 T3 ((hp.ext hw).cellE (i := 1) rfl h_2t d_2u (j := 0) rfl))) ?_
            refine evq0 (rn_field rfl rfl FO68_2) ?_
            refine evq (fun w' hw => rn_load rfl rfl (run_loadVar1 T3 ((hp.ext hw).cell (i := 6) (off := 2) rfl rfl))) ?_
            intro w_2w hc
            have hs := hp.stp hc
            replace hp := hp.ext hc
            replace r_1n := r_1n.step hs
            replace o_2o := o_2o.step hs
            replace o_1p := o_1p.step hs
            replace r_1w := r_1w.step hs
            replace r_1x := r_1x.step hs
            replace o_1y := o_1y.step hs
            replace o_1z := o_1z.step hs
            replace r_y := r_y.step hs
            apply go
            refine sel_of (fun hc => ?_) (fun hc => ?_)
            ·
              have q_21 := cond_t q_21 hc
              apply go
              apply go
              apply go
              obtain rfl := Option.some.inj q_21
              obtain rfl := Option.some.inj h
              have hp := hp.sel [0, 1, 2, 3, 4, 5] (by decide)
              exact ⟨I_1d, [some (g_1, [v_1i, v_1j, v_1l], 60), e_2m, e_1m], [some (g_6, [v_1q, v_1r, v_1s, v_1u], 63), e_1t, e_1v], rfl, hp, ⟨v_1i, v_1j, e_2m, v_1l, e_1m, rfl, r_1n, o_2o, o_1p⟩, ⟨v_1q, v_1r, v_1s, e_1t, v_1u, e_1v, rfl, r_1w, r_1x, o_1y, o_1z⟩⟩
            ·
              have q_21 := cond_f q_21 hc
              apply go
              obtain rfl := Option.some.inj q_21
              have hp := hp.perm [1, 2, 0, 4, 5, 3] (by decide)
              exact ⟨((upd x_19.counters x_4 (IntKind.i64.wrap (x_28 + 1))), e_2m), (.c rfl .n), rfl, hp, r_1n, o_2o, o_1p, r_1w, r_1x, o_1y, o_1z⟩
          ·
            have q_21 := cond_f q_21 hc
            obtain ⟨y_2x, q_2y, q_21⟩ := bind_some q_21
            refine W.cut (γ := Bool) (fun g => [(0, (.pointer (some ⟨g_1, 0, none⟩))), (1, (.int .i64 x_4)), (7, (.pointer (some ⟨g_z, 0, none⟩))), (8, (.int .i64 x_18)), (60, (.bool (g)))]) (fun g w' => y_2x = (g) ∧ w_1c = w') ?_ ?_
            ·
              apply go
              refine ev0 (rn_field rfl rfl FO68_0) ?_
              refine ev (rn_load rfl rfl (run_loadVar1 T3 (hp.cell (i := 6) (off := 0) rfl rfl))) ?_
              refine sel_of (fun hc => ?_) (fun hc => ?_)
              ·
                have q_2y := cond_t q_2y hc
                obtain rfl := Option.some.inj q_2y
                exact ⟨(x_18 == 1), (.c rfl (.c rfl (.c rfl (.c rfl (.c rfl .n))))), rfl, rfl⟩
              ·
                have q_2y := cond_f q_2y hc
                obtain rfl := Option.some.inj q_2y
                exact ⟨false, (.c rfl (.c rfl (.c rfl (.c rfl (.c rfl .n))))), rfl, rfl⟩
            ·
              rintro x_2z _ ⟨hy, rfl⟩
              replace hy := hy.symm
              subst hy
              apply go
              refine sel_of (fun hc => ?_) (fun hc => ?_)
              ·
                have q_21 := cond_t q_21 hc
                apply go
                apply go
                refine ev0 (rn_field rfl rfl FO60_1) ?_
                refine ev (rn_load rfl rfl (run_loadVar1 T37 (hp.cell (i := 0) (off := 1) rfl rfl))) ?_
                obtain ⟨x_30, q_31, q_21⟩ := bind_some q_21
                refine ev_indexO rfl rfl rfl Tryd.underlying37 T3 o_1o q_31 ?_
                intro g_32 c_33 h_34 d_35 l_36
                refine ev (rn_load rfl rfl (run_loadVar1 T3 (hp.cellE (i := 1) rfl h_34 d_35 (j := 0) rfl))) ?_
                obtain ⟨x_37, q_38, q_21⟩ := bind_some q_21
                refine ev_indexO rfl rfl rfl Tryd.underlying37 T3 o_1o q_38 ?_
                intro g_39 c_3a h_3b d_3c l_3d
                refine ev_storeE hp (i := 1) rfl h_3b rfl rfl rfl T3 o_1o q_38 (x0 := (IntKind.i64.wrap (x_30 + 1))) rfl ?_
                intro e_3e w_3f hp hs o_3g
                replace r_1n := r_1n.step hs
                replace o_1p := o_1p.step hs
                replace r_1w := r_1w.step hs
                replace r_1x := r_1x.step hs
                replace o_1y := o_1y.step hs
                replace o_1z := o_1z.step hs
                replace r_y := r_y.step hs
                apply go
                refine W.quiet (fun w' => Ch [] w_3f w') MX (by kernel_rfl) (Ch.drew [] w_3f) ?_
                refine evq0 (rn_field rfl rfl FO60_1) ?_
                refine evq (fun w' hw => rn_load rfl rfl (run_loadVar1 T37 ((hp.ext hw).cell (i := 0) (off := 1) rfl rfl))) ?_
                obtain ⟨x_3h, q_3i, q_21⟩ := bind_some q_21
                refine evq_indexO rfl rfl rfl Tryd.underlying37 T3 o_3g q_3i ?_
                intro g_3j c_3k h_3l d_3m l_3n
                refine evq (fun w' hw => rn_load rfl rfl (run_loadVar1 T3 ((hp.ext hw).cellE (i := 1) rfl h_3l d_3m (j := 0) rfl))) ?_
                refine evq0 (rn_field rfl rfl FO68_2) ?_
                refine evq (fun w' hw => rn_load rfl rfl (run_loadVar1 T3 ((hp.ext hw).cell (i := 6) (off := 2) rfl rfl))) ?_
                intro w_3o hc
                have hs := hp.stp hc
                replace hp := hp.ext hc
                replace r_1n := r_1n.step hs
                replace o_3g := o_3g.step hs
                replace o_1p := o_1p.step hs
                replace r_1w := r_1w.step hs
                replace r_1x := r_1x.step hs
                replace o_1y := o_1y.step hs
                replace o_1z := o_1z.step hs
                replace r_y := r_y.step hs
                apply go
                refine sel_of (fun hc => ?_) (fun hc => ?_)
                ·
                  have q_21 := cond_t q_21 hc
                  apply go
                  apply go
                  apply go
                  obtain rfl := Option.some.inj q_21
                  obtain rfl := Option.some.inj h
                  have hp := hp.sel [0, 1, 2, 3, 4, 5] (by decide)
                  exact ⟨I_1d, [some (g_1, [v_1i, v_1j, v_1l], 60), e_3e, e_1m], [some (g_6, [v_1q, v_1r, v_1s, v_1u], 63), e_1t, e_1v], rfl, hp, ⟨v_1i, v_1j, e_3e, v_1l, e_1m, rfl, r_1n, o_3g, o_1p⟩, ⟨v_1q, v_1r, v_1s, e_1t, v_1u, e_1v, rfl, r_1w, r_1x, o_1y, o_1z⟩⟩
                ·
                  have q_21 := cond_f q_21 hc
                  apply go
                  obtain rfl := Option.some.inj q_21
                  have hp := hp.perm [1, 2, 0, 4, 5, 3] (by decide)
                  exact ⟨((upd x_19.counters x_4 (IntKind.i64.wrap (x_30 + 1))), e_3e), (.c rfl .n), rfl, hp, r_1n, o_3g, o_1p, r_1w, r_1x, o_1y, o_1z⟩
              ·
                have q_21 := cond_f q_21 hc
                apply go
                obtain rfl := Option.some.inj q_21
                have hp := hp.perm [1, 2, 0, 4, 5, 3] (by decide)
                exact ⟨(x_19.counters, e_1k), (.c rfl .n), rfl, hp, r_1n, o_1o, o_1p, r_1w, r_1x, o_1y, o_1z⟩
  ·
    rintro ⟨x_3p, e_3q⟩ w_3r ⟨hy, hp, r_1n, o_3s, o_1p, r_1w, r_1x, o_1y, o_1z⟩
    replace hy := hy.symm
    subst hy
    apply go
    apply go
    apply go
    obtain rfl := Option.some.inj h
    have hp := hp.perm [2, 0, 1, 5, 3, 4] (by decide)
    exact ⟨I_1d, [some (g_1, [v_1i, v_1j, v_1l], 60), e_3q, e_1m], [some (g_6, [v_1q, v_1r, v_1s, v_1u], 63), e_1t, e_1v], rfl, hp, ⟨v_1i, v_1j, e_3q, v_1l, e_1m, rfl, r_1n, o_3s, o_1p⟩, ⟨v_1q, v_1r, v_1s, e_1t, v_1u, e_1v, rfl, r_1w, r_1x, o_1y, o_1z⟩⟩

end Go.Proofs.YtknnmbcaoekgmaaDoor

namespace Go.Proofs.YtknnmbcaoekgmaaDoor
open Go Go.Proofs.YtknnmbcaoekgmaaDoor.Gw Go.RowKit
set_option linter.unusedVariables false
attribute [local irreducible] Ev EvQ EvS EvH
theorem tree_Runner_run_F_ok (n : Nat) (self : Runner → Int → Tick → Option (Int × Runner × Tick)) (ih : tree_Runner_run_S self) : tree_Runner_run_S (tree_Runner_run_F n self) := by
  intro w0 I0 x_0 g_1 E_2 q_3 x_4 x_5 g_6 E_7 q_8 hp r h
  unfold tree_Runner_run_F at h
  refine enter Tryd.func27 rfl (Nat.le_of_ble_eq_true rfl) ?_
  generalize blks (E_2 ++ E_7) = B at hp ⊢
  obtain ⟨v_9, v_a, e_b, v_c, e_d, rfl, r_e, o_f, o_g⟩ := q_3
  obtain ⟨v_h, v_i, v_j, e_k, v_l, e_m, rfl, r_n, r_o, o_p, o_q⟩ := q_8
  have hp : Hp ⟨w0, I0, B⟩ I0 [some (g_1, [v_9, v_a, v_c], 60), e_b, e_d, some (g_6, [v_h, v_i, v_j, v_l], 63), e_k, e_m] w0 := hp
  apply go
  apply go
  apply go
  apply go
  apply go
  apply go
  refine ev0 (rn_field rfl rfl FO60_0) ?_
  refine ev (rn_load rfl rfl (run_loadVar1 T57 (hp.cell (i := 0) (off := 0) rfl rfl))) ?_
  obtain ⟨x_r, q_s, h⟩ := bind_some h
  refine ev_index rfl rfl rfl Tryd.underlying57 T68 r_e q_s ?_
  intro p_t c_u d_v a_w
  obtain ⟨v_x, rfl, r_y⟩ := dNode_2_o d_v
  refine ev (rn_load rfl rfl (run_loadVarA T68 rfl a_w)) ?_
  refine ev_alloc hp rfl T68 ?_
  intro g_z w_10 hp hs
  replace r_y := r_y.step hs
  replace r_e := r_e.step hs
  replace o_f := o_f.step hs
  replace o_g := o_g.step hs
  replace r_n := r_n.step hs
  replace r_o := r_o.step hs
  replace o_p := o_p.step hs
  replace o_q := o_q.step hs
  refine ev_storeA hp (i := 0) (off := 0) (vs := [(.int .i64 x_r.kind), (.int .i64 x_r.name), (.int .i64 x_r.count), v_x]) rfl rfl rfl rfl T68 rfl (Nat.le_of_ble_eq_true rfl) (ones_cons rfl (ones_cons rfl (ones_cons rfl (ones_cons r_y.one ones_nil)))) ?_
  intro w_11 hp hs
  replace r_y := r_y.step hs
  replace r_e := r_e.step hs
  replace o_f := o_f.step hs
  replace o_g := o_g.step hs
  replace r_n := r_n.step hs
  replace r_o := r_o.step hs
  replace o_p := o_p.step hs
  replace o_q := o_q.step hs
  obtain ⟨y_12, q_13, h⟩ := bind_some h
  refine W.cut (γ := ((List Int) × (List Bool) × (List Int) × (List Int) × Int × (List Node_2) × (List Int) × (List Bool) × Value × Value × Value × Ent × Value × Ent × Value × Value × Ent × Value × Ent × (Nat → Prop))) (fun g => [(1, (.int .i64 x_4)), (2, (.pointer (some ⟨g_6, 0, none⟩))), (7, (.int .i64 (g.2.2.2.2.1)))]) (fun g w' => y_12 = ((g.1), (g.2.1), (g.2.2.1), (g.2.2.2.1), (g.2.2.2.2.1), (g.2.2.2.2.2.1), (g.2.2.2.2.2.2.1), (g.2.2.2.2.2.2.2.1)) ∧ Hp ⟨w0, I0, B⟩ (g.2.2.2.2.2.2.2.2.2.2.2.2.2.2.2.2.2.2.2) [(g.2.2.2.2.2.2.2.2.2.2.2.1), (g.2.2.2.2.2.2.2.2.2.2.2.2.2.1), some (g_6, [(g.2.2.2.2.2.2.2.2.1), (g.2.2.2.2.2.2.2.2.2.1), (g.2.2.2.2.2.2.2.2.2.2.1), (g.2.2.2.2.2.2.2.2.2.2.2.2.1)], 63), (g.2.2.2.2.2.2.2.2.2.2.2.2.2.2.2.2.1), (g.2.2.2.2.2.2.2.2.2.2.2.2.2.2.2.2.2.2.1), some (g_1, [(g.2.2.2.2.2.2.2.2.2.2.2.2.2.2.1), (g.2.2.2.2.2.2.2.2.2.2.2.2.2.2.2.1), (g.2.2.2.2.2.2.2.2.2.2.2.2.2.2.2.2.2.1)], 60)] w' ∧ RepS (dI .i64) w' (g.2.2.2.2.2.2.2.2.2.2.2.2.2.2.2.2.2.2.2) (g.2.2.2.2.2.2.2.2.1) (g.1) ∧ RepS dB w' (g.2.2.2.2.2.2.2.2.2.2.2.2.2.2.2.2.2.2.2) (g.2.2.2.2.2.2.2.2.2.1) (g.2.1) ∧ OwnS (dI .i64) 3 w' (g.2.2.2.2.2.2.2.2.2.2.2.2.2.2.2.2.2.2.2) (g.2.2.2.2.2.2.2.2.2.2.1) (g.2.2.2.2.2.2.2.2.2.2.2.1) (g.2.2.1) ∧ OwnS (dI .i64) 3 w' (g.2.2.2.2.2.2.2.2.2.2.2.2.2.2.2.2.2.2.2) (g.2.2.2.2.2.2.2.2.2.2.2.2.1) (g.2.2.2.2.2.2.2.2.2.2.2.2.2.1) (g.2.2.2.1) ∧ RepS dNode_2 w' (g.2.2.2.2.2.2.2.2.2.2.2.2.2.2.2.2.2.2.2) (g.2.2.2.2.2.2.2.2.2.2.2.2.2.2.1) (g.2.2.2.2.2.1) ∧ OwnS (dI .i64) 3 w' (g.2.2.2.2.2.2.2.2.2.2.2.2.2.2.2.2.2.2.2) (g.2.2.2.2.2.2.2.2.2.2.2.2.2.2.2.1) (g.2.2.2.2.2.2.2.2.2.2.2.2.2.2.2.2.1) (g.2.2.2.2.2.2.1) ∧ OwnS dB 4 w' (g.2.2.2.2.2.2.2.2.2.2.2.2.2.2.2.2.2.2.2) (g.2.2.2.2.2.2.2.2.2.2.2.2.2.2.2.2.2.1) (g.2.2.2.2.2.2.2.2.2.2.2.2.2.2.2.2.2.2.1) (g.2.2.2.2.2.2.2.1)) ?_ ?_
  ·
    apply go
    apply go
    refine ev0 (rn_field rfl rfl FO68_0) ?_
    refine ev (rn_load rfl rfl (run_loadVar1 T3 (hp.cell (i := 0) (off := 0) rfl rfl))) ?_
    apply go
    apply go
    apply go
    apply go
    refine sel_of (fun hc => ?_) (fun hc => ?_)
    ·
      have q_13 := cond_t q_13 hc
      apply go
      apply go
      refine ev0 (rn_field rfl rfl FO63_3) ?_
      refine ev (rn_load rfl rfl (run_loadVar1 T37 (hp.cell (i := 4) (off := 3) rfl rfl))) ?_
      refine ev_litN (d := (dI .i64)) (xs := [x_4]) (cs := [(.int .i64 x_4)]) hp rfl rfl Tryd.underlying37 T3 (by decide) rfl rfl (Elems.cons (d := (dI .i64)) (xs := _) rfl (Elems.nil _ _ _ _)) ?_
      intro v_14 I_15 w_16 hp hs r_17
      replace o_q := o_q.step hs
      replace r_y := r_y.step hs
      replace r_e := r_e.step hs
      replace o_f := o_f.step hs
      replace o_g := o_g.step hs
      replace r_n := r_n.step hs
      replace r_o := r_o.step hs
      replace o_p := o_p.step hs
      obtain ⟨x_18, q_19, q_13⟩ := bind_some q_13
      refine ev_append hp (i := 6) rfl rfl rfl rfl Tryd.underlying37 T3 rfl rfl o_q r_17 q_19 ?_
      rintro v_1a e_1b w_1c hp hs o_1d
      replace r_y := r_y.step hs
      replace r_e := r_e.step hs
      replace o_f := o_f.step hs
      replace o_g := o_g.step hs
      replace r_n := r_n.step hs
      replace r_o := r_o.step hs
      replace o_p := o_p.step hs
      replace o_q := o_q.step hs
      refine ev0 (rn_field rfl rfl FO63_3) ?_
      refine ev_store1 hp (i := 4) (off := 3) rfl rfl rfl rfl T37 o_1d.one (Nat.le_of_ble_eq_true rfl) ?_
      intro w_1e hp hs
      replace r_y := r_y.step hs
      replace r_e := r_e.step hs
      replace o_f := o_f.step hs
      replace o_g := o_g.step hs
      replace r_n := r_n.step hs
      replace r_o := r_o.step hs
      replace o_p := o_p.step hs
      replace o_1d := o_1d.step hs
      obtain ⟨y_1f, q_1g, q_13⟩ := bind_some q_13
      refine W.cut (γ := Bool) (fun g => [(1, (.int .i64 x_4)), (2, (.pointer (some ⟨g_6, 0, none⟩))), (7, (.int .i64 3)), (8, (.pointer (some ⟨g_z, 0, none⟩))), (63, (.bool (g)))]) (fun g w' => y_1f = (g) ∧ Hp ⟨w0, I0, B⟩ I_15 [e_k, e_1b, some (g_6, [v_h, v_i, v_j, v_1a], 63), some (g_z, [(.int .i64 x_r.kind), (.int .i64 x_r.name), (.int .i64 x_r.count), v_x], 68), e_b, e_d, some (g_1, [v_9, v_a, v_c], 60)] w' ∧ RepS (dI .i64) w' I_15 v_h x_5.actions ∧ RepS dB w' I_15 v_i x_5.tests ∧ OwnS (dI .i64) 3 w' I_15 v_j e_k x_5.status ∧ OwnS (dI .i64) 3 w' I_15 v_1a e_1b x_18 ∧ RepS (dI .i64) w' I_15 v_x x_r.kids ∧ RepS dNode_2 w' I_15 v_9 x_0.nodes ∧ OwnS (dI .i64) 3 w' I_15 v_a e_b x_0.counters ∧ OwnS dB 4 w' I_15 v_c e_d x_0.active) ?_ ?_
      ·
        refine W.quiet (fun w' => Ch [] w_1e w') MX (by kernel_rfl) (Ch.drew [] w_1e) ?_
        refine evq0 (rn_field rfl rfl FO68_1) ?_
        refine evq (fun w' hw => rn_load rfl rfl (run_loadVar1 T3 ((hp.ext hw).cell (i := 0) (off := 1) rfl rfl))) ?_
        refine evq0 (rn_field rfl rfl FO63_0) ?_
        refine evq (fun w' hw => rn_load rfl rfl (run_loadVar1 T37 ((hp.ext hw).cell (i := 4) (off := 0) rfl rfl))) ?_
        refine evq0 (rn_len rfl rfl Tryd.underlying37 r_n) ?_
        refine sel_of (fun hc => ?_) (fun hc => ?_)
        ·
          have q_1g := cond_t q_1g hc
          refine evq0 (rn_field rfl rfl FO63_0) ?_
          refine evq (fun w' hw => rn_load rfl rfl (run_loadVar1 T37 ((hp.ext hw).cell (i := 4) (off := 0) rfl rfl))) ?_
          refine evq0 (rn_field rfl rfl FO68_1) ?_
          refine evq (fun w' hw => rn_load rfl rfl (run_loadVar1 T3 ((hp.ext hw).cell (i := 0) (off := 1) rfl rfl))) ?_
          obtain ⟨x_1h, q_1i, q_1g⟩ := bind_some q_1g
          refine evq_index rfl rfl rfl Tryd.underlying37 T3 r_n q_1i ?_
          intro p_1j c_1k d_1l a_1m
          obtain rfl : c_1k = [(.int .i64 x_1h)] := d_1l
          refine evq (fun w' hw => rn_load rfl rfl (run_loadVar1 T3 ((a_1m.step (hp.stp hw)).2 0 _ rfl))) ?_
          refine sel_of (fun hc => ?_) (fun hc => ?_)
          ·
            have q_1g := cond_t q_1g hc
            refine evq0 (rn_field rfl rfl FO63_0) ?_
            refine evq (fun w' hw => rn_load rfl rfl (run_loadVar1 T37 ((hp.ext hw).cell (i := 4) (off := 0) rfl rfl))) ?_
            refine evq0 (rn_field rfl rfl FO68_1) ?_
            refine evq (fun w' hw => rn_load rfl rfl (run_loadVar1 T3 ((hp.ext hw).cell (i := 0) (off := 1) rfl rfl))) ?_
            obtain ⟨x_1n, q_1o, q_1g⟩ := bind_some q_1g
            refine evq_index rfl rfl rfl Tryd.underlying37 T3 r_n q_1o ?_
            intro p_1p c_1q d_1r a_1s
            obtain rfl : c_1q = [(.int .i64 x_1n)] := d_1r
            refine evq (fun w' hw => rn_load rfl rfl (run_loadVar1 T3 ((a_1s.step (hp.stp hw)).2 0 _ rfl))) ?_
            intro w_1t hc
            have hs := hp.stp hc
            replace hp := hp.ext hc
            replace r_y := r_y.step hs
            replace r_e := r_e.step hs
            replace o_f := o_f.step hs
            replace o_g := o_g.step hs
            replace r_n := r_n.step hs
            replace r_o := r_o.step hs
            replace o_p := o_p.step hs
            replace o_1d := o_1d.step hs
            obtain rfl := Option.some.inj q_1g
            have hp := hp.perm [5, 6, 4, 0, 2, 3, 1] (by decide)
            exact ⟨(decide (x_1n ≤ 3)), (.c rfl (.c rfl (.c rfl (.c rfl (.c rfl .n))))), rfl, hp, r_n, r_o, o_p, o_1d, r_y, r_e, o_f, o_g⟩
          ·
            have q_1g := cond_f q_1g hc
            intro w_1u hc
            have hs := hp.stp hc
            replace hp := hp.ext hc
            replace r_y := r_y.step hs
            replace r_e := r_e.step hs
            replace o_f := o_f.step hs
            replace o_g := o_g.step hs
            replace r_n := r_n.step hs
            replace r_o := r_o.step hs
            replace o_p := o_p.step hs
            replace o_1d := o_1d.step hs
            obtain rfl := Option.some.inj q_1g
            have hp := hp.perm [5, 6, 4, 0, 2, 3, 1] (by decide)
            exact ⟨false, (.c rfl (.c rfl (.c rfl (.c rfl (.c rfl .n))))), rfl, hp, r_n, r_o, o_p, o_1d, r_y, r_e, o_f, o_g⟩
        ·
          have q_1g := cond_f q_1g hc
          intro w_1v hc
          have hs := hp.stp hc
          replace hp := hp.ext hc
          replace r_y := r_y.step hs
          replace r_e := r_e.step hs
          replace o_f := o_f.step hs
          replace o_g := o_g.step hs
          replace r_n := r_n.step hs
          replace r_o := r_o.step hs
          replace o_p := o_p.step hs
          replace o_1d := o_1d.step hs
          obtain rfl := Option.some.inj q_1g
          have hp := hp.perm [5, 6, 4, 0, 2, 3, 1] (by decide)
          exact ⟨false, (.c rfl (.c rfl (.c rfl (.c rfl (.c rfl .n))))), rfl, hp, r_n, r_o, o_p, o_1d, r_y, r_e, o_f, o_g⟩
      ·
        rintro x_1w w_1x ⟨hy, hp, r_n, r_o, o_p, o_1d, r_y, r_e, o_f, o_g⟩
        replace hy := hy.symm
        subst hy
        apply go
        refine sel_of (fun hc => ?_) (fun hc => ?_)
        ·
          have q_13 := cond_t q_13 hc
          refine W.quiet (fun w' => Ch [] w_1x w') MX (by kernel_rfl) (Ch.drew [] w_1x) ?_
          refine evq0 (rn_field rfl rfl FO63_0) ?_
          refine evq (fun w' hw => rn_load rfl rfl (run_loadVar1 T37 ((hp.ext hw).cell (i := 2) (off := 0) rfl rfl))) ?_
          refine evq0 (rn_field rfl rfl FO68_1) ?_
          refine evq (fun w' hw => rn_load rfl rfl (run_loadVar1 T3 ((hp.ext hw).cell (i := 3) (off := 1) rfl rfl))) ?_
          obtain ⟨x_1y, q_1z, q_13⟩ := bind_some q_13
          refine evq_index rfl rfl rfl Tryd.underlying37 T3 r_n q_1z ?_
          intro p_20 c_21 d_22 a_23
          obtain rfl : c_21 = [(.int .i64 x_1y)] := d_22
          refine evq (fun w' hw => rn_load rfl rfl (run_loadVar1 T3 ((a_23.step (hp.stp hw)).2 0 _ rfl))) ?_
          intro w_24 hc
          have hs := hp.stp hc
          replace hp := hp.ext hc
          replace r_n := r_n.step hs
          replace r_o := r_o.step hs
          replace o_p := o_p.step hs
          replace o_1d := o_1d.step hs
          replace r_y := r_y.step hs
          replace r_e := r_e.step hs
          replace o_f := o_f.step hs
          replace o_g := o_g.step hs
          obtain rfl := Option.some.inj q_13
          have hp := hp.sel [0, 1, 2, 4, 5, 6] (by decide)
          exact ⟨(x_5.actions, x_5.tests, x_5.status, x_18, x_1y, x_0.nodes, x_0.counters, x_0.active, v_h, v_i, v_j, e_k, v_1a, e_1b, v_9, v_a, e_b, v_c, e_d, I_15), (.c rfl (.c rfl (.c rfl .n))), rfl, hp, r_n, r_o, o_p, o_1d, r_e, o_f, o_g⟩
        ·
          have q_13 := cond_f q_13 hc
          apply go
          obtain rfl := Option.some.inj q_13
          have hp := hp.sel [0, 1, 2, 4, 5, 6] (by decide)
          exact ⟨(x_5.actions, x_5.tests, x_5.status, x_18, 3, x_0.nodes, x_0.counters, x_0.active, v_h, v_i, v_j, e_k, v_1a, e_1b, v_9, v_a, e_b, v_c, e_d, I_15), (.c rfl (.c rfl (.c rfl .n))), rfl, hp, r_n, r_o, o_p, o_1d, r_e, o_f, o_g⟩
    ·
      have q_13 := cond_f q_13 hc
      apply go
      apply go
      apply go
      refine sel_of (fun hc => ?_) (fun hc => ?_)
      ·
        have q_13 := cond_t q_13 hc
        obtain ⟨y_25, q_26, q_13⟩ := bind_some q_13
        refine W.cut (γ := Bool) (fun g => [(1, (.int .i64 x_4)), (2, (.pointer (some ⟨g_6, 0, none⟩))), (7, (.int .i64 3)), (91, (.bool (g)))]) (fun g w' => y_25 = (g) ∧ Hp ⟨w0, I0, B⟩ I0 [e_k, e_m, some (g_6, [v_h, v_i, v_j, v_l], 63), e_b, e_d, some (g_1, [v_9, v_a, v_c], 60)] w' ∧ RepS (dI .i64) w' I0 v_h x_5.actions ∧ RepS dB w' I0 v_i x_5.tests ∧ OwnS (dI .i64) 3 w' I0 v_j e_k x_5.status ∧ OwnS (dI .i64) 3 w' I0 v_l e_m x_5.ticked ∧ RepS dNode_2 w' I0 v_9 x_0.nodes ∧ OwnS (dI .i64) 3 w' I0 v_a e_b x_0.counters ∧ OwnS dB 4 w' I0 v_c e_d x_0.active) ?_ ?_
        ·
          refine W.quiet (fun w' => Ch [] w_11 w') MX (by kernel_rfl) (Ch.drew [] w_11) ?_
          refine evq0 (rn_field rfl rfl FO68_1) ?_
          refine evq (fun w' hw => rn_load rfl rfl (run_loadVar1 T3 ((hp.ext hw).cell (i := 0) (off := 1) rfl rfl))) ?_
          refine evq0 (rn_field rfl rfl FO63_1) ?_
          refine evq (fun w' hw => rn_load rfl rfl (run_loadVar1 T58 ((hp.ext hw).cell (i := 4) (off := 1) rfl rfl))) ?_
          refine evq0 (rn_len rfl rfl Tryd.underlying58 r_o) ?_
          refine sel_of (fun hc => ?_) (fun hc => ?_)
          ·
            have q_26 := cond_t q_26 hc
            refine evq0 (rn_field rfl rfl FO63_1) ?_
            refine evq (fun w' hw => rn_load rfl rfl (run_loadVar1 T58 ((hp.ext hw).cell (i := 4) (off := 1) rfl rfl))) ?_
            refine evq0 (rn_field rfl rfl FO68_1) ?_
            refine evq (fun w' hw => rn_load rfl rfl (run_loadVar1 T3 ((hp.ext hw).cell (i := 0) (off := 1) rfl rfl))) ?_
            obtain ⟨x_27, q_28, q_26⟩ := bind_some q_26
            refine evq_index rfl rfl rfl Tryd.underlying58 T4 r_o q_28 ?_
            intro p_29 c_2a d_2b a_2c
            obtain rfl : c_2a = [(.bool x_27)] := d_2b
            refine evq (fun w' hw => rn_load rfl rfl (run_loadVar1 T4 ((a_2c.step (hp.stp hw)).2 0 _ rfl))) ?_
            intro w_2d hc
            have hs := hp.stp hc
            replace hp := hp.ext hc
            replace r_y := r_y.step hs
            replace r_e := r_e.step hs
            replace o_f := o_f.step hs
            replace o_g := o_g.step hs
            replace r_n := r_n.step hs
            replace r_o := r_o.step hs
            replace o_p := o_p.step hs
            replace o_q := o_q.step hs
            obtain rfl := Option.some.inj q_26
            have hp := hp.perm [5, 6, 4, 2, 3, 1] (by decide)
            exact ⟨x_27, (.c rfl (.c rfl (.c rfl (.c rfl .n)))), rfl, hp, r_n, r_o, o_p, o_q, r_e, o_f, o_g⟩
          ·
            have q_26 := cond_f q_26 hc
            intro w_2e hc
            have hs := hp.stp hc
            replace hp := hp.ext hc
            replace r_y := r_y.step hs
            replace r_e := r_e.step hs
            replace o_f := o_f.step hs
            replace o_g := o_g.step hs
            replace r_n := r_n.step hs
            replace r_o := r_o.step hs
            replace o_p := o_p.step hs
            replace o_q := o_q.step hs
            obtain rfl := Option.some.inj q_26
            have hp := hp.perm [5, 6, 4, 2, 3, 1] (by decide)
            exact ⟨false, (.c rfl (.c rfl (.c rfl (.c rfl .n)))), rfl, hp, r_n, r_o, o_p, o_q, r_e, o_f, o_g⟩
        ·
          rintro x_2f w_2g ⟨hy, hp, r_n, r_o, o_p, o_q, r_e, o_f, o_g⟩
          replace hy := hy.symm
          subst hy
          apply go
          refine sel_of (fun hc => ?_) (fun hc => ?_)
          ·
            have q_13 := cond_t q_13 hc
            apply go
            obtain rfl := Option.some.inj q_13
            exact ⟨(x_5.actions, x_5.tests, x_5.status, x_5.ticked, 2, x_0.nodes, x_0.counters, x_0.active, v_h, v_i, v_j, e_k, v_l, e_m, v_9, v_a, e_b, v_c, e_d, I0), (.c rfl (.c rfl (.c rfl .n))), rfl, hp, r_n, r_o, o_p, o_q, r_e, o_f, o_g⟩
          ·
            have q_13 := cond_f q_13 hc
            apply go
            obtain rfl := Option.some.inj q_13
            exact ⟨(x_5.actions, x_5.tests, x_5.status, x_5.ticked, 3, x_0.nodes, x_0.counters, x_0.active, v_h, v_i, v_j, e_k, v_l, e_m, v_9, v_a, e_b, v_c, e_d, I0), (.c rfl (.c rfl (.c rfl .n))), rfl, hp, r_n, r_o, o_p, o_q, r_e, o_f, o_g⟩
      ·
        have q_13 := cond_f q_13 hc
        apply go
        apply go
        apply go
        refine sel_of (fun hc => ?_) (fun hc => ?_)
        ·
          have q_13 := cond_t q_13 hc
          apply go
          refine ev0 (rn_field rfl rfl FO68_3) ?_
          refine ev (rn_load rfl rfl (run_loadVar1 T37 (hp.cell (i := 0) (off := 3) rfl rfl))) ?_
          obtain ⟨⟨x_2h, x_2i, x_2j⟩, q_2k, q_13⟩ := bind_some q_13
          refine ev_call rfl rfl C44 (((tree_Runner_chain_ok n _ ih) _ _  (Runner.mk x_0.nodes x_0.counters x_0.active) g_1 [some (g_1, [v_9, v_a, v_c], 60), e_b, e_d] ⟨v_9, v_a, e_b, v_c, e_d, rfl, r_e, o_f, o_g⟩ x_r.kids v_x r_y 2 (Tick.mk x_5.actions x_5.tests x_5.status x_5.ticked) g_6 [some (g_6, [v_h, v_i, v_j, v_l], 63), e_k, e_m] ⟨v_h, v_i, v_j, e_k, v_l, e_m, rfl, r_n, r_o, o_p, o_q⟩ (hp.lendL [1, 2, 3, 4, 5, 6] (by decide)) _ q_2k).mono ?_)
          rintro _ w_2l ⟨I_2m, F_2n, F_2o, hv, hq2316, q_2p, q_2q⟩
          replace hv := hv.symm
          subst hv
          obtain ⟨v_2r, v_2s, e_2t, v_2u, e_2v, rfl, r_2w, o_2x, o_2y⟩ := q_2p
          obtain ⟨v_2z, v_30, v_31, e_32, v_33, e_34, rfl, r_35, r_36, o_37, o_38⟩ := q_2q
          have hs := hq2316.st
          have hp := hp.backL [1, 2, 3, 4, 5, 6] [0] (by decide) hq2316
          replace r_y := r_y.step hs
          obtain rfl := Option.some.inj q_13
          have hp := hp.perm [4, 5, 3, 1, 2, 0] (by decide)
          exact ⟨(x_2j.actions, x_2j.tests, x_2j.status, x_2j.ticked, x_2h, x_2i.nodes, x_2i.counters, x_2i.active, v_2z, v_30, v_31, e_32, v_33, e_34, v_2r, v_2s, e_2t, v_2u, e_2v, I_2m), (.c rfl (.c rfl (.c rfl .n))), rfl, hp, r_35, r_36, o_37, o_38, r_2w, o_2x, o_2y⟩
        ·
          have q_13 := cond_f q_13 hc
          apply go
          apply go
          apply go
          refine sel_of (fun hc => ?_) (fun hc => ?_)
          ·
            have q_13 := cond_t q_13 hc
            apply go
            refine ev0 (rn_field rfl rfl FO68_3) ?_
            refine ev (rn_load rfl rfl (run_loadVar1 T37 (hp.cell (i := 0) (off := 3) rfl rfl))) ?_
            obtain ⟨⟨x_39, x_3a, x_3b⟩, q_3c, q_13⟩ := bind_some q_13
            refine ev_call rfl rfl C44 (((tree_Runner_chain_ok n _ ih) _ _  (Runner.mk x_0.nodes x_0.counters x_0.active) g_1 [some (g_1, [v_9, v_a, v_c], 60), e_b, e_d] ⟨v_9, v_a, e_b, v_c, e_d, rfl, r_e, o_f, o_g⟩ x_r.kids v_x r_y 3 (Tick.mk x_5.actions x_5.tests x_5.status x_5.ticked) g_6 [some (g_6, [v_h, v_i, v_j, v_l], 63), e_k, e_m] ⟨v_h, v_i, v_j, e_k, v_l, e_m, rfl, r_n, r_o, o_p, o_q⟩ (hp.lendL [1, 2, 3, 4, 5, 6] (by decide)) _ q_3c).mono ?_)
            rintro _ w_3d ⟨I_3e, F_3f, F_3g, hv, hq2345, q_3h, q_3i⟩
            replace hv := hv.symm
            subst hv
            obtain ⟨v_3j, v_3k, e_3l, v_3m, e_3n, rfl, r_3o, o_3p, o_3q⟩ := q_3h
            obtain ⟨v_3r, v_3s, v_3t, e_3u, v_3v, e_3w, rfl, r_3x, r_3y, o_3z, o_40⟩ := q_3i
            have hs := hq2345.st
            have hp := hp.backL [1, 2, 3, 4, 5, 6] [0] (by decide) hq2345
            replace r_y := r_y.step hs
            obtain rfl := Option.some.inj q_13
            have hp := hp.perm [4, 5, 3, 1, 2, 0] (by decide)
            exact ⟨(x_3b.actions, x_3b.tests, x_3b.status, x_3b.ticked, x_39, x_3a.nodes, x_3a.counters, x_3a.active, v_3r, v_3s, v_3t, e_3u, v_3v, e_3w, v_3j, v_3k, e_3l, v_3m, e_3n, I_3e), (.c rfl (.c rfl (.c rfl .n))), rfl, hp, r_3x, r_3y, o_3z, o_40, r_3o, o_3p, o_3q⟩
          ·
            have q_13 := cond_f q_13 hc
            apply go
            apply go
            apply go
            refine sel_of (fun hc => ?_) (fun hc => ?_)
            ·
              have q_13 := cond_t q_13 hc
              apply go
              refine ev (rn_load rfl rfl (run_loadVarA T68 rfl (hp.at_ (i := 0) rfl))) ?_
              obtain ⟨⟨x_41, x_42, x_43⟩, q_44, q_13⟩ := bind_some q_13
              refine ev_call rfl rfl C45 (((tree_Runner_parallel_ok n _ ih) _ _  (Runner.mk x_0.nodes x_0.counters x_0.active) g_1 [some (g_1, [v_9, v_a, v_c], 60), e_b, e_d] ⟨v_9, v_a, e_b, v_c, e_d, rfl, r_e, o_f, o_g⟩ (Node_2.mk x_r.kind x_r.name x_r.count x_r.kids) v_x r_y (Tick.mk x_5.actions x_5.tests x_5.status x_5.ticked) g_6 [some (g_6, [v_h, v_i, v_j, v_l], 63), e_k, e_m] ⟨v_h, v_i, v_j, e_k, v_l, e_m, rfl, r_n, r_o, o_p, o_q⟩ (hp.lendL [1, 2, 3, 4, 5, 6] (by decide)) _ q_44).mono ?_)
              rintro _ w_45 ⟨I_46, F_47, F_48, hv, hq2374, q_49, q_4a⟩
              replace hv := hv.symm
              subst hv
              obtain ⟨v_4b, v_4c, e_4d, v_4e, e_4f, rfl, r_4g, o_4h, o_4i⟩ := q_49
              obtain ⟨v_4j, v_4k, v_4l, e_4m, v_4n, e_4o, rfl, r_4p, r_4q, o_4r, o_4s⟩ := q_4a
              have hs := hq2374.st
              have hp := hp.backL [1, 2, 3, 4, 5, 6] [0] (by decide) hq2374
              replace r_y := r_y.step hs
              obtain rfl := Option.some.inj q_13
              have hp := hp.perm [4, 5, 3, 1, 2, 0] (by decide)
              exact ⟨(x_43.actions, x_43.tests, x_43.status, x_43.ticked, x_41, x_42.nodes, x_42.counters, x_42.active, v_4j, v_4k, v_4l, e_4m, v_4n, e_4o, v_4b, v_4c, e_4d, v_4e, e_4f, I_46), (.c rfl (.c rfl (.c rfl .n))), rfl, hp, r_4p, r_4q, o_4r, o_4s, r_4g, o_4h, o_4i⟩
            ·
              have q_13 := cond_f q_13 hc
              apply go
              obtain ⟨⟨x_4t, x_4u, x_4v⟩, q_4w, q_13⟩ := bind_some q_13
              refine ev_call rfl rfl C46 (((tree_Runner_decorate_ok n _ ih) _ _  (Runner.mk x_0.nodes x_0.counters x_0.active) g_1 [some (g_1, [v_9, v_a, v_c], 60), e_b, e_d] ⟨v_9, v_a, e_b, v_c, e_d, rfl, r_e, o_f, o_g⟩ x_4 (Tick.mk x_5.actions x_5.tests x_5.status x_5.ticked) g_6 [some (g_6, [v_h, v_i, v_j, v_l], 63), e_k, e_m] ⟨v_h, v_i, v_j, e_k, v_l, e_m, rfl, r_n, r_o, o_p, o_q⟩ (hp.lendL [1, 2, 3, 4, 5, 6] (by decide)) _ q_4w).mono ?_)
              rintro _ w_4x ⟨I_4y, F_4z, F_50, hv, hq2403, q_51, q_52⟩
              replace hv := hv.symm
              subst hv
              obtain ⟨v_53, v_54, e_55, v_56, e_57, rfl, r_58, o_59, o_5a⟩ := q_51
              obtain ⟨v_5b, v_5c, v_5d, e_5e, v_5f, e_5g, rfl, r_5h, r_5i, o_5j, o_5k⟩ := q_52
              have hs := hq2403.st
              have hp := hp.backL [1, 2, 3, 4, 5, 6] [0] (by decide) hq2403
              replace r_y := r_y.step hs
              obtain rfl := Option.some.inj q_13
              have hp := hp.perm [4, 5, 3, 1, 2, 0] (by decide)
              exact ⟨(x_4v.actions, x_4v.tests, x_4v.status, x_4v.ticked, x_4t, x_4u.nodes, x_4u.counters, x_4u.active, v_5b, v_5c, v_5d, e_5e, v_5f, e_5g, v_53, v_54, e_55, v_56, e_57, I_4y), (.c rfl (.c rfl (.c rfl .n))), rfl, hp, r_5h, r_5i, o_5j, o_5k, r_58, o_59, o_5a⟩
  ·
    rintro ⟨x_5l, x_5m, x_5n, x_5o, x_5p, x_5q, x_5r, x_5s, v_5t, v_5u, v_5v, e_5w, v_5x, e_5y, v_5z, v_60, e_61, v_62, e_63, I_64⟩ w_65 ⟨hy, hp, r_66, r_67, o_68, o_69, r_6a, o_6b, o_6c⟩
    replace hy := hy.symm
    subst hy
    apply go
    apply go
    refine ev0 (rn_field rfl rfl FO63_2) ?_
    refine ev (rn_load rfl rfl (run_loadVar1 T37 (hp.cell (i := 2) (off := 2) rfl rfl))) ?_
    obtain ⟨x_6d, q_6e, h⟩ := bind_some h
    refine ev_indexO rfl rfl rfl Tryd.underlying37 T3 o_68 q_6e ?_
    intro g_6f c_6g h_6h d_6i l_6j
    refine ev_storeE hp (i := 0) rfl h_6h rfl rfl rfl T3 o_68 q_6e (x0 := x_5p) rfl ?_
    intro e_6k w_6l hp hs o_6m
    replace r_66 := r_66.step hs
    replace r_67 := r_67.step hs
    replace o_69 := o_69.step hs
    replace r_6a := r_6a.step hs
    replace o_6b := o_6b.step hs
    replace o_6c := o_6c.step hs
    apply go
    apply go
    apply go
    obtain rfl := Option.some.inj h
    have hp := hp.perm [5, 3, 4, 2, 0, 1] (by decide)
    exact ⟨I_64, [some (g_1, [v_5z, v_60, v_62], 60), e_61, e_63], [some (g_6, [v_5t, v_5u, v_5v, v_5x], 63), e_6k, e_5y], rfl, hp, ⟨v_5z, v_60, e_61, v_62, e_63, rfl, r_6a, o_6b, o_6c⟩, ⟨v_5t, v_5u, v_5v, e_6k, v_5x, e_5y, rfl, r_66, r_67, o_6m, o_69⟩⟩
theorem tree_Runner_run_ok : ∀ n, tree_Runner_run_S (tree_Runner_run n)
  | 0 => by intro w0 I0 x_0 g_1 E_2 q_3 x_4 x_5 g_6 E_7 q_8 hp r h; cases h
  | n + 1 => tree_Runner_run_F_ok n _ (tree_Runner_run_ok n)

end Go.Proofs.YtknnmbcaoekgmaaDoor

namespace Go.Proofs.YtknnmbcaoekgmaaDoor
open Go Go.Proofs.YtknnmbcaoekgmaaDoor.Gw Go.RowKit
set_option linter.unusedVariables false
attribute [local irreducible] Ev EvQ EvS EvH
def slices_Clonebool_bool__S (f : (List Bool) → Option ((List Bool) × (List Bool))) : Prop := ∀ (w0 : World) (I0 : Nat → Prop) (x_0 : (List Bool)) (v_1 : Value) (e_2 : Ent) (o_3 : OwnS dB 4 w0 I0 v_1 e_2 x_0) (hp : Hp ⟨w0, I0, blks [e_2]⟩ I0 [e_2] w0) (r : ((List Bool) × (List Bool))), f x_0 = some r →
    Ret Tryd.prog 28 #[v_1] w0 fun v w1 => ∃ (I1 : Nat → Prop) (u_4 : Value) (u_5 : Ent) (u_6 : Ent), v = u_4 ∧ Hp ⟨w0, I0, blks [e_2]⟩ I1 ([u_5] ++ [u_6]) w1 ∧ OwnS dB 4 w1 I1 u_4 u_5 r.1 ∧ OwnS dB 4 w1 I1 v_1 u_6 r.2
theorem slices_Clonebool_bool__ok (n : Nat) : slices_Clonebool_bool__S (slices_Clonebool_bool_ n) := by
  intro w0 I0 x_0 v_1 e_2 o_3 hp r h
  unfold slices_Clonebool_bool_ at h
  refine enter Tryd.func28 rfl (Nat.le_of_ble_eq_true rfl) ?_
  generalize blks [e_2] = B at hp ⊢
  have hp : Hp ⟨w0, I0, B⟩ I0 [e_2] w0 := hp
  apply go
  apply go
  apply go
  apply go
  apply go
  rcases o_3.nilcase with ⟨hv, he, hx⟩ | ⟨a_4, n_5, hv, ho⟩
  ·
    subst hv; subst he; subst hx
    replace h : some (([] : (List Bool)), ([] : (List Bool))) = some _ := h
    refine ev0 (rn_eqNil rfl rfl rfl Tryd.underlying58) ?_
    apply go
    apply go
    apply go
    apply go
    obtain rfl := Option.some.inj h
    have hp := hp.none_
    have o_6 := OwnS.nil dB 4 w0 I0
    exact ⟨I0, (.slice none 0 0), none, none, rfl, hp, o_6, o_3⟩
  ·
    subst hv; have o_3 := ho
    refine ev0 (rn_eqNil rfl rfl rfl Tryd.underlying58) ?_
    apply go
    apply go
    apply go
    apply go
    refine ev_litON (d := dB) (xs := ([] : List Bool)) (cs := []) hp rfl rfl Tryd.underlying58 T4 (by decide) (by decide) rfl rfl (Elems.nil _ _ _ _) ?_
    intro v_7 e_8 w_9 hp hs o_a
    replace o_3 := o_3.step hs
    obtain ⟨x_b, q_c, h⟩ := bind_some h
    refine ev_appendF hp (i := 0) (j := 1) rfl rfl rfl rfl rfl Tryd.underlying58 T4 rfl rfl dB_flat o_a o_3 q_c ?_
    rintro v_d e_e w_f hp hs o_g
    apply go
    obtain rfl := Option.some.inj h
    exact ⟨I0, v_d, e_e, e_2, rfl, hp, o_g, o_3⟩

end Go.Proofs.YtknnmbcaoekgmaaDoor

namespace Go.Proofs.YtknnmbcaoekgmaaDoor
open Go Go.Proofs.YtknnmbcaoekgmaaDoor.Gw Go.RowKit
set_option linter.unusedVariables false
attribute [local irreducible] Ev EvQ EvS EvH vch
def tree_Runner_settle_S (f : Runner → Int → Bool → Tick → Option (Runner × Tick)) : Prop := ∀ (w0 : World) (I0 : Nat → Prop) (x_0 : Runner) (g_1 : Nat) (E_2 : List Ent) (q_3 : qR w0 I0 g_1 E_2 x_0) (x_4 : Int) (x_5 : Bool) (x_6 : Tick) (g_7 : Nat) (E_8 : List Ent) (q_9 : qK w0 I0 g_7 E_8 x_6) (hp : Hp ⟨w0, I0, blks (E_2 ++ E_8)⟩ I0 (E_2 ++ E_8) w0) (r : (Runner × Tick)), f x_0 x_4 x_5 x_6 = some r →
    Ret Tryd.prog 29 #[(.pointer (some ⟨g_1, 0, none⟩)), (.int .i64 x_4), (.bool x_5), (.pointer (some ⟨g_7, 0, none⟩))] w0 fun v w1 => ∃ (I1 : Nat → Prop) (u_a : List Ent) (u_b : List Ent), v = (.tuple #[]) ∧ Hp ⟨w0, I0, blks (E_2 ++ E_8)⟩ I1 (u_a ++ u_b) w1 ∧ qR w1 I1 g_1 u_a r.1 ∧ qK w1 I1 g_7 u_b r.2
theorem tree_Runner_settle_F_ok (n : Nat) (self : Runner → Int → Bool → Tick → Option (Runner × Tick)) (ih : tree_Runner_settle_S self) : tree_Runner_settle_S (tree_Runner_settle_F n self) := by
  intro w0 I0 x_0 g_1 E_2 q_3 x_4 x_5 x_6 g_7 E_8 q_9 hp r h
  unfold tree_Runner_settle_F at h
  refine enter Tryd.func29 rfl (Nat.le_of_ble_eq_true rfl) ?_
  generalize blks (E_2 ++ E_8) = B at hp ⊢
  obtain ⟨v_a, v_b, e_c, v_d, e_e, rfl, r_f, o_g, o_h⟩ := q_3
  obtain ⟨v_i, v_j, v_k, e_l, v_m, e_n, rfl, r_o, r_p, o_q, o_r⟩ := q_9
  have hp : Hp ⟨w0, I0, B⟩ I0 [some (g_1, [v_a, v_b, v_d], 60), e_c, e_e, some (g_7, [v_i, v_j, v_k, v_m], 63), e_l, e_n] w0 := hp
  obtain ⟨y_s, q_t, h⟩ := bind_some h
  refine W.cut (γ := Bool) (fun g => [(0, (.pointer (some ⟨g_1, 0, none⟩))), (1, (.int .i64 x_4)), (2, (.bool (g))), (3, (.pointer (some ⟨g_7, 0, none⟩)))]) (fun g w' => y_s = (g) ∧ w0 = w') ?_ ?_
  ·
    apply go
    refine sel_of (fun hc => ?_) (fun hc => ?_)
    ·
      have q_t := cond_t q_t hc
      refine ev0 (rn_field rfl rfl FO63_2) ?_
      refine ev (rn_load rfl rfl (run_loadVar1 T37 (hp.cell (i := 3) (off := 2) rfl rfl))) ?_
      obtain ⟨x_u, q_v, q_t⟩ := bind_some q_t
      refine ev_indexO rfl rfl rfl Tryd.underlying37 T3 o_q q_v ?_
      intro g_w c_x h_y d_z l_10
      refine ev (rn_load rfl rfl (run_loadVar1 T3 (hp.cellE (i := 4) rfl h_y d_z (j := 0) rfl))) ?_
      obtain rfl := Option.some.inj q_t
      exact ⟨(x_u == 1), (.c rfl (.c rfl (.c rfl (.c rfl .n)))), rfl, rfl⟩
    ·
      have q_t := cond_f q_t hc
      obtain rfl := Option.some.inj q_t
      exact ⟨false, (.c rfl (.c rfl (.c rfl (.c rfl .n)))), rfl, rfl⟩
  ·
    rintro x_11 _ ⟨hy, rfl⟩
    replace hy := hy.symm
    subst hy
    obtain ⟨y_12, q_13, h⟩ := bind_some h
    refine W.cut (γ := ((List Int) × Ent)) (fun g => [(0, (.pointer (some ⟨g_1, 0, none⟩))), (1, (.int .i64 x_4)), (2, (.bool x_11)), (3, (.pointer (some ⟨g_7, 0, none⟩)))]) (fun g w' => y_12 = (g.1) ∧ Hp ⟨w0, I0, B⟩ I0 [(g.2), e_e, some (g_1, [v_a, v_b, v_d], 60), e_l, e_n, some (g_7, [v_i, v_j, v_k, v_m], 63)] w' ∧ RepS dNode_2 w' I0 v_a x_0.nodes ∧ OwnS (dI .i64) 3 w' I0 v_b (g.2) (g.1) ∧ OwnS dB 4 w' I0 v_d e_e x_0.active ∧ RepS (dI .i64) w' I0 v_i x_6.actions ∧ RepS dB w' I0 v_j x_6.tests ∧ OwnS (dI .i64) 3 w' I0 v_k e_l x_6.status ∧ OwnS (dI .i64) 3 w' I0 v_m e_n x_6.ticked) ?_ ?_
    ·
      apply go
      apply go
      apply go
      refine sel_of (fun hc => ?_) (fun hc => ?_)
      ·
        have q_13 := cond_t q_13 hc
        apply go
        refine ev0 (rn_field rfl rfl FO60_1) ?_
        refine ev (rn_load rfl rfl (run_loadVar1 T37 (hp.cell (i := 0) (off := 1) rfl rfl))) ?_
        obtain ⟨x_14, q_15, q_13⟩ := bind_some q_13
        refine ev_indexO rfl rfl rfl Tryd.underlying37 T3 o_g q_15 ?_
        intro g_16 c_17 h_18 d_19 l_1a
        refine ev_storeE hp (i := 1) rfl h_18 rfl rfl rfl T3 o_g q_15 (x0 := 0) rfl ?_
        intro e_1b w_1c hp hs o_1d
        replace r_f := r_f.step hs
        replace o_h := o_h.step hs
        replace r_o := r_o.step hs
        replace r_p := r_p.step hs
        replace o_q := o_q.step hs
        replace o_r := o_r.step hs
        obtain rfl := Option.some.inj q_13
        have hp := hp.perm [1, 2, 0, 4, 5, 3] (by decide)
        exact ⟨((upd x_0.counters x_4 0), e_1b), (.c rfl (.c rfl (.c rfl (.c rfl .n)))), rfl, hp, r_f, o_1d, o_h, r_o, r_p, o_q, o_r⟩
      ·
        have q_13 := cond_f q_13 hc
        apply go
        obtain rfl := Option.some.inj q_13
        have hp := hp.perm [1, 2, 0, 4, 5, 3] (by decide)
        exact ⟨(x_0.counters, e_c), (.c rfl (.c rfl (.c rfl (.c rfl .n)))), rfl, hp, r_f, o_g, o_h, r_o, r_p, o_q, o_r⟩
    ·
      rintro ⟨x_1e, e_1f⟩ w_1g ⟨hy, hp, r_f, o_1h, o_h, r_o, r_p, o_q, o_r⟩
      replace hy := hy.symm
      subst hy
      obtain ⟨y_1i, q_1j, h⟩ := bind_some h
      refine W.cut (γ := ((List Bool) × Ent)) (fun g => [(0, (.pointer (some ⟨g_1, 0, none⟩))), (1, (.int .i64 x_4)), (2, (.bool x_11)), (3, (.pointer (some ⟨g_7, 0, none⟩)))]) (fun g w' => y_1i = (g.1) ∧ Hp ⟨w0, I0, B⟩ I0 [e_1f, (g.2), some (g_1, [v_a, v_b, v_d], 60), e_l, e_n, some (g_7, [v_i, v_j, v_k, v_m], 63)] w' ∧ RepS dNode_2 w' I0 v_a x_0.nodes ∧ OwnS (dI .i64) 3 w' I0 v_b e_1f x_1e ∧ OwnS dB 4 w' I0 v_d (g.2) (g.1) ∧ RepS (dI .i64) w' I0 v_i x_6.actions ∧ RepS dB w' I0 v_j x_6.tests ∧ OwnS (dI .i64) 3 w' I0 v_k e_l x_6.status ∧ OwnS (dI .i64) 3 w' I0 v_m e_n x_6.ticked) ?_ ?_
      ·
        have hs := hp.stp (Ch.drew [] w_1g)
        have hp := hp.drew
        replace r_f := r_f.step hs
        replace o_1h := o_1h.step hs
        replace o_h := o_h.step hs
        replace r_o := r_o.step hs
        replace r_p := r_p.step hs
        replace o_q := o_q.step hs
        replace o_r := o_r.step hs
        refine W.heldT [(0, true), (1, true), (2, true), (3, true), (4, true), (5, true), (6, true), (7, true), (8, true), (9, true), (10, true), (11, true), (12, true), (13, true), (14, true), (15, true), (16, true), (17, true), (18, false)] (fun x => Stp I0 w_1g.drew I0 x ∧ OwnK [(g_1, [v_a, v_b, v_d], 60)] x) MX (by kernel_rfl) ⟨Stp.refl _ _, (OwnK.cons (hp.own 2 _ _ _ rfl).1 OwnK.nil)⟩ ?_
        have hz := Stp.refl I0 w_1g.drew
        intro ops hops
        have e0 : nthO ops 0 = some _ := (hops 0).trans rfl
        have e1 : nthO ops 1 = some _ := (hops 1).trans rfl
        have e2 : nthO ops 2 = some _ := (hops 2).trans rfl
        have e3 : nthO ops 3 = some _ := (hops 3).trans rfl
        have e4 : nthO ops 4 = some _ := (hops 4).trans rfl
        have e5 : nthO ops 5 = some _ := (hops 5).trans rfl
        have e6 : nthO ops 6 = some _ := (hops 6).trans rfl
        have e7 : nthO ops 7 = some _ := (hops 7).trans rfl
        have e8 : nthO ops 8 = some _ := (hops 8).trans rfl
        have e9 : nthO ops 9 = some _ := (hops 9).trans rfl
        have e10 : nthO ops 10 = some _ := (hops 10).trans rfl
        have e11 : nthO ops 11 = some _ := (hops 11).trans rfl
        have e12 : nthO ops 12 = some _ := (hops 12).trans rfl
        have e13 : nthO ops 13 = some _ := (hops 13).trans rfl
        have e14 : nthO ops 14 = some _ := (hops 14).trans rfl
        have e15 : nthO ops 15 = some _ := (hops 15).trans rfl
        have e16 : nthO ops 16 = some _ := (hops 16).trans rfl
        have e17 : nthO ops 17 = some _ := (hops 17).trans rfl
        have e18 : nthO ops 18 = some _ := (hops 18).trans rfl
        clear hops
        refine vch_q e0 rfl ?_
        refine vch_q e1 rfl ?_
        refine vch_q e2 rfl ?_
        refine evh0 (rn_field rfl rfl FO60_2) ?_
        refine vch_q e3 rfl ?_
        refine evh (fun w' hw => rn_load rfl rfl (run_loadVar1 T58 (hw.2.cell (i := 0) (off := 2) rfl rfl))) ?_
        refine vch_q e4 rfl ?_
        refine vch_q e5 rfl ?_
        refine vch_q e6 rfl ?_
        rcases Bool.eq_false_or_eq_true x_11 with hc | hc
        ·
          have q_1j := cond_t q_1j hc
          refine vch_qt e7 rfl e6 rfl rfl hc ?_
          refine vch_qt e8 rfl e6 rfl rfl rfl ?_
          refine vch_qt e9 rfl e6 rfl rfl rfl ?_
          refine evh0 (rn_field rfl rfl FO60_0) ?_
          refine vch_qt e10 rfl e6 rfl rfl rfl ?_
          refine evh (fun w' hw => rn_load rfl rfl (run_loadVar1 T57 (hw.2.cell (i := 0) (off := 0) rfl rfl))) ?_
          refine vch_qt e11 rfl e6 rfl rfl rfl ?_
          refine vch_qt e12 rfl e6 rfl rfl rfl ?_
          obtain ⟨x_1k, q_1l, q_1j⟩ := bind_some q_1j
          refine evh_index rfl rfl rfl Tryd.underlying57 T68 r_f q_1l ?_
          intro p_1m c_1n d_1o a_1p
          obtain ⟨v_1q, rfl, r_1r⟩ := dNode_2_o d_1o
          refine vch_qt e13 rfl e6 rfl rfl rfl ?_
          refine evh0 (rn_field rfl rfl FO68_0) ?_
          refine vch_qt e14 rfl e6 rfl rfl rfl ?_
          refine evh (fun w' hw => rn_load rfl rfl (run_loadVar1 T3 ((a_1p.step hw.1).2 0 _ rfl))) ?_
          refine vch_qt e15 rfl e6 rfl rfl rfl ?_
          refine vch_q e16 rfl ?_
          refine vch_q e17 rfl ?_
          obtain ⟨x_1s, q_1t, q_1j⟩ := bind_some q_1j
          refine evh_indexO rfl rfl rfl Tryd.underlying58 T4 o_h q_1t ?_
          intro g_1u c_1v h_1w d_1x l_1y
          refine vch_l e18 rfl ?_
          refine ev_storeE hp (i := 1) rfl h_1w rfl rfl rfl T4 o_h q_1t (x0 := (x_1k.kind == 1)) rfl ?_
          intro e_1z w_20 hp hs o_21
          replace hz := hz.trans hs
          replace r_f := r_f.step hs
          replace o_1h := o_1h.step hs
          replace r_o := r_o.step hs
          replace r_p := r_p.step hs
          replace o_q := o_q.step hs
          replace o_r := o_r.step hs
          refine ⟨fun x => Stp I0 w_20 I0 x ∧ OwnK [(g_1, [v_a, v_b, v_d], 60)] x, ⟨Stp.refl _ _, (OwnK.cons (hp.own 2 _ _ _ rfl).1 OwnK.nil)⟩, fun x hx => ⟨hz.held hx.1, hx.2⟩, ?_⟩
          have hz := Stp.refl I0 w_20
          refine vch_end ?_
          obtain rfl := Option.some.inj q_1j
          exact ⟨((upd x_0.active x_4 (x_1k.kind == 1)), e_1z), (.c rfl (.c rfl (.c rfl (.c rfl .n)))), rfl, hp, r_f, o_1h, o_21, r_o, r_p, o_q, o_r⟩
        ·
          have q_1j := cond_f q_1j hc
          refine vch_qf e7 rfl e6 rfl rfl hc ?_
          refine vch_qf e8 rfl e6 rfl rfl rfl ?_
          refine vch_qf e9 rfl e6 rfl rfl rfl ?_
          refine vch_qf e10 rfl e6 rfl rfl rfl ?_
          refine vch_qf e11 rfl e6 rfl rfl rfl ?_
          refine vch_qf e12 rfl e6 rfl rfl rfl ?_
          refine vch_qf e13 rfl e6 rfl rfl rfl ?_
          refine vch_qf e14 rfl e6 rfl rfl rfl ?_
          refine vch_qf e15 rfl e6 rfl rfl rfl ?_
          refine vch_q e16 rfl ?_
          refine vch_q e17 rfl ?_
          obtain ⟨x_22, q_23, q_1j⟩ := bind_some q_1j
          refine evh_indexO rfl rfl rfl Tryd.underlying58 T4 o_h q_23 ?_
          intro g_24 c_25 h_26 d_27 l_28
          refine vch_l e18 rfl ?_
          refine ev_storeE hp (i := 1) rfl h_26 rfl rfl rfl T4 o_h q_23 (x0 := false) rfl ?_
          intro e_29 w_2a hp hs o_2b
          replace hz := hz.trans hs
          replace r_f := r_f.step hs
          replace o_1h := o_1h.step hs
          replace r_o := r_o.step hs
          replace r_p := r_p.step hs
          replace o_q := o_q.step hs
          replace o_r := o_r.step hs
          refine ⟨fun x => Stp I0 w_2a I0 x ∧ OwnK [(g_1, [v_a, v_b, v_d], 60)] x, ⟨Stp.refl _ _, (OwnK.cons (hp.own 2 _ _ _ rfl).1 OwnK.nil)⟩, fun x hx => ⟨hz.held hx.1, hx.2⟩, ?_⟩
          have hz := Stp.refl I0 w_2a
          refine vch_end ?_
          obtain rfl := Option.some.inj q_1j
          exact ⟨((upd x_0.active x_4 false), e_29), (.c rfl (.c rfl (.c rfl (.c rfl .n)))), rfl, hp, r_f, o_1h, o_2b, r_o, r_p, o_q, o_r⟩
      ·
        rintro ⟨x_2c, e_2d⟩ w_2e ⟨hy, hp, r_f, o_1h, o_2f, r_o, r_p, o_q, o_r⟩
        replace hy := hy.symm
        subst hy
        apply go
        apply go
        refine ev0 (rn_field rfl rfl FO60_0) ?_
        refine ev (rn_load rfl rfl (run_loadVar1 T57 (hp.cell (i := 2) (off := 0) rfl rfl))) ?_
        obtain ⟨x_2g, q_2h, h⟩ := bind_some h
        refine ev_index rfl rfl rfl Tryd.underlying57 T68 r_f q_2h ?_
        intro p_2i c_2j d_2k a_2l
        obtain ⟨v_2m, rfl, r_2n⟩ := dNode_2_o d_2k
        refine ev0 (rn_field rfl rfl FO68_3) ?_
        refine ev (rn_load rfl rfl (run_loadVar1 T37 (a_2l.2 3 _ rfl))) ?_
        refine ev0 (rn_len rfl rfl Tryd.underlying37 r_2n) ?_
        apply go
        refine W.loop h (γ := (Value × Value × Ent × Value × Ent × Value × Value × Value × Ent × Value × Ent × (Nat → Prop))) (fun s g => [(0, (.pointer (some ⟨g_1, 0, none⟩))), (2, (.bool x_11)), (3, (.pointer (some ⟨g_7, 0, none⟩))), (54, v_2m), (55, (.int .i64 (x_2g.kids.length : Int))), (56, (.int .i64 (s.2.2.2.2.2.2.2)))]) (fun s g w' => Hp ⟨w0, I0, B⟩ (g.2.2.2.2.2.2.2.2.2.2.2) [(g.2.2.1), (g.2.2.2.2.1), some (g_1, [(g.1), (g.2.1), (g.2.2.2.1)], 60), (g.2.2.2.2.2.2.2.2.1), (g.2.2.2.2.2.2.2.2.2.2.1), some (g_7, [(g.2.2.2.2.2.1), (g.2.2.2.2.2.2.1), (g.2.2.2.2.2.2.2.1), (g.2.2.2.2.2.2.2.2.2.1)], 63)] w' ∧ RepS dNode_2 w' (g.2.2.2.2.2.2.2.2.2.2.2) (g.1) (s.1) ∧ OwnS (dI .i64) 3 w' (g.2.2.2.2.2.2.2.2.2.2.2) (g.2.1) (g.2.2.1) (s.2.1) ∧ OwnS dB 4 w' (g.2.2.2.2.2.2.2.2.2.2.2) (g.2.2.2.1) (g.2.2.2.2.1) (s.2.2.1) ∧ RepS (dI .i64) w' (g.2.2.2.2.2.2.2.2.2.2.2) (g.2.2.2.2.2.1) (s.2.2.2.1) ∧ RepS dB w' (g.2.2.2.2.2.2.2.2.2.2.2) (g.2.2.2.2.2.2.1) (s.2.2.2.2.1) ∧ OwnS (dI .i64) 3 w' (g.2.2.2.2.2.2.2.2.2.2.2) (g.2.2.2.2.2.2.2.1) (g.2.2.2.2.2.2.2.2.1) (s.2.2.2.2.2.1) ∧ OwnS (dI .i64) 3 w' (g.2.2.2.2.2.2.2.2.2.2.2) (g.2.2.2.2.2.2.2.2.2.1) (g.2.2.2.2.2.2.2.2.2.2.1) (s.2.2.2.2.2.2.1) ∧ RepS (dI .i64) w' (g.2.2.2.2.2.2.2.2.2.2.2) v_2m x_2g.kids) (v_a, v_b, e_1f, v_d, e_2d, v_i, v_j, v_k, e_l, v_m, e_n, I0) (.c rfl (.c rfl (.c rfl (.c rfl (.c rfl (.c rfl .n)))))) ⟨hp, r_f, o_1h, o_2f, r_o, r_p, o_q, o_r, r_2n⟩ ?_
        rintro ⟨x_2o, x_2p, x_2q, x_2r, x_2s, x_2t, x_2u, x_2v⟩ ⟨v_2w, v_2x, e_2y, v_2z, e_30, v_31, v_32, v_33, e_34, v_35, e_36, I_37⟩ w_38 y_39 ⟨hp, r_3a, o_3b, o_3c, r_3d, r_3e, o_3f, o_3g, r_2n⟩ q_3h q_3i
        unfold tree_Runner_settle_L0 at q_3h
        apply go
        apply go
        apply go
        apply go
        refine sel_of (fun hc => ?_) (fun hc => ?_)
        ·
          have q_3h := cond_t q_3h hc
          apply go
          apply go
          apply go
          apply go
          apply go
          obtain ⟨x_3j, q_3k, q_3h⟩ := bind_some q_3h
          refine ev_index rfl rfl rfl Tryd.underlying37 T3 r_2n q_3k ?_
          intro p_3l c_3m d_3n a_3o
          obtain rfl : c_3m = [(.int .i64 x_3j)] := d_3n
          refine ev (rn_load rfl rfl (run_loadVar1 T3 (a_3o.2 0 _ rfl))) ?_
          apply go
          obtain ⟨⟨x_3p, x_3q⟩, q_3r, q_3h⟩ := bind_some q_3h
          refine ev_call rfl rfl C29 ((ih _ _  (Runner.mk x_2o x_2p x_2q) g_1 [some (g_1, [v_2w, v_2x, v_2z], 60), e_2y, e_30] ⟨v_2w, v_2x, e_2y, v_2z, e_30, rfl, r_3a, o_3b, o_3c⟩ x_3j x_11 (Tick.mk x_2r x_2s x_2t x_2u) g_7 [some (g_7, [v_31, v_32, v_33, v_35], 63), e_34, e_36] ⟨v_31, v_32, v_33, e_34, v_35, e_36, rfl, r_3d, r_3e, o_3f, o_3g⟩ (hp.lendL [2, 0, 1, 5, 3, 4] (by decide)) _ q_3r).mono ?_)
          rintro _ w_3s ⟨I_3t, F_3u, F_3v, hv, hq2829, q_3w, q_3x⟩
          replace hv := hv.symm
          subst hv
          obtain ⟨v_3y, v_3z, e_40, v_41, e_42, rfl, r_43, o_44, o_45⟩ := q_3w
          obtain ⟨v_46, v_47, v_48, e_49, v_4a, e_4b, rfl, r_4c, r_4d, o_4e, o_4f⟩ := q_3x
          have hs := hq2829.st
          have hp := hp.backL [2, 0, 1, 5, 3, 4] [] (by decide) hq2829
          replace r_2n := r_2n.step hs
          apply go
          have hp := hp.perm [1, 2, 0, 4, 5, 3] (by decide)
          exact ⟨_, (Option.some.inj q_3h).symm, (v_3y, v_3z, e_40, v_41, e_42, v_46, v_47, v_48, e_49, v_4a, e_4b, I_3t), (.c rfl (.c rfl (.c rfl (.c rfl (.c rfl (.c rfl .n)))))), ⟨hp, r_43, o_44, o_45, r_4c, r_4d, o_4e, o_4f, r_2n⟩⟩
        ·
          have q_3h := cond_f q_3h hc
          apply go
          have q_4g := congrArg some (q_3i _ (Option.some.inj q_3h).symm)
          obtain rfl := Option.some.inj q_4g
          have hp := hp.perm [2, 0, 1, 5, 3, 4] (by decide)
          exact ⟨I_37, [some (g_1, [v_2w, v_2x, v_2z], 60), e_2y, e_30], [some (g_7, [v_31, v_32, v_33, v_35], 63), e_34, e_36], rfl, hp, ⟨v_2w, v_2x, e_2y, v_2z, e_30, rfl, r_3a, o_3b, o_3c⟩, ⟨v_31, v_32, v_33, e_34, v_35, e_36, rfl, r_3d, r_3e, o_3f, o_3g⟩⟩
theorem tree_Runner_settle_ok : ∀ n, tree_Runner_settle_S (tree_Runner_settle n)
  | 0 => by intro w0 I0 x_0 g_1 E_2 q_3 x_4 x_5 x_6 g_7 E_8 q_9 hp r h; cases h
  | n + 1 => tree_Runner_settle_F_ok n _ (tree_Runner_settle_ok n)

end Go.Proofs.YtknnmbcaoekgmaaDoor

namespace Go.Proofs.YtknnmbcaoekgmaaDoor
open Go Go.Proofs.YtknnmbcaoekgmaaDoor.Gw Go.RowKit
set_option linter.unusedVariables false
attribute [local irreducible] Ev EvQ EvS EvH
def tree_Runner_Tick_S (f : Runner → (List Int) → (List Bool) → Option (Int × (List Int) × (List Int) × Runner)) : Prop := ∀ (w0 : World) (I0 : Nat → Prop) (x_0 : Runner) (g_1 : Nat) (E_2 : List Ent) (q_3 : qR w0 I0 g_1 E_2 x_0) (x_4 : (List Int)) (v_5 : Value) (r_6 : RepS (dI .i64) w0 I0 v_5 x_4) (x_7 : (List Bool)) (v_8 : Value) (r_9 : RepS dB w0 I0 v_8 x_7) (hp : Hp ⟨w0, I0, blks E_2⟩ I0 E_2 w0) (r : (Int × (List Int) × (List Int) × Runner)), f x_0 x_4 x_7 = some r →
    Ret Tryd.prog 15 #[(.pointer (some ⟨g_1, 0, none⟩)), v_5, v_8] w0 fun v w1 => ∃ (I1 : Nat → Prop) (u_a : Value) (u_b : Value) (u_c : List Ent), v = (.tuple #[(.int .i64 r.1), u_a, u_b]) ∧ Hp ⟨w0, I0, blks E_2⟩ I1 u_c w1 ∧ RepS (dI .i64) w1 I1 u_a r.2.1 ∧ RepS (dI .i64) w1 I1 u_b r.2.2.1 ∧ qR w1 I1 g_1 u_c r.2.2.2
theorem tree_Runner_Tick_ok (n : Nat) : tree_Runner_Tick_S (tree_Runner_Tick n) := by
  intro w0 I0 x_0 g_1 E_2 q_3 x_4 v_5 r_6 x_7 v_8 r_9 hp r h
  unfold tree_Runner_Tick at h
  refine enter Tryd.func15 rfl (Nat.le_of_ble_eq_true rfl) ?_
  generalize blks E_2 = B at hp ⊢
  obtain ⟨v_a, v_b, e_c, v_d, e_e, rfl, r_f, o_g, o_h⟩ := q_3
  have hp : Hp ⟨w0, I0, B⟩ I0 [some (g_1, [v_a, v_b, v_d], 60), e_c, e_e] w0 := hp
  apply go
  apply go
  apply go
  apply go
  apply go
  refine ev0 (rn_eqNilP rfl rfl rfl Tryd.underlying33 (b := false) rfl) ?_
  apply go
  apply go
  apply go
  apply go
  refine ev0 (rn_field rfl rfl FO60_0) ?_
  refine ev (rn_load rfl rfl (run_loadVar1 T57 (hp.cell (i := 0) (off := 0) rfl rfl))) ?_
  refine ev0 (rn_len rfl rfl Tryd.underlying57 r_f) ?_
  obtain ⟨x_i, q_j, h⟩ := bind_some h
  refine ev_make (d := (dI .i64)) (x0 := 0) hp rfl rfl rfl Tryd.underlying37 T3 (fun _ _ => rfl) (Nat.le_of_ble_eq_true rfl) q_j ?_
  intro v_k e_l w_m hp hs o_n
  replace r_6 := r_6.step hs
  replace r_9 := r_9.step hs
  replace r_f := r_f.step hs
  replace o_g := o_g.step hs
  replace o_h := o_h.step hs
  obtain ⟨A_o, m_p, m_q, rfl⟩ := r_6.isSl
  obtain ⟨A_r, m_s, m_t, rfl⟩ := r_9.isSl
  obtain ⟨A_u, m_v, m_w, rfl⟩ := o_n.isSl
  refine ev0 (fun w => rn_build (cs := [(.slice A_o m_p m_q), (.slice A_r m_s m_t), (.slice A_u m_v m_w), (.slice none 0 0)]) rfl rfl T63 PL63 rfl) ?_
  refine ev_box hp rfl rfl ?_
  intro g_x w_y hp hs
  replace r_6 := r_6.step hs
  replace r_9 := r_9.step hs
  replace o_n := o_n.step hs
  replace r_f := r_f.step hs
  replace o_g := o_g.step hs
  replace o_h := o_h.step hs
  apply go
  apply go
  have hp := hp.none_
  have o_z := OwnS.nil (dI .i64) 3 w_y I0
  obtain ⟨⟨x_10, x_11, x_12⟩, q_13, h⟩ := bind_some h
  refine ev_call rfl rfl C27 (((tree_Runner_run_ok n) _ _  (Runner.mk x_0.nodes x_0.counters x_0.active) g_1 [some (g_1, [v_a, v_b, v_d], 60), e_c, e_e] ⟨v_a, v_b, e_c, v_d, e_e, rfl, r_f, o_g, o_h⟩ 0 (Tick.mk x_4 x_7 x_i []) g_x [some (g_x, [(.slice A_o m_p m_q), (.slice A_r m_s m_t), (.slice A_u m_v m_w), (.slice none 0 0)], 63), e_l, none] ⟨(.slice A_o m_p m_q), (.slice A_r m_s m_t), (.slice A_u m_v m_w), e_l, (.slice none 0 0), none, rfl, r_6, r_9, o_n, o_z⟩ (hp.lendL [3, 4, 5, 1, 2, 0] (by decide)) _ q_13).mono ?_)
  rintro _ w_14 ⟨I_15, F_16, F_17, hv, hq2901, q_18, q_19⟩
  replace hv := hv.symm
  subst hv
  obtain ⟨v_1a, v_1b, e_1c, v_1d, e_1e, rfl, r_1f, o_1g, o_1h⟩ := q_18
  obtain ⟨v_1i, v_1j, v_1k, e_1l, v_1m, e_1n, rfl, r_1o, r_1p, o_1q, o_1r⟩ := q_19
  have hs := hq2901.st
  have hp := hp.backL [3, 4, 5, 1, 2, 0] [] (by decide) hq2901
  apply go
  apply go
  refine ev0 (rn_field rfl rfl FO60_2) ?_
  refine ev (rn_load rfl rfl (run_loadVar1 T58 (hp.cell (i := 0) (off := 2) rfl rfl))) ?_
  obtain ⟨⟨x_1s, x_1t⟩, q_1u, h⟩ := bind_some h
  refine ev_call rfl rfl C28 (((slices_Clonebool_bool__ok n) _ _  x_11.active v_1d e_1e o_1h (hp.lendL [2] (by decide)) _ q_1u).mono ?_)
  rintro _ w_1v ⟨I_1w, v_1x, e_1y, e_1z, hv, hq2930, o_20, o_21⟩
  replace hv := hv.symm
  subst hv
  have hs := hq2930.st
  have hp := hp.backL [2] [0, 1, 3, 4, 5] (by decide) hq2930
  replace r_1f := r_1f.step hs
  replace o_1g := o_1g.step hs
  replace r_1o := r_1o.step hs
  replace r_1p := r_1p.step hs
  replace o_1q := o_1q.step hs
  replace o_1r := o_1r.step hs
  apply go
  apply go
  obtain ⟨⟨x_22, x_23⟩, q_24, h⟩ := bind_some h
  refine ev_call rfl rfl C29 (((tree_Runner_settle_ok n) _ _  (Runner.mk x_11.nodes x_11.counters x_1t) g_1 [some (g_1, [v_1a, v_1b, v_1d], 60), e_1c, e_1z] ⟨v_1a, v_1b, e_1c, v_1d, e_1z, rfl, r_1f, o_1g, o_21⟩ 0 true (Tick.mk x_12.actions x_12.tests x_12.status x_12.ticked) g_x [some (g_x, [v_1i, v_1j, v_1k, v_1m], 63), e_1l, e_1n] ⟨v_1i, v_1j, v_1k, e_1l, v_1m, e_1n, rfl, r_1o, r_1p, o_1q, o_1r⟩ (hp.lendL [2, 3, 1, 4, 5, 6] (by decide)) _ q_24).mono ?_)
  rintro _ w_25 ⟨I_26, F_27, F_28, hv, hq2940, q_29, q_2a⟩
  replace hv := hv.symm
  subst hv
  obtain ⟨v_2b, v_2c, e_2d, v_2e, e_2f, rfl, r_2g, o_2h, o_2i⟩ := q_29
  obtain ⟨v_2j, v_2k, v_2l, e_2m, v_2n, e_2o, rfl, r_2p, r_2q, o_2r, o_2s⟩ := q_2a
  have hs := hq2940.st
  have hp := hp.backL [2, 3, 1, 4, 5, 6] [0] (by decide) hq2940
  replace o_20 := o_20.step hs
  apply go
  apply go
  obtain ⟨y_2t, q_2u, h⟩ := bind_some h
  refine W.cut (γ := ((List Int) × Value × Ent × (Nat → Prop))) (fun g => [(9, (.pointer (some ⟨g_x, 0, none⟩))), (10, (.int .i64 x_10)), (12, (g.2.1))]) (fun g w' => y_2t = (g.1) ∧ Hp ⟨w0, I0, B⟩ (g.2.2.2) [e_2m, e_2o, some (g_x, [v_2j, v_2k, v_2l, v_2n], 63), (g.2.2.1), e_2d, e_2f, some (g_1, [v_2b, v_2c, v_2e], 60)] w' ∧ RepS (dI .i64) w' (g.2.2.2) v_2j x_23.actions ∧ RepS dB w' (g.2.2.2) v_2k x_23.tests ∧ OwnS (dI .i64) 3 w' (g.2.2.2) v_2l e_2m x_23.status ∧ OwnS (dI .i64) 3 w' (g.2.2.2) v_2n e_2o x_23.ticked ∧ OwnS (dI .i64) 3 w' (g.2.2.2) (g.2.1) (g.2.2.1) (g.1) ∧ RepS dNode_2 w' (g.2.2.2) v_2b x_22.nodes ∧ OwnS (dI .i64) 3 w' (g.2.2.2) v_2c e_2d x_22.counters ∧ OwnS dB 4 w' (g.2.2.2) v_2e e_2f x_22.active) ?_ ?_
  ·
    apply go
    apply go
    refine ev0 (rn_field rfl rfl FO60_0) ?_
    refine ev (rn_load rfl rfl (run_loadVar1 T57 (hp.cell (i := 0) (off := 0) rfl rfl))) ?_
    refine ev0 (rn_len rfl rfl Tryd.underlying57 r_2g) ?_
    apply go
    have hp := hp.none_
    have o_2v := OwnS.nil (dI .i64) 3 w_25 I_26
    have hp := hp.perm [2, 3, 1, 5, 6, 4, 7, 0] (by decide)
    refine W.loop q_2u (γ := (Value × Ent × (Nat → Prop))) (fun s g => [(0, (.pointer (some ⟨g_1, 0, none⟩))), (9, (.pointer (some ⟨g_x, 0, none⟩))), (10, (.int .i64 x_10)), (11, v_1x), (12, (g.1)), (41, v_2b), (42, (.int .i64 (x_22.nodes.length : Int))), (43, (.int .i64 (s.2)))]) (fun s g w' => Hp ⟨w0, I0, B⟩ (g.2.2) [e_2d, e_2f, some (g_1, [v_2b, v_2c, v_2e], 60), e_2m, e_2o, some (g_x, [v_2j, v_2k, v_2l, v_2n], 63), e_1y, (g.2.1)] w' ∧ RepS dNode_2 w' (g.2.2) v_2b x_22.nodes ∧ OwnS (dI .i64) 3 w' (g.2.2) v_2c e_2d x_22.counters ∧ OwnS dB 4 w' (g.2.2) v_2e e_2f x_22.active ∧ RepS (dI .i64) w' (g.2.2) v_2j x_23.actions ∧ RepS dB w' (g.2.2) v_2k x_23.tests ∧ OwnS (dI .i64) 3 w' (g.2.2) v_2l e_2m x_23.status ∧ OwnS (dI .i64) 3 w' (g.2.2) v_2n e_2o x_23.ticked ∧ OwnS dB 4 w' (g.2.2) v_1x e_1y x_1s ∧ OwnS (dI .i64) 3 w' (g.2.2) (g.1) (g.2.1) (s.1)) ((.slice none 0 0), none, I_26) (.c rfl (.c rfl (.c rfl (.c rfl (.c rfl (.c rfl (.c rfl (.c rfl .n)))))))) ⟨hp, r_2g, o_2h, o_2i, r_2p, r_2q, o_2r, o_2s, o_20, o_2v⟩ ?_
    rintro ⟨x_2w, x_2x⟩ ⟨v_2y, e_2z, I_30⟩ w_31 y_32 ⟨hp, r_2g, o_2h, o_2i, r_2p, r_2q, o_2r, o_2s, o_20, o_33⟩ q_34 q_35
    unfold tree_Runner_Tick_L1 at q_34
    apply go
    apply go
    apply go
    apply go
    refine sel_of (fun hc => ?_) (fun hc => ?_)
    ·
      have q_34 := cond_t q_34 hc
      apply go
      obtain ⟨y_36, q_37, q_34⟩ := bind_some q_34
      refine W.cut (γ := ((List Int) × Value × Ent × (Nat → Prop))) (fun g => [(0, (.pointer (some ⟨g_1, 0, none⟩))), (9, (.pointer (some ⟨g_x, 0, none⟩))), (10, (.int .i64 x_10)), (11, v_1x), (12, (g.2.1)), (41, v_2b), (42, (.int .i64 (x_22.nodes.length : Int))), (43, (.int .i64 x_2x))]) (fun g w' => y_36 = (g.1) ∧ Hp ⟨w0, I0, B⟩ (g.2.2.2) [e_2d, e_2f, some (g_1, [v_2b, v_2c, v_2e], 60), e_2m, e_2o, some (g_x, [v_2j, v_2k, v_2l, v_2n], 63), e_1y, (g.2.2.1)] w' ∧ RepS dNode_2 w' (g.2.2.2) v_2b x_22.nodes ∧ OwnS (dI .i64) 3 w' (g.2.2.2) v_2c e_2d x_22.counters ∧ OwnS dB 4 w' (g.2.2.2) v_2e e_2f x_22.active ∧ RepS (dI .i64) w' (g.2.2.2) v_2j x_23.actions ∧ RepS dB w' (g.2.2.2) v_2k x_23.tests ∧ OwnS (dI .i64) 3 w' (g.2.2.2) v_2l e_2m x_23.status ∧ OwnS (dI .i64) 3 w' (g.2.2.2) v_2n e_2o x_23.ticked ∧ OwnS dB 4 w' (g.2.2.2) v_1x e_1y x_1s ∧ OwnS (dI .i64) 3 w' (g.2.2.2) (g.2.1) (g.2.2.1) (g.1)) ?_ ?_
      ·
        apply go
        apply go
        apply go
        obtain ⟨x_38, q_39, q_37⟩ := bind_some q_37
        refine ev_index rfl rfl rfl Tryd.underlying57 T68 r_2g q_39 ?_
        intro p_3a c_3b d_3c a_3d
        obtain ⟨v_3e, rfl, r_3f⟩ := dNode_2_o d_3c
        refine ev (rn_load rfl rfl (run_loadVarA T68 rfl a_3d)) ?_
        refine ev_alloc hp rfl T68 ?_
        intro g_3g w_3h hp hs
        replace o_20 := o_20.step hs
        replace o_33 := o_33.step hs
        replace r_2g := r_2g.step hs
        replace r_3f := r_3f.step hs
        replace o_2h := o_2h.step hs
        replace o_2i := o_2i.step hs
        replace r_2p := r_2p.step hs
        replace r_2q := r_2q.step hs
        replace o_2r := o_2r.step hs
        replace o_2s := o_2s.step hs
        refine ev_storeA hp (i := 0) (off := 0) (vs := [(.int .i64 x_38.kind), (.int .i64 x_38.name), (.int .i64 x_38.count), v_3e]) rfl rfl rfl rfl T68 rfl (Nat.le_of_ble_eq_true rfl) (ones_cons rfl (ones_cons rfl (ones_cons rfl (ones_cons r_3f.one ones_nil)))) ?_
        intro w_3i hp hs
        replace o_20 := o_20.step hs
        replace o_33 := o_33.step hs
        replace r_2g := r_2g.step hs
        replace r_3f := r_3f.step hs
        replace o_2h := o_2h.step hs
        replace o_2i := o_2i.step hs
        replace r_2p := r_2p.step hs
        replace r_2q := r_2q.step hs
        replace o_2r := o_2r.step hs
        replace o_2s := o_2s.step hs
        apply go
        apply go
        apply go
        refine ev0 (rn_field rfl rfl FO68_0) ?_
        refine ev (rn_load rfl rfl (run_loadVar1 T3 (hp.cell (i := 0) (off := 0) rfl rfl))) ?_
        apply go
        refine sel_of (fun hc => ?_) (fun hc => ?_)
        ·
          have q_37 := cond_t q_37 hc
          apply go
          obtain rfl := Option.some.inj q_37
          have hp := hp.sel [1, 2, 3, 4, 5, 6, 7, 8] (by decide)
          exact ⟨(x_2w, v_2y, e_2z, I_30), (.c rfl (.c rfl (.c rfl (.c rfl (.c rfl (.c rfl (.c rfl (.c rfl .n)))))))), rfl, hp, r_2g, o_2h, o_2i, r_2p, r_2q, o_2r, o_2s, o_20, o_33⟩
        ·
          have q_37 := cond_f q_37 hc
          apply go
          obtain ⟨y_3j, q_3k, q_37⟩ := bind_some q_37
          refine W.cut (γ := Bool) (fun g => [(0, (.pointer (some ⟨g_1, 0, none⟩))), (9, (.pointer (some ⟨g_x, 0, none⟩))), (10, (.int .i64 x_10)), (11, v_1x), (12, v_2y), (13, (.int .i64 x_2x)), (41, v_2b), (42, (.int .i64 (x_22.nodes.length : Int))), (43, (.int .i64 x_2x)), (84, (.bool (g)))]) (fun g w' => y_3j = (g) ∧ w_3i = w') ?_ ?_
          ·
            apply go
            obtain ⟨x_3l, q_3m, q_3k⟩ := bind_some q_3k
            refine ev_indexO rfl rfl rfl Tryd.underlying58 T4 o_20 q_3m ?_
            intro g_3n c_3o h_3p d_3q l_3r
            refine ev (rn_load rfl rfl (run_loadVar1 T4 (hp.cellE (i := 7) rfl h_3p d_3q (j := 0) rfl))) ?_
            refine sel_of (fun hc => ?_) (fun hc => ?_)
            ·
              have q_3k := cond_t q_3k hc
              refine ev0 (rn_field rfl rfl FO63_2) ?_
              refine ev (rn_load rfl rfl (run_loadVar1 T37 (hp.cell (i := 6) (off := 2) rfl rfl))) ?_
              obtain ⟨x_3s, q_3t, q_3k⟩ := bind_some q_3k
              refine ev_indexO rfl rfl rfl Tryd.underlying37 T3 o_2r q_3t ?_
              intro g_3u c_3v h_3w d_3x l_3y
              refine ev (rn_load rfl rfl (run_loadVar1 T3 (hp.cellE (i := 4) rfl h_3w d_3x (j := 0) rfl))) ?_
              refine sel_of (fun hc => ?_) (fun hc => ?_)
              ·
                have q_3k := cond_t q_3k hc
                obtain rfl := Option.some.inj q_3k
                exact ⟨true, (.c rfl (.c rfl (.c rfl (.c rfl (.c rfl (.c rfl (.c rfl (.c rfl (.c rfl (.c rfl .n)))))))))), rfl, rfl⟩
              ·
                have q_3k := cond_f q_3k hc
                refine ev0 (rn_field rfl rfl FO63_2) ?_
                refine ev (rn_load rfl rfl (run_loadVar1 T37 (hp.cell (i := 6) (off := 2) rfl rfl))) ?_
                obtain ⟨x_3z, q_40, q_3k⟩ := bind_some q_3k
                refine ev_indexO rfl rfl rfl Tryd.underlying37 T3 o_2r q_40 ?_
                intro g_41 c_42 h_43 d_44 l_45
                refine ev (rn_load rfl rfl (run_loadVar1 T3 (hp.cellE (i := 4) rfl h_43 d_44 (j := 0) rfl))) ?_
                refine sel_of (fun hc => ?_) (fun hc => ?_)
                ·
                  have q_3k := cond_t q_3k hc
                  refine ev0 (rn_field rfl rfl FO60_2) ?_
                  refine ev (rn_load rfl rfl (run_loadVar1 T58 (hp.cell (i := 3) (off := 2) rfl rfl))) ?_
                  obtain ⟨x_46, q_47, q_3k⟩ := bind_some q_3k
                  refine ev_indexO rfl rfl rfl Tryd.underlying58 T4 o_2i q_47 ?_
                  intro g_48 c_49 h_4a d_4b l_4c
                  refine ev (rn_load rfl rfl (run_loadVar1 T4 (hp.cellE (i := 2) rfl h_4a d_4b (j := 0) rfl))) ?_
                  obtain rfl := Option.some.inj q_3k
                  exact ⟨(!x_46), (.c rfl (.c rfl (.c rfl (.c rfl (.c rfl (.c rfl (.c rfl (.c rfl (.c rfl (.c rfl .n)))))))))), rfl, rfl⟩
                ·
                  have q_3k := cond_f q_3k hc
                  obtain rfl := Option.some.inj q_3k
                  exact ⟨false, (.c rfl (.c rfl (.c rfl (.c rfl (.c rfl (.c rfl (.c rfl (.c rfl (.c rfl (.c rfl .n)))))))))), rfl, rfl⟩
            ·
              have q_3k := cond_f q_3k hc
              refine ev0 (rn_field rfl rfl FO63_2) ?_
              refine ev (rn_load rfl rfl (run_loadVar1 T37 (hp.cell (i := 6) (off := 2) rfl rfl))) ?_
              obtain ⟨x_4d, q_4e, q_3k⟩ := bind_some q_3k
              refine ev_indexO rfl rfl rfl Tryd.underlying37 T3 o_2r q_4e ?_
              intro g_4f c_4g h_4h d_4i l_4j
              refine ev (rn_load rfl rfl (run_loadVar1 T3 (hp.cellE (i := 4) rfl h_4h d_4i (j := 0) rfl))) ?_
              refine sel_of (fun hc => ?_) (fun hc => ?_)
              ·
                have q_3k := cond_t q_3k hc
                refine ev0 (rn_field rfl rfl FO60_2) ?_
                refine ev (rn_load rfl rfl (run_loadVar1 T58 (hp.cell (i := 3) (off := 2) rfl rfl))) ?_
                obtain ⟨x_4k, q_4l, q_3k⟩ := bind_some q_3k
                refine ev_indexO rfl rfl rfl Tryd.underlying58 T4 o_2i q_4l ?_
                intro g_4m c_4n h_4o d_4p l_4q
                refine ev (rn_load rfl rfl (run_loadVar1 T4 (hp.cellE (i := 2) rfl h_4o d_4p (j := 0) rfl))) ?_
                obtain rfl := Option.some.inj q_3k
                exact ⟨(!x_4k), (.c rfl (.c rfl (.c rfl (.c rfl (.c rfl (.c rfl (.c rfl (.c rfl (.c rfl (.c rfl .n)))))))))), rfl, rfl⟩
              ·
                have q_3k := cond_f q_3k hc
                obtain rfl := Option.some.inj q_3k
                exact ⟨false, (.c rfl (.c rfl (.c rfl (.c rfl (.c rfl (.c rfl (.c rfl (.c rfl (.c rfl (.c rfl .n)))))))))), rfl, rfl⟩
          ·
            rintro x_4r _ ⟨hy, rfl⟩
            replace hy := hy.symm
            subst hy
            apply go
            refine sel_of (fun hc => ?_) (fun hc => ?_)
            ·
              have q_37 := cond_t q_37 hc
              apply go
              refine ev_litN (d := (dI .i64)) (xs := [x_2x]) (cs := [(.int .i64 x_2x)]) hp rfl rfl Tryd.underlying37 T3 (by decide) rfl rfl (Elems.cons (d := (dI .i64)) (xs := _) rfl (Elems.nil _ _ _ _)) ?_
              intro v_4s I_4t w_4u hp hs r_4v
              replace o_20 := o_20.step hs
              replace r_2g := r_2g.step hs
              replace o_33 := o_33.step hs
              replace r_3f := r_3f.step hs
              replace o_2h := o_2h.step hs
              replace o_2i := o_2i.step hs
              replace r_2p := r_2p.step hs
              replace r_2q := r_2q.step hs
              replace o_2r := o_2r.step hs
              replace o_2s := o_2s.step hs
              obtain ⟨x_4w, q_4x, q_37⟩ := bind_some q_37
              refine ev_append hp (i := 8) rfl rfl rfl rfl Tryd.underlying37 T3 rfl rfl o_33 r_4v q_4x ?_
              rintro v_4y e_4z w_50 hp hs o_51
              replace o_20 := o_20.step hs
              replace r_2g := r_2g.step hs
              replace r_3f := r_3f.step hs
              replace o_2h := o_2h.step hs
              replace o_2i := o_2i.step hs
              replace r_2p := r_2p.step hs
              replace r_2q := r_2q.step hs
              replace o_2r := o_2r.step hs
              replace o_2s := o_2s.step hs
              obtain rfl := Option.some.inj q_37
              have hp := hp.sel [1, 2, 3, 4, 5, 6, 7, 8] (by decide)
              exact ⟨(x_4w, v_4y, e_4z, I_4t), (.c rfl (.c rfl (.c rfl (.c rfl (.c rfl (.c rfl (.c rfl (.c rfl .n)))))))), rfl, hp, r_2g, o_2h, o_2i, r_2p, r_2q, o_2r, o_2s, o_20, o_51⟩
            ·
              have q_37 := cond_f q_37 hc
              apply go
              obtain rfl := Option.some.inj q_37
              have hp := hp.sel [1, 2, 3, 4, 5, 6, 7, 8] (by decide)
              exact ⟨(x_2w, v_2y, e_2z, I_30), (.c rfl (.c rfl (.c rfl (.c rfl (.c rfl (.c rfl (.c rfl (.c rfl .n)))))))), rfl, hp, r_2g, o_2h, o_2i, r_2p, r_2q, o_2r, o_2s, o_20, o_33⟩
      ·
        rintro ⟨x_52, v_53, e_54, I_55⟩ w_56 ⟨hy, hp, r_2g, o_2h, o_2i, r_2p, r_2q, o_2r, o_2s, o_20, o_57⟩
        replace hy := hy.symm
        subst hy
        apply go
        exact ⟨_, (Option.some.inj q_34).symm, (v_53, e_54, I_55), (.c rfl (.c rfl (.c rfl (.c rfl (.c rfl (.c rfl (.c rfl (.c rfl .n)))))))), ⟨hp, r_2g, o_2h, o_2i, r_2p, r_2q, o_2r, o_2s, o_20, o_57⟩⟩
    ·
      have q_34 := cond_f q_34 hc
      apply go
      have q_58 := congrArg some (q_35 _ (Option.some.inj q_34).symm)
      obtain rfl := Option.some.inj q_58
      have hp := hp.perm [3, 4, 5, 7, 0, 1, 2] (by decide)
      exact ⟨(x_2w, v_2y, e_2z, I_30), (.c rfl (.c rfl (.c rfl .n))), rfl, hp, r_2p, r_2q, o_2r, o_2s, o_33, r_2g, o_2h, o_2i⟩
  ·
    rintro ⟨x_59, v_5a, e_5b, I_5c⟩ w_5d ⟨hy, hp, r_2p, r_2q, o_2r, o_2s, o_5e, r_2g, o_2h, o_2i⟩
    replace hy := hy.symm
    subst hy
    apply go
    refine W.quiet (fun w' => Ch [] w_5d w') MX (by kernel_rfl) (Ch.drew [] w_5d) ?_
    refine evq0 (rn_field rfl rfl FO63_3) ?_
    refine evq (fun w' hw => rn_load rfl rfl (run_loadVar1 T37 ((hp.ext hw).cell (i := 2) (off := 3) rfl rfl))) ?_
    intro w_5f hc
    have hs := hp.stp hc
    replace hp := hp.ext hc
    replace o_2s := o_2s.step hs
    replace o_5e := o_5e.step hs
    replace r_2p := r_2p.step hs
    replace r_2q := r_2q.step hs
    replace o_2r := o_2r.step hs
    replace r_2g := r_2g.step hs
    replace o_2h := o_2h.step hs
    replace o_2i := o_2i.step hs
    apply go
    obtain rfl := Option.some.inj h
    have r_5g := o_2s.frz hp (i := 1) rfl
    obtain ⟨hp, hs⟩ := freeze_hp hp (i := 1) rfl
    replace o_5e := o_5e.step hs
    replace r_2p := r_2p.step hs
    replace r_2q := r_2q.step hs
    replace o_2r := o_2r.step hs
    replace r_2g := r_2g.step hs
    replace o_2h := o_2h.step hs
    replace o_2i := o_2i.step hs
    have hp := hp.sel [0, 2, 3, 4, 5, 6] (by decide)
    have r_5h := o_5e.frz hp (i := 2) rfl
    obtain ⟨hp, hs⟩ := freeze_hp hp (i := 2) rfl
    replace r_5g := r_5g.step hs
    replace r_2p := r_2p.step hs
    replace r_2q := r_2q.step hs
    replace o_2r := o_2r.step hs
    replace r_2g := r_2g.step hs
    replace o_2h := o_2h.step hs
    replace o_2i := o_2i.step hs
    have hp := hp.sel [0, 1, 3, 4, 5] (by decide)
    have hp := hp.perm [4, 2, 3] (by decide)
    exact ⟨(Ad (Ad I_5c e_2o) e_5b), v_2n, v_5a, [some (g_1, [v_2b, v_2c, v_2e], 60), e_2d, e_2f], rfl, hp, r_5g, r_5h, ⟨v_2b, v_2c, e_2d, v_2e, e_2f, rfl, r_2g, o_2h, o_2i⟩⟩

end Go.Proofs.YtknnmbcaoekgmaaDoor

namespace Go.Proofs.YtknnmbcaoekgmaaDoor
open Go Go.Proofs.YtknnmbcaoekgmaaDoor.Gw Go.RowKit
set_option linter.unusedVariables false
attribute [local irreducible] Ev EvQ EvS EvH
def base_Ints_S (f : (List Int) → (List Int) → Option Bool) : Prop := ∀ (w0 : World) (I0 : Nat → Prop) (x_0 : (List Int)) (v_1 : Value) (r_2 : RepS (dI .i64) w0 I0 v_1 x_0) (x_3 : (List Int)) (v_4 : Value) (r_5 : RepS (dI .i64) w0 I0 v_4 x_3) (hI : ∀ g, I0 g → g < w0.heap.size) (r : Bool), f x_0 x_3 = some r →
    Ret Tryd.prog 16 #[v_1, v_4] w0 fun v w1 => v = (.bool r) ∧ Ch [] w0 w1
theorem base_Ints_ok (n : Nat) : base_Ints_S (base_Ints n) := by
  intro w0 I0 x_0 v_1 r_2 x_3 v_4 r_5 hI r h
  unfold base_Ints at h
  refine enter Tryd.func16 rfl (Nat.le_of_ble_eq_true rfl) ?_
  have hp : Hp ⟨w0, I0, []⟩ I0 [] w0 := Hp.start hI
  apply go
  apply go
  apply go
  apply go
  apply go
  refine ev0 (rn_len rfl rfl Tryd.underlying37 r_2) ?_
  refine ev0 (rn_len rfl rfl Tryd.underlying37 r_5) ?_
  apply go
  refine sel_of (fun hc => ?_) (fun hc => ?_)
  ·
    have h := cond_t h hc
    apply go
    apply go
    apply go
    obtain rfl := Option.some.inj h
    exact ⟨rfl, hp.ch⟩
  ·
    have h := cond_f h hc
    apply go
    obtain ⟨y_6, q_7, h⟩ := bind_some h
    refine W.cut (γ := Unit) (fun _ => []) (fun _ w' => y_6 = .go () ∧ Hp ⟨w0, I0, []⟩ I0 [] w') ?_ ?_
    ·
      apply go
      apply go
      apply go
      refine W.loop q_7 (γ := Unit) (fun s _ => [(0, v_1), (1, v_4), (5, (.int .i64 (s)))]) (fun s _ w' => Hp ⟨w0, I0, []⟩ I0 [] w' ∧ RepS (dI .i64) w' I0 v_1 x_0 ∧ RepS (dI .i64) w' I0 v_4 x_3) () (.c rfl (.c rfl (.c rfl .n))) ⟨hp, r_2, r_5⟩ ?_
      rintro x_8 ⟨⟩ w_9 y_a ⟨hp, r_2, r_5⟩ q_b q_c
      unfold base_Ints_L1 at q_b
      apply go
      apply go
      apply go
      refine ev0 (rn_len rfl rfl Tryd.underlying37 r_2) ?_
      apply go
      refine sel_of (fun hc => ?_) (fun hc => ?_)
      ·
        have q_b := cond_t q_b hc
        apply go
        apply go
        apply go
        apply go
        refine W.quiet (fun w' => Ch [] w_9 w') MX (by kernel_rfl) (Ch.drew [] w_9) ?_
        obtain ⟨x_d, q_e, q_b⟩ := bind_some q_b
        refine evq_index rfl rfl rfl Tryd.underlying37 T3 r_2 q_e ?_
        intro p_f c_g d_h a_i
        obtain rfl : c_g = [(.int .i64 x_d)] := d_h
        refine evq (fun w' hw => rn_load rfl rfl (run_loadVar1 T3 ((a_i.step (hp.stp hw)).2 0 _ rfl))) ?_
        obtain ⟨x_j, q_k, q_b⟩ := bind_some q_b
        refine evq_index rfl rfl rfl Tryd.underlying37 T3 r_5 q_k ?_
        intro p_l c_m d_n a_o
        obtain rfl : c_m = [(.int .i64 x_j)] := d_n
        refine evq (fun w' hw => rn_load rfl rfl (run_loadVar1 T3 ((a_o.step (hp.stp hw)).2 0 _ rfl))) ?_
        intro w_p hc
        have hs := hp.stp hc
        replace hp := hp.ext hc
        replace r_2 := r_2.step hs
        replace r_5 := r_5.step hs
        apply go
        refine sel_of (fun hc => ?_) (fun hc => ?_)
        ·
          have q_b := cond_t q_b hc
          apply go
          apply go
          apply go
          have q_q := congrArg some (q_c _ (Option.some.inj q_b).symm)
          obtain rfl := Option.some.inj q_q
          obtain rfl := Option.some.inj h
          exact ⟨rfl, hp.ch⟩
        ·
          have q_b := cond_f q_b hc
          apply go
          apply go
          exact ⟨_, (Option.some.inj q_b).symm, (), (.c rfl (.c rfl (.c rfl .n))), ⟨hp, r_2, r_5⟩⟩
      ·
        have q_b := cond_f q_b hc
        apply go
        have q_r := congrArg some (q_c _ (Option.some.inj q_b).symm)
        obtain rfl := Option.some.inj q_r
        exact ⟨(), .n, rfl, hp⟩
    ·
      rintro ⟨⟩ w_s ⟨hy, hp⟩
      replace hy := hy.symm
      subst hy
      apply go
      apply go
      apply go
      obtain rfl := Option.some.inj h
      exact ⟨rfl, hp.ch⟩

end Go.Proofs.YtknnmbcaoekgmaaDoor

namespace Go.Proofs.YtknnmbcaoekgmaaDoor
open Go Go.Proofs.YtknnmbcaoekgmaaDoor.Gw Go.RowKit
set_option linter.unusedVariables false
attribute [local irreducible] Ev EvQ EvS EvH
def tree_Runner_Active_S (f : Runner → Option ((List Int) × Runner)) : Prop := ∀ (w0 : World) (I0 : Nat → Prop) (x_0 : Runner) (g_1 : Nat) (E_2 : List Ent) (q_3 : qR w0 I0 g_1 E_2 x_0) (hp : Hp ⟨w0, I0, blks E_2⟩ I0 E_2 w0) (r : ((List Int) × Runner)), f x_0 = some r →
    Ret Tryd.prog 17 #[(.pointer (some ⟨g_1, 0, none⟩))] w0 fun v w1 => ∃ (I1 : Nat → Prop) (u_4 : Value) (u_5 : List Ent), v = u_4 ∧ Hp ⟨w0, I0, blks E_2⟩ I1 u_5 w1 ∧ RepS (dI .i64) w1 I1 u_4 r.1 ∧ qR w1 I1 g_1 u_5 r.2
theorem tree_Runner_Active_ok (n : Nat) : tree_Runner_Active_S (tree_Runner_Active n) := by
  intro w0 I0 x_0 g_1 E_2 q_3 hp r h
  unfold tree_Runner_Active at h
  refine enter Tryd.func17 rfl (Nat.le_of_ble_eq_true rfl) ?_
  generalize blks E_2 = B at hp ⊢
  obtain ⟨v_4, v_5, e_6, v_7, e_8, rfl, r_9, o_a, o_b⟩ := q_3
  have hp : Hp ⟨w0, I0, B⟩ I0 [some (g_1, [v_4, v_5, v_7], 60), e_6, e_8] w0 := hp
  apply go
  apply go
  apply go
  apply go
  apply go
  refine ev0 (rn_eqNilP rfl rfl rfl Tryd.underlying33 (b := false) rfl) ?_
  apply go
  apply go
  apply go
  apply go
  obtain ⟨y_c, q_d, h⟩ := bind_some h
  refine W.cut (γ := ((List Int) × Value × Ent × (Nat → Prop))) (fun g => [(3, (g.2.1))]) (fun g w' => y_c = (g.1) ∧ Hp ⟨w0, I0, B⟩ (g.2.2.2) [(g.2.2.1), e_6, e_8, some (g_1, [v_4, v_5, v_7], 60)] w' ∧ OwnS (dI .i64) 3 w' (g.2.2.2) (g.2.1) (g.2.2.1) (g.1) ∧ RepS dNode_2 w' (g.2.2.2) v_4 x_0.nodes ∧ OwnS (dI .i64) 3 w' (g.2.2.2) v_5 e_6 x_0.counters ∧ OwnS dB 4 w' (g.2.2.2) v_7 e_8 x_0.active) ?_ ?_
  ·
    apply go
    apply go
    refine ev0 (rn_field rfl rfl FO60_2) ?_
    refine ev (rn_load rfl rfl (run_loadVar1 T58 (hp.cell (i := 0) (off := 2) rfl rfl))) ?_
    refine ev0 (x_lenO rfl rfl Tryd.underlying58 o_b) ?_
    apply go
    have hp := hp.none_
    have o_e := OwnS.nil (dI .i64) 3 w0 I0
    have hp := hp.perm [0, 3, 2, 1] (by decide)
    refine W.loop q_d (γ := (Value × Ent × (Nat → Prop))) (fun s g => [(3, (g.1)), (11, v_7), (12, (.int .i64 (x_0.active.length : Int))), (13, (.int .i64 (s.2)))]) (fun s g w' => Hp ⟨w0, I0, B⟩ (g.2.2) [(g.2.1), e_8, e_6, some (g_1, [v_4, v_5, v_7], 60)] w' ∧ OwnS (dI .i64) 3 w' (g.2.2) (g.1) (g.2.1) (s.1) ∧ OwnS dB 4 w' (g.2.2) v_7 e_8 x_0.active ∧ RepS dNode_2 w' (g.2.2) v_4 x_0.nodes ∧ OwnS (dI .i64) 3 w' (g.2.2) v_5 e_6 x_0.counters) ((.slice none 0 0), none, I0) (.c rfl (.c rfl (.c rfl (.c rfl .n)))) ⟨hp, o_e, o_b, r_9, o_a⟩ ?_
    rintro ⟨x_f, x_g⟩ ⟨v_h, e_i, I_j⟩ w_k y_l ⟨hp, o_m, o_b, r_9, o_a⟩ q_n q_o
    unfold tree_Runner_Active_L1 at q_n
    apply go
    apply go
    apply go
    apply go
    refine sel_of (fun hc => ?_) (fun hc => ?_)
    ·
      have q_n := cond_t q_n hc
      apply go
      obtain ⟨y_p, q_q, q_n⟩ := bind_some q_n
      refine W.cut (γ := ((List Int) × Value × Ent × (Nat → Prop))) (fun g => [(3, (g.2.1)), (11, v_7), (12, (.int .i64 (x_0.active.length : Int))), (13, (.int .i64 x_g))]) (fun g w' => y_p = (g.1) ∧ Hp ⟨w0, I0, B⟩ (g.2.2.2) [(g.2.2.1), e_8, e_6, some (g_1, [v_4, v_5, v_7], 60)] w' ∧ OwnS (dI .i64) 3 w' (g.2.2.2) (g.2.1) (g.2.2.1) (g.1) ∧ OwnS dB 4 w' (g.2.2.2) v_7 e_8 x_0.active ∧ RepS dNode_2 w' (g.2.2.2) v_4 x_0.nodes ∧ OwnS (dI .i64) 3 w' (g.2.2.2) v_5 e_6 x_0.counters) ?_ ?_
      ·
        apply go
        apply go
        apply go
        obtain ⟨x_r, q_s, q_q⟩ := bind_some q_q
        refine ev_indexO rfl rfl rfl Tryd.underlying58 T4 o_b q_s ?_
        intro g_t c_u h_v d_w l_x
        refine ev (rn_load rfl rfl (run_loadVar1 T4 (hp.cellE (i := 1) rfl h_v d_w (j := 0) rfl))) ?_
        apply go
        apply go
        apply go
        refine sel_of (fun hc => ?_) (fun hc => ?_)
        ·
          have q_q := cond_t q_q hc
          apply go
          refine ev_litN (d := (dI .i64)) (xs := [x_g]) (cs := [(.int .i64 x_g)]) hp rfl rfl Tryd.underlying37 T3 (by decide) rfl rfl (Elems.cons (d := (dI .i64)) (xs := _) rfl (Elems.nil _ _ _ _)) ?_
          intro v_y I_z w_10 hp hs r_11
          replace o_b := o_b.step hs
          replace o_m := o_m.step hs
          replace r_9 := r_9.step hs
          replace o_a := o_a.step hs
          obtain ⟨x_12, q_13, q_q⟩ := bind_some q_q
          refine ev_append hp (i := 0) rfl rfl rfl rfl Tryd.underlying37 T3 rfl rfl o_m r_11 q_13 ?_
          rintro v_14 e_15 w_16 hp hs o_17
          replace o_b := o_b.step hs
          replace r_9 := r_9.step hs
          replace o_a := o_a.step hs
          obtain rfl := Option.some.inj q_q
          exact ⟨(x_12, v_14, e_15, I_z), (.c rfl (.c rfl (.c rfl (.c rfl .n)))), rfl, hp, o_17, o_b, r_9, o_a⟩
        ·
          have q_q := cond_f q_q hc
          apply go
          obtain rfl := Option.some.inj q_q
          exact ⟨(x_f, v_h, e_i, I_j), (.c rfl (.c rfl (.c rfl (.c rfl .n)))), rfl, hp, o_m, o_b, r_9, o_a⟩
      ·
        rintro ⟨x_18, v_19, e_1a, I_1b⟩ w_1c ⟨hy, hp, o_1d, o_b, r_9, o_a⟩
        replace hy := hy.symm
        subst hy
        apply go
        exact ⟨_, (Option.some.inj q_n).symm, (v_19, e_1a, I_1b), (.c rfl (.c rfl (.c rfl (.c rfl .n)))), ⟨hp, o_1d, o_b, r_9, o_a⟩⟩
    ·
      have q_n := cond_f q_n hc
      apply go
      have q_1e := congrArg some (q_o _ (Option.some.inj q_n).symm)
      obtain rfl := Option.some.inj q_1e
      have hp := hp.perm [0, 2, 1, 3] (by decide)
      exact ⟨(x_f, v_h, e_i, I_j), (.c rfl .n), rfl, hp, o_m, r_9, o_a, o_b⟩
  ·
    rintro ⟨x_1f, v_1g, e_1h, I_1i⟩ w_1j ⟨hy, hp, o_1k, r_9, o_a, o_b⟩
    replace hy := hy.symm
    subst hy
    apply go
    apply go
    apply go
    obtain rfl := Option.some.inj h
    have r_1l := o_1k.frz hp (i := 0) rfl
    obtain ⟨hp, hs⟩ := freeze_hp hp (i := 0) rfl
    replace r_9 := r_9.step hs
    replace o_a := o_a.step hs
    replace o_b := o_b.step hs
    have hp := hp.sel [1, 2, 3] (by decide)
    have hp := hp.perm [2, 0, 1] (by decide)
    exact ⟨(Ad I_1i e_1h), v_1g, [some (g_1, [v_4, v_5, v_7], 60), e_6, e_8], rfl, hp, r_1l, ⟨v_4, v_5, e_6, v_7, e_8, rfl, r_9, o_a, o_b⟩⟩

end Go.Proofs.YtknnmbcaoekgmaaDoor

namespace Go.Proofs.YtknnmbcaoekgmaaDoor
open Go Go.Proofs.YtknnmbcaoekgmaaDoor.Gw Go.RowKit
set_option linter.unusedVariables false
attribute [local irreducible] Ev EvQ EvS EvH
def law41_awake_S (f : Option Bool) : Prop := ∀ (w0 : World) (I0 : Nat → Prop)  (hI : ∀ g, I0 g → g < w0.heap.size) (r : Bool), f  = some r →
    Ret Tryd.prog 5 #[] w0 fun v w1 => v = (.bool r) ∧ Ch [] w0 w1
theorem law41_awake_ok (n : Nat) : law41_awake_S (law41_awake n) := by
  intro w0 I0 hI r h
  unfold law41_awake at h
  refine enter Tryd.func5 rfl (Nat.le_of_ble_eq_true rfl) ?_
  have hp : Hp ⟨w0, I0, []⟩ I0 [] w0 := Hp.start hI
  apply go
  apply go
  apply go
  apply go
  obtain ⟨x_0, q_1, h⟩ := bind_some h
  refine ev_call rfl rfl C14 (((law41_action_ok n) _ _  0 hp.imm _ q_1).mono ?_)
  rintro _ w_2 ⟨I_3, v_4, hv, hq, r_5⟩
  replace hv := hv.symm
  subst hv
  have hs := hq.st
  have hp := hp.join0 hq
  obtain ⟨x_6, q_7, h⟩ := bind_some h
  refine ev_call rfl rfl C14 (((law41_action_ok n) _ _  1 hp.imm _ q_7).mono ?_)
  rintro _ w_8 ⟨I_9, v_a, hv, hq, r_b⟩
  replace hv := hv.symm
  subst hv
  have hs := hq.st
  have hp := hp.join0 hq
  replace r_5 := r_5.step hs
  obtain ⟨A_c, m_d, m_e, rfl⟩ := r_5.isSl
  obtain ⟨A_f, m_g, m_h, rfl⟩ := r_b.isSl
  refine ev_litN (d := dNode) (xs := [x_0, x_6]) (cs := [(.int .i64 x_0.Kind), (.int .i64 x_0.Name), (.int .i64 x_0.Count), (.slice A_c m_d m_e), (.int .i64 x_6.Kind), (.int .i64 x_6.Name), (.int .i64 x_6.Count), (.slice A_f m_g m_h)]) hp rfl rfl Tryd.underlying22 T24 (by decide) (by kernel_rfl) rfl (Elems.cons (d := dNode) (xs := _) (dNode_m (x := x_0) r_5) (Elems.cons (d := dNode) (xs := _) (dNode_m (x := x_6) r_b) (Elems.nil _ _ _ _))) ?_
  intro v_i I_j w_k hp hs r_l
  obtain ⟨A_m, m_n, m_o, rfl⟩ := r_l.isSl
  refine ev0 (fun w => rn_build (cs := [(.int .i64 3), (.int .i64 0), (.int .i64 0), (.slice A_m m_n m_o)]) rfl rfl T24 PL24 rfl) ?_
  obtain ⟨⟨x_p, x_q⟩, q_r, h⟩ := bind_some h
  refine ev_call rfl rfl C13 (((tree_New_ok n) _ _  (Node.mk 3 0 0 [x_0, x_6]) (.slice A_m m_n m_o) r_l hp.imm _ q_r).mono ?_)
  rintro _ w_s ⟨I_t, v_u, F_v, hv, hq4970, q_w⟩
  replace hv := hv.symm
  subst hv
  rcases x_p with _ | x_x
  ·
    obtain ⟨rfl, rfl⟩ := q_w
    have hs := hq4970.st
    have hp := hp.join0 hq4970
    apply go
    apply go
    refine ev_litN (d := (dI .i64)) (xs := [2, 1]) (cs := [(.int .i64 2), (.int .i64 1)]) hp rfl rfl Tryd.underlying37 T3 (by decide) rfl rfl (Elems.cons (d := (dI .i64)) (xs := _) rfl (Elems.cons (d := (dI .i64)) (xs := _) rfl (Elems.nil _ _ _ _))) ?_
    intro v_y I_z w_10 hp hs r_11
    cases h
  ·
    obtain ⟨g_12, rfl, v_13, v_14, e_15, v_16, e_17, rfl, f_18, o_19, o_1a⟩ := q_w
    have r_1b := f_18.imm
    have hs := hq4970.st
    have hp := hp.join0 hq4970
    apply go
    apply go
    refine ev_litN (d := (dI .i64)) (xs := [2, 1]) (cs := [(.int .i64 2), (.int .i64 1)]) hp rfl rfl Tryd.underlying37 T3 (by decide) rfl rfl (Elems.cons (d := (dI .i64)) (xs := _) rfl (Elems.cons (d := (dI .i64)) (xs := _) rfl (Elems.nil _ _ _ _))) ?_
    intro v_1c I_1d w_1e hp hs r_1f
    replace r_1b := r_1b.step hs
    replace o_19 := o_19.step hs
    replace o_1a := o_1a.step hs
    obtain ⟨⟨x_1g, x_1h, x_1i, x_1j⟩, q_1k, h⟩ := bind_some h
    refine ev_call rfl rfl C15 (((tree_Runner_Tick_ok n) _ _  (Runner.mk x_x.nodes x_x.counters x_x.active) g_12 [some (g_12, [v_13, v_14, v_16], 60), e_15, e_17] ⟨v_13, v_14, e_15, v_16, e_17, rfl, r_1b, o_19, o_1a⟩ [2, 1] v_1c r_1f [] (.slice none 0 0) (RepS.nil _ _ _) (hp.lendL [0, 1, 2] (by decide)) _ q_1k).mono ?_)
    rintro _ w_1l ⟨I_1m, v_1n, v_1o, F_1p, hv, hq5003, r_1q, r_1r, q_1s⟩
    replace hv := hv.symm
    subst hv
    obtain ⟨v_1t, v_1u, e_1v, v_1w, e_1x, rfl, r_1y, o_1z, o_20⟩ := q_1s
    have hs := hq5003.st
    have hp := hp.backL [0, 1, 2] [] (by decide) hq5003
    obtain ⟨y_21, q_22, h⟩ := bind_some h
    refine W.cut (γ := (Bool × (Nat → Prop))) (fun g => [(0, (.bool (g.1)))]) (fun g w' => y_21 = (g.1) ∧ Hp ⟨w0, I0, []⟩ (g.2) [] w') ?_ ?_
    ·
      apply go
      refine sel_of (fun hc => ?_) (fun hc => ?_)
      ·
        have q_22 := cond_t q_22 hc
        refine sel_of (fun hc => ?_) (fun hc => ?_)
        ·
          have q_22 := cond_t q_22 hc
          refine ev_litN (d := (dI .i64)) (xs := [1, 2]) (cs := [(.int .i64 1), (.int .i64 2)]) hp rfl rfl Tryd.underlying37 T3 (by decide) rfl rfl (Elems.cons (d := (dI .i64)) (xs := _) rfl (Elems.cons (d := (dI .i64)) (xs := _) rfl (Elems.nil _ _ _ _))) ?_
          intro v_23 I_24 w_25 hp hs r_26
          replace r_1r := r_1r.step hs
          replace r_1q := r_1q.step hs
          replace r_1y := r_1y.step hs
          replace o_1z := o_1z.step hs
          replace o_20 := o_20.step hs
          obtain ⟨x_27, q_28, q_22⟩ := bind_some q_22
          refine ev_call rfl rfl C16 (((base_Ints_ok n) _ _  x_1h v_1n r_1q [1, 2] v_23 r_26 hp.imm _ q_28).mono ?_)
          rintro _ w_29 ⟨rfl, hc⟩
          have hs := hp.stp hc
          replace hp := hp.ext hc
          replace r_1r := r_1r.step hs
          replace r_1y := r_1y.step hs
          replace o_1z := o_1z.step hs
          replace o_20 := o_20.step hs
          refine sel_of (fun hc => ?_) (fun hc => ?_)
          ·
            have q_22 := cond_t q_22 hc
            refine ev0 (rn_len rfl rfl Tryd.underlying37 r_1r) ?_
            refine sel_of (fun hc => ?_) (fun hc => ?_)
            ·
              have q_22 := cond_t q_22 hc
              obtain ⟨⟨x_2a, x_2b⟩, q_2c, q_22⟩ := bind_some q_22
              refine ev_call rfl rfl C17 (((tree_Runner_Active_ok n) _ _  (Runner.mk x_1j.nodes x_1j.counters x_1j.active) g_12 [some (g_12, [v_1t, v_1u, v_1w], 60), e_1v, e_1x] ⟨v_1t, v_1u, e_1v, v_1w, e_1x, rfl, r_1y, o_1z, o_20⟩ (hp.lendL [0, 1, 2] (by decide)) _ q_2c).mono ?_)
              rintro _ w_2d ⟨I_2e, v_2f, F_2g, hv, hq5065, r_2h, q_2i⟩
              replace hv := hv.symm
              subst hv
              obtain ⟨v_2j, v_2k, e_2l, v_2m, e_2n, rfl, r_2o, o_2p, o_2q⟩ := q_2i
              have hs := hq5065.st
              have hp := hp.backL [0, 1, 2] [] (by decide) hq5065
              refine ev_litN (d := (dI .i64)) (xs := [2]) (cs := [(.int .i64 2)]) hp rfl rfl Tryd.underlying37 T3 (by decide) rfl rfl (Elems.cons (d := (dI .i64)) (xs := _) rfl (Elems.nil _ _ _ _)) ?_
              intro v_2r I_2s w_2t hp hs r_2u
              replace r_2h := r_2h.step hs
              replace r_2o := r_2o.step hs
              replace o_2p := o_2p.step hs
              replace o_2q := o_2q.step hs
              obtain ⟨x_2v, q_2w, q_22⟩ := bind_some q_22
              refine ev_call rfl rfl C16 (((base_Ints_ok n) _ _  x_2a v_2f r_2h [2] v_2r r_2u hp.imm _ q_2w).mono ?_)
              rintro _ w_2x ⟨rfl, hc⟩
              have hs := hp.stp hc
              replace hp := hp.ext hc
              replace r_2o := r_2o.step hs
              replace o_2p := o_2p.step hs
              replace o_2q := o_2q.step hs
              obtain rfl := Option.some.inj q_22
              have hp := hp.sel [] (by decide)
              exact ⟨(x_2v, I_2s), (.c rfl .n), rfl, hp⟩
            ·
              have q_22 := cond_f q_22 hc
              obtain rfl := Option.some.inj q_22
              have hp := hp.sel [] (by decide)
              exact ⟨(false, I_24), (.c rfl .n), rfl, hp⟩
          ·
            have q_22 := cond_f q_22 hc
            obtain rfl := Option.some.inj q_22
            have hp := hp.sel [] (by decide)
            exact ⟨(false, I_24), (.c rfl .n), rfl, hp⟩
        ·
          have q_22 := cond_f q_22 hc
          obtain rfl := Option.some.inj q_22
          have hp := hp.sel [] (by decide)
          exact ⟨(false, I_1m), (.c rfl .n), rfl, hp⟩
      ·
        have q_22 := cond_f q_22 hc
        obtain rfl := Option.some.inj q_22
        have hp := hp.sel [] (by decide)
        exact ⟨(false, I_1m), (.c rfl .n), rfl, hp⟩
    ·
      rintro ⟨x_2y, I_2z⟩ w_30 ⟨hy, hp⟩
      replace hy := hy.symm
      subst hy
      apply go
      obtain rfl := Option.some.inj h
      exact ⟨rfl, hp.ch⟩

end Go.Proofs.YtknnmbcaoekgmaaDoor

namespace Go.Proofs.YtknnmbcaoekgmaaDoor
open Go Go.Proofs.YtknnmbcaoekgmaaDoor.Gw Go.RowKit
set_option linter.unusedVariables false
attribute [local irreducible] Ev EvQ EvS EvH
def ref41_size_S (f : Node → Int → Option Int) : Prop := ∀ (w0 : World) (I0 : Nat → Prop) (x_0 : Node) (v_1 : Value) (r_2 : RepS dNode w0 I0 v_1 x_0.Kids) (x_3 : Int) (hI : ∀ g, I0 g → g < w0.heap.size) (r : Int), f x_0 x_3 = some r →
    Ret Tryd.prog 30 #[(.agg #[(.int .i64 x_0.Kind), (.int .i64 x_0.Name), (.int .i64 x_0.Count), v_1]), (.int .i64 x_3)] w0 fun v w1 => v = (.int .i64 r) ∧ Ch [] w0 w1
theorem ref41_size_F_ok (n : Nat) (self : Node → Int → Option Int) (ih : ref41_size_S self) : ref41_size_S (ref41_size_F n self) := by
  intro w0 I0 x_0 v_1 r_2 x_3 hI r h
  unfold ref41_size_F at h
  refine enter Tryd.func30 rfl (Nat.le_of_ble_eq_true rfl) ?_
  have hp : Hp ⟨w0, I0, []⟩ I0 [] w0 := Hp.start hI
  apply go
  apply go
  refine ev_boxI hp rfl rfl ?_
  intro p_4 I_5 w_6 hp hs a_7
  replace r_2 := r_2.step hs
  apply go
  apply go
  obtain ⟨y_8, q_9, h⟩ := bind_some h
  refine W.cut (γ := Int) (fun g => [(5, (.int .i64 (g)))]) (fun g w' => y_8 = (g) ∧ Hp ⟨w0, I0, []⟩ I_5 [] w') ?_ ?_
  ·
    apply go
    apply go
    apply go
    refine W.loop q_9 (γ := Unit) (fun s _ => [(1, (.int .i64 x_3)), (2, (.pointer (some (p_4)))), (5, (.int .i64 (s.1))), (6, (.int .i64 (s.2)))]) (fun s _ w' => Hp ⟨w0, I0, []⟩ I_5 [] w' ∧ RepS dNode w' I_5 v_1 x_0.Kids ∧ At w' I_5 p_4 [(.int .i64 x_0.Kind), (.int .i64 x_0.Name), (.int .i64 x_0.Count), v_1]) () (.c rfl (.c rfl (.c rfl (.c rfl .n)))) ⟨hp, r_2, a_7⟩ ?_
    rintro ⟨x_a, x_b⟩ ⟨⟩ w_c y_d ⟨hp, r_2, a_7⟩ q_e q_f
    unfold ref41_size_L1 at q_e
    apply go
    obtain ⟨y_g, q_h, q_e⟩ := bind_some q_e
    refine W.cut (γ := Bool) (fun g => [(1, (.int .i64 x_3)), (2, (.pointer (some (p_4)))), (5, (.int .i64 x_a)), (6, (.int .i64 x_b)), (16, (.bool (g)))]) (fun g w' => y_g = (g) ∧ w_c = w') ?_ ?_
    ·
      apply go
      refine ev0 (rn_field rfl rfl FO24_3) ?_
      refine ev (rn_load rfl rfl (run_loadVar1 T22 (a_7.2 3 _ rfl))) ?_
      refine ev0 (rn_len rfl rfl Tryd.underlying22 r_2) ?_
      refine sel_of (fun hc => ?_) (fun hc => ?_)
      ·
        have q_h := cond_t q_h hc
        obtain rfl := Option.some.inj q_h
        exact ⟨(decide (x_a < x_3)), (.c rfl (.c rfl (.c rfl (.c rfl (.c rfl .n))))), rfl, rfl⟩
      ·
        have q_h := cond_f q_h hc
        obtain rfl := Option.some.inj q_h
        exact ⟨false, (.c rfl (.c rfl (.c rfl (.c rfl (.c rfl .n))))), rfl, rfl⟩
    ·
      rintro x_i _ ⟨hy, rfl⟩
      replace hy := hy.symm
      subst hy
      apply go
      refine sel_of (fun hc => ?_) (fun hc => ?_)
      ·
        have q_e := cond_t q_e hc
        apply go
        apply go
        apply go
        apply go
        refine ev0 (rn_field rfl rfl FO24_3) ?_
        refine ev (rn_load rfl rfl (run_loadVar1 T22 (a_7.2 3 _ rfl))) ?_
        obtain ⟨x_j, q_k, q_e⟩ := bind_some q_e
        refine ev_index rfl rfl rfl Tryd.underlying22 T24 r_2 q_k ?_
        intro p_l c_m d_n a_o
        obtain ⟨v_p, rfl, r_q⟩ := dNode_o d_n
        refine ev (rn_load rfl rfl (run_loadVarA T24 rfl a_o)) ?_
        obtain ⟨x_r, q_s, q_e⟩ := bind_some q_e
        refine ev_call rfl rfl C30 ((ih _ _  (Node.mk x_j.Kind x_j.Name x_j.Count x_j.Kids) v_p r_q (IntKind.i64.wrap (x_3 - x_a)) hp.imm _ q_s).mono ?_)
        rintro _ w_t ⟨rfl, hc⟩
        have hs := hp.stp hc
        replace hp := hp.ext hc
        replace a_7 := a_7.step hs
        replace r_2 := r_2.step hs
        apply go
        exact ⟨_, (Option.some.inj q_e).symm, (), (.c rfl (.c rfl (.c rfl (.c rfl .n)))), ⟨hp, r_2, a_7⟩⟩
      ·
        have q_e := cond_f q_e hc
        apply go
        have q_u := congrArg some (q_f _ (Option.some.inj q_e).symm)
        obtain rfl := Option.some.inj q_u
        exact ⟨x_a, (.c rfl .n), rfl, hp⟩
  ·
    rintro x_v w_w ⟨hy, hp⟩
    replace hy := hy.symm
    subst hy
    apply go
    apply go
    apply go
    obtain rfl := Option.some.inj h
    exact ⟨rfl, hp.ch⟩
theorem ref41_size_ok : ∀ n, ref41_size_S (ref41_size n)
  | 0 => by intro w0 I0 x_0 v_1 r_2 x_3 hI r h; cases h
  | n + 1 => ref41_size_F_ok n _ (ref41_size_ok n)

end Go.Proofs.YtknnmbcaoekgmaaDoor

namespace Go.Proofs.YtknnmbcaoekgmaaDoor
open Go Go.Proofs.YtknnmbcaoekgmaaDoor.Gw Go.RowKit
set_option linter.unusedVariables false
attribute [local irreducible] Ev EvQ EvS EvH
def ref41_Size_S (f : Node → Option Int) : Prop := ∀ (w0 : World) (I0 : Nat → Prop) (x_0 : Node) (v_1 : Value) (r_2 : RepS dNode w0 I0 v_1 x_0.Kids) (hI : ∀ g, I0 g → g < w0.heap.size) (r : Int), f x_0 = some r →
    Ret Tryd.prog 18 #[(.agg #[(.int .i64 x_0.Kind), (.int .i64 x_0.Name), (.int .i64 x_0.Count), v_1])] w0 fun v w1 => v = (.int .i64 r) ∧ Ch [] w0 w1
theorem ref41_Size_ok (n : Nat) : ref41_Size_S (ref41_Size n) := by
  intro w0 I0 x_0 v_1 r_2 hI r h
  unfold ref41_Size at h
  refine enter Tryd.func18 rfl (Nat.le_of_ble_eq_true rfl) ?_
  have hp : Hp ⟨w0, I0, []⟩ I0 [] w0 := Hp.start hI
  apply go
  apply go
  refine ev_boxI hp rfl rfl ?_
  intro p_3 I_4 w_5 hp hs a_6
  replace r_2 := r_2.step hs
  apply go
  apply go
  refine ev (rn_load rfl rfl (run_loadVarA T24 rfl a_6)) ?_
  obtain ⟨x_7, q_8, h⟩ := bind_some h
  refine ev_call rfl rfl C30 (((ref41_size_ok n) _ _  (Node.mk x_0.Kind x_0.Name x_0.Count x_0.Kids) v_1 r_2 65 hp.imm _ q_8).mono ?_)
  rintro _ w_9 ⟨rfl, hc⟩
  have hs := hp.stp hc
  replace hp := hp.ext hc
  apply go
  obtain rfl := Option.some.inj h
  exact ⟨rfl, hp.ch⟩

end Go.Proofs.YtknnmbcaoekgmaaDoor

namespace Go.Proofs.YtknnmbcaoekgmaaDoor
open Go Go.Proofs.YtknnmbcaoekgmaaDoor.Gw Go.RowKit
set_option linter.unusedVariables false
attribute [local irreducible] Ev EvQ EvS EvH
def law41_few_S (f : Node → Option Bool) : Prop := ∀ (w0 : World) (I0 : Nat → Prop) (x_0 : Node) (v_1 : Value) (r_2 : RepS dNode w0 I0 v_1 x_0.Kids) (hI : ∀ g, I0 g → g < w0.heap.size) (r : Bool), f x_0 = some r →
    Ret Tryd.prog 6 #[(.agg #[(.int .i64 x_0.Kind), (.int .i64 x_0.Name), (.int .i64 x_0.Count), v_1])] w0 fun v w1 => v = (.bool r) ∧ Ch [] w0 w1
theorem law41_few_ok (n : Nat) : law41_few_S (law41_few n) := by
  intro w0 I0 x_0 v_1 r_2 hI r h
  unfold law41_few at h
  refine enter Tryd.func6 rfl (Nat.le_of_ble_eq_true rfl) ?_
  have hp : Hp ⟨w0, I0, []⟩ I0 [] w0 := Hp.start hI
  apply go
  apply go
  refine ev_boxI hp rfl rfl ?_
  intro p_3 I_4 w_5 hp hs a_6
  replace r_2 := r_2.step hs
  apply go
  apply go
  refine ev (rn_load rfl rfl (run_loadVarA T24 rfl a_6)) ?_
  obtain ⟨x_7, q_8, h⟩ := bind_some h
  refine ev_call rfl rfl C18 (((ref41_Size_ok n) _ _  (Node.mk x_0.Kind x_0.Name x_0.Count x_0.Kids) v_1 r_2 hp.imm _ q_8).mono ?_)
  rintro _ w_9 ⟨rfl, hc⟩
  have hs := hp.stp hc
  replace hp := hp.ext hc
  apply go
  obtain rfl := Option.some.inj h
  exact ⟨rfl, hp.ch⟩

end Go.Proofs.YtknnmbcaoekgmaaDoor

namespace Go.Proofs.YtknnmbcaoekgmaaDoor
open Go Go.Proofs.YtknnmbcaoekgmaaDoor.Gw Go.RowKit
set_option linter.unusedVariables false
attribute [local irreducible] Ev EvQ EvS EvH
def strings_Builder_copyCheck_S (f : Builder → Option Builder) : Prop := ∀ (w0 : World) (I0 : Nat → Prop) (x_0 : Builder) (g_1 : Nat) (E_2 : List Ent) (q_3 : qB w0 I0 g_1 E_2 x_0) (hp : Hp ⟨w0, I0, blks E_2⟩ I0 E_2 w0) (r : Builder), f x_0 = some r →
    Ret Tryd.prog 49 #[(.pointer (some ⟨g_1, 0, none⟩))] w0 fun v w1 => ∃ (I1 : Nat → Prop) (u_4 : List Ent), v = (.tuple #[]) ∧ Hp ⟨w0, I0, blks E_2⟩ I1 u_4 w1 ∧ qB w1 I1 g_1 u_4 r

theorem cc_info : ∃ j, Tryd.prog.info? 46 = some j ∧ j.size = 2 :=
  Option.map_eq_some_iff.1 (show (Tryd.prog.info? 46).map (·.size) = some 2 by kernel_rfl)
set_option maxHeartbeats 1000000 in
set_option maxRecDepth 100000 in
theorem cc_used (b : Nat) (w : World) (h0 : w.cell? ⟨b, 0, none⟩ = some (.pointer (some ⟨b, 0, none⟩))) :
    Calls Tryd.prog 49 #[.pointer (some ⟨b, 0, none⟩)] w fun e w' => e = .returned (.tuple #[]) ∧ w' = w := by
  obtain ⟨j, hj, _⟩ := cc_info
  go_enter Tryd.func49, Tryd.ntmps49
  go_wp2
  rw [Lib.run_neq_ptr_same w _ Tryd.underlying43 hj]
  go_wp2
  go_end0
  exact ⟨rfl, rfl⟩
set_option maxHeartbeats 1000000 in
set_option maxRecDepth 100000 in
theorem cc_fresh (b : Nat) (w : World) (h0 : w.cell? ⟨b, 0, none⟩ = some (.pointer none)) (hsh : w.shape? b = some (46, 2)) (hfz : w.frozen? ⟨b, 0, none⟩ = false) :
    Calls Tryd.prog 49 #[.pointer (some ⟨b, 0, none⟩)] w fun e w' => e = .returned (.tuple #[]) ∧ w' = w.setCell ⟨b, 0, none⟩ (.pointer (some ⟨b, 0, none⟩)) := by
  obtain ⟨j, hj, hjs⟩ := cc_info
  go_enter Tryd.func49, Tryd.ntmps49
  go_wp2
  rw [Lib.run_to_unsafe w ⟨b, 0, none⟩ Tryd.underlying43 Tryd.underlying88 hj (by rw [hjs]; decide) hsh (Nat.zero_lt_succ 1)]
  simp only [Result.andThen]
  rw [Oper.upon_value]
  go_wp2
  rw [run_callFunc_extern Tryd.func54 (by kernel_rfl) (by kernel_rfl) (by kernel_rfl) (e := Extern.AbiNoEscape.same) (by kernel_rfl)]
  rw [Lib.run_noEscape]
  simp only [Result.andThen]
  rw [Oper.upon_value]
  go_wp2
  rw [Lib.run_from_unsafe w ⟨b, 0, none⟩ Tryd.underlying88 Tryd.underlying43 hj hsh (by kernel_rfl)]
  simp only [Result.andThen]
  rw [Oper.upon_value]
  go_wp2
  go_end0
  exact ⟨rfl, rfl⟩
theorem strings_Builder_copyCheck_ok (n : Nat) : strings_Builder_copyCheck_S (strings_Builder_copyCheck n) := by
  intro w0 I0 x g E q hp r h
  obtain rfl := Option.some.inj h
  obtain ⟨va, v, e, rfl, hs, ho⟩ := q
  have hh : w0.heap[g]? = some (.cells [va, v].toArray 46 (0, 0)) := (hp.own 0 g _ _ rfl).1
  rcases hs with rfl | rfl
  · refine Calls.mono (cc_fresh g w0 ?_ ?_ ?_) ?_
    · simp [World.cell?, hh]
    · simp only [World.shape?, hh]; rfl
    · simp [World.frozen?, hh]
    · rintro ev w1 ⟨rfl, rfl⟩
      have hp2 := hp.set (i := 0) (cs' := [.pointer (some ⟨g, 0, none⟩), v]) (w' := w0.setCell ⟨g, 0, none⟩ (.pointer (some ⟨g, 0, none⟩))) rfl (by simp [World.setCell]) rfl rfl rfl
        (by simp [World.setCell, Array.getElem?_modify, hh]) (fun k hk => by simp only [World.setCell, Array.getElem?_modify]; rw [if_neg (fun e0 => hk e0.symm)])
      exact ⟨_, rfl, I0, _, rfl, hp2.1, _, _, _, rfl, .inr rfl, ho.step hp2.2⟩
  · refine Calls.mono (cc_used g w0 ?_) ?_
    · simp [World.cell?, hh]
    · rintro ev w1 ⟨rfl, rfl⟩
      exact ⟨_, rfl, I0, _, rfl, hp, _, _, _, rfl, .inr rfl, ho⟩

end Go.Proofs.YtknnmbcaoekgmaaDoor

namespace Go.Proofs.YtknnmbcaoekgmaaDoor
open Go Go.Proofs.YtknnmbcaoekgmaaDoor.Gw Go.RowKit
set_option linter.unusedVariables false
attribute [local irreducible] Ev EvQ EvS EvH
def strings_Builder_WriteByte_S (f : Builder → Int → Option (Unit × Builder)) : Prop := ∀ (w0 : World) (I0 : Nat → Prop) (x_0 : Builder) (g_1 : Nat) (E_2 : List Ent) (q_3 : qB w0 I0 g_1 E_2 x_0) (x_4 : Int) (hp : Hp ⟨w0, I0, blks E_2⟩ I0 E_2 w0) (r : (Unit × Builder)), f x_0 x_4 = some r →
    Ret Tryd.prog 33 #[(.pointer (some ⟨g_1, 0, none⟩)), (.int .u8 x_4)] w0 fun v w1 => ∃ (I1 : Nat → Prop) (u_5 : List Ent), v = .nilIface ∧ Hp ⟨w0, I0, blks E_2⟩ I1 u_5 w1 ∧ qB w1 I1 g_1 u_5 r.2
theorem strings_Builder_WriteByte_ok (n : Nat) : strings_Builder_WriteByte_S (strings_Builder_WriteByte n) := by
  intro w0 I0 x_0 g_1 E_2 q_3 x_4 hp r h
  unfold strings_Builder_WriteByte at h
  refine enter Tryd.func33 rfl (Nat.le_of_ble_eq_true rfl) ?_
  generalize blks E_2 = B at hp ⊢
  obtain ⟨v_5, v_6, e_7, rfl, z_8, o_9⟩ := q_3
  have hp : Hp ⟨w0, I0, B⟩ I0 [some (g_1, [v_5, v_6], 46), e_7] w0 := hp
  apply go
  apply go
  apply go
  apply go
  obtain ⟨x_a, q_b, h⟩ := bind_some h
  refine ev_call rfl rfl C49 (((strings_Builder_copyCheck_ok n) _ _  (Builder.mk () x_0.buf) g_1 [some (g_1, [v_5, v_6], 46), e_7] ⟨v_5, v_6, e_7, rfl, z_8, o_9⟩ (hp.lendL [0, 1] (by decide)) _ q_b).mono ?_)
  rintro _ w_c ⟨I_d, F_e, hv, hq5243, q_f⟩
  replace hv := hv.symm
  subst hv
  obtain ⟨v_g, v_h, e_i, rfl, z_j, o_k⟩ := q_f
  have hs := hq5243.st
  have hp := hp.backL [0, 1] [] (by decide) hq5243
  apply go
  apply go
  refine ev0 (rn_field rfl rfl FO46_1) ?_
  refine ev (rn_load rfl rfl (run_loadVar1 T44 (hp.cell (i := 0) (off := 1) rfl rfl))) ?_
  refine ev_litN (d := (dI .u8)) (xs := [x_4]) (cs := [(.int .u8 x_4)]) hp rfl rfl Tryd.underlying44 T5 (by decide) rfl rfl (Elems.cons (d := (dI .u8)) (xs := _) rfl (Elems.nil _ _ _ _)) ?_
  intro v_l I_m w_n hp hs r_o
  replace o_k := o_k.step hs
  obtain ⟨x_p, q_q, h⟩ := bind_some h
  refine ev_append hp (i := 1) rfl rfl rfl rfl Tryd.underlying44 T5 rfl rfl o_k r_o q_q ?_
  rintro v_r e_s w_t hp hs o_u
  replace o_k := o_k.step hs
  refine ev0 (rn_field rfl rfl FO46_1) ?_
  refine ev_store1 hp (i := 0) (off := 1) rfl rfl rfl rfl T44 o_u.one (Nat.le_of_ble_eq_true rfl) ?_
  intro w_v hp hs
  replace o_u := o_u.step hs
  apply go
  apply go
  apply go
  obtain rfl := Option.some.inj h
  exact ⟨I_m, [some (g_1, [v_g, v_r], 46), e_s], rfl, hp, ⟨v_g, v_r, e_s, rfl, z_j, o_u⟩⟩

end Go.Proofs.YtknnmbcaoekgmaaDoor

namespace Go.Proofs.YtknnmbcaoekgmaaDoor
open Go Go.Proofs.YtknnmbcaoekgmaaDoor.Gw Go.RowKit
set_option linter.unusedVariables false
attribute [local irreducible] Ev EvQ EvS EvH
def tree_letter_S (f : Int → Option Int) : Prop := ∀ (w0 : World) (I0 : Nat → Prop) (x_0 : Int) (hI : ∀ g, I0 g → g < w0.heap.size) (r : Int), f x_0 = some r →
    Ret Tryd.prog 34 #[(.int .i64 x_0)] w0 fun v w1 => v = (.int .u8 r) ∧ Ch [] w0 w1
theorem tree_letter_ok (n : Nat) : tree_letter_S (tree_letter n) := by
  intro w0 I0 x_0 hI r h
  unfold tree_letter at h
  refine enter Tryd.func34 rfl (Nat.le_of_ble_eq_true rfl) ?_
  have hp : Hp ⟨w0, I0, []⟩ I0 [] w0 := Hp.start hI
  apply go
  apply go
  apply go
  apply go
  obtain ⟨x_1, q_2, h⟩ := bind_some h
  refine ev0 (rn_indexS rfl rfl rfl Tryd.underlying9 q_2) ?_
  apply go
  obtain rfl := Option.some.inj h
  exact ⟨rfl, hp.ch⟩

end Go.Proofs.YtknnmbcaoekgmaaDoor

namespace Go.Proofs.YtknnmbcaoekgmaaDoor
open Go Go.Proofs.YtknnmbcaoekgmaaDoor.Gw Go.RowKit
set_option linter.unusedVariables false
attribute [local irreducible] Ev EvQ EvS EvH
def strings_Builder_WriteString_S (f : Builder → ByteArray → Option (Int × Unit × Builder)) : Prop := ∀ (w0 : World) (I0 : Nat → Prop) (x_0 : Builder) (g_1 : Nat) (E_2 : List Ent) (q_3 : qB w0 I0 g_1 E_2 x_0) (x_4 : ByteArray) (hp : Hp ⟨w0, I0, blks E_2⟩ I0 E_2 w0) (r : (Int × Unit × Builder)), f x_0 x_4 = some r →
    Ret Tryd.prog 35 #[(.pointer (some ⟨g_1, 0, none⟩)), (.string x_4)] w0 fun v w1 => ∃ (I1 : Nat → Prop) (u_5 : List Ent), v = (.tuple #[(.int .i64 r.1), .nilIface]) ∧ Hp ⟨w0, I0, blks E_2⟩ I1 u_5 w1 ∧ qB w1 I1 g_1 u_5 r.2.2
theorem strings_Builder_WriteString_ok (n : Nat) : strings_Builder_WriteString_S (strings_Builder_WriteString n) := by
  intro w0 I0 x_0 g_1 E_2 q_3 x_4 hp r h
  unfold strings_Builder_WriteString at h
  refine enter Tryd.func35 rfl (Nat.le_of_ble_eq_true rfl) ?_
  generalize blks E_2 = B at hp ⊢
  obtain ⟨v_5, v_6, e_7, rfl, z_8, o_9⟩ := q_3
  have hp : Hp ⟨w0, I0, B⟩ I0 [some (g_1, [v_5, v_6], 46), e_7] w0 := hp
  apply go
  apply go
  apply go
  apply go
  obtain ⟨x_a, q_b, h⟩ := bind_some h
  refine ev_call rfl rfl C49 (((strings_Builder_copyCheck_ok n) _ _  (Builder.mk () x_0.buf) g_1 [some (g_1, [v_5, v_6], 46), e_7] ⟨v_5, v_6, e_7, rfl, z_8, o_9⟩ (hp.lendL [0, 1] (by decide)) _ q_b).mono ?_)
  rintro _ w_c ⟨I_d, F_e, hv, hq5278, q_f⟩
  replace hv := hv.symm
  subst hv
  obtain ⟨v_g, v_h, e_i, rfl, z_j, o_k⟩ := q_f
  have hs := hq5278.st
  have hp := hp.backL [0, 1] [] (by decide) hq5278
  apply go
  apply go
  refine ev0 (rn_field rfl rfl FO46_1) ?_
  refine ev (rn_load rfl rfl (run_loadVar1 T44 (hp.cell (i := 0) (off := 1) rfl rfl))) ?_
  obtain ⟨x_l, q_m, h⟩ := bind_some h
  refine ev_appendS hp (i := 1) rfl rfl rfl rfl Tryd.underlying44 Tryd.underlying9 T5 o_k q_m ?_
  rintro v_n e_o w_p hp hs o_q
  replace o_k := o_k.step hs
  refine ev0 (rn_field rfl rfl FO46_1) ?_
  refine ev_store1 hp (i := 0) (off := 1) rfl rfl rfl rfl T44 o_q.one (Nat.le_of_ble_eq_true rfl) ?_
  intro w_r hp hs
  replace o_q := o_q.step hs
  apply go
  apply go
  refine ev0 (rn_lenS rfl rfl Tryd.underlying9) ?_
  apply go
  obtain rfl := Option.some.inj h
  exact ⟨I_d, [some (g_1, [v_g, v_n], 46), e_o], rfl, hp, ⟨v_g, v_n, e_o, rfl, z_j, o_q⟩⟩

end Go.Proofs.YtknnmbcaoekgmaaDoor

namespace Go.Proofs.YtknnmbcaoekgmaaDoor
open Go Go.Proofs.YtknnmbcaoekgmaaDoor.Gw Go.RowKit
set_option linter.unusedVariables false
attribute [local irreducible] Ev EvQ EvS EvH
def strconv_Itoa_S (f : Int → Option ByteArray) : Prop := ∀ (w0 : World) (I0 : Nat → Prop) (tb : Tb w0 I0 1 .u64 pow10) (x_0 : Int) (hI : ∀ g, I0 g → g < w0.heap.size) (r : ByteArray), f x_0 = some r →
    Ret Tryd.prog 36 #[(.int .i64 x_0)] w0 fun v w1 => v = (.string r) ∧ Ch [] w0 w1

theorem strconv_Itoa_ok (n : Nat) : strconv_Itoa_S (strconv_Itoa n) := by
  intro w0 I0 tb x hI r h
  unfold strconv_Itoa at h
  split at h
  · rename_i hx
    obtain rfl := Option.some.inj h
    apply ret_below
    refine Calls.mono (sh_strconv_Itoa x hx.1 hx.2 w0 (tb.tab (zs := Lib.pow10Tab) (by kernel_rfl))) ?_
    rintro e w1 ⟨rfl, k, os, rfl⟩
    exact ⟨rfl, below_grow w0 k os⟩
  · cases h

end Go.Proofs.YtknnmbcaoekgmaaDoor

namespace Go.Proofs.YtknnmbcaoekgmaaDoor
open Go Go.Proofs.YtknnmbcaoekgmaaDoor.Gw Go.RowKit
set_option linter.unusedVariables false
attribute [local irreducible] Ev EvQ EvS EvH
def tree_write_S (f : Builder → Node → Option Builder) : Prop := ∀ (w0 : World) (I0 : Nat → Prop) (tb : Tb w0 I0 1 .u64 pow10) (x_0 : Builder) (g_1 : Nat) (E_2 : List Ent) (q_3 : qB w0 I0 g_1 E_2 x_0) (x_4 : Node) (v_5 : Value) (r_6 : RepS dNode w0 I0 v_5 x_4.Kids) (hp : Hp ⟨w0, I0, blks E_2⟩ I0 E_2 w0) (r : Builder), f x_0 x_4 = some r →
    Ret Tryd.prog 20 #[(.pointer (some ⟨g_1, 0, none⟩)), (.agg #[(.int .i64 x_4.Kind), (.int .i64 x_4.Name), (.int .i64 x_4.Count), v_5])] w0 fun v w1 => ∃ (I1 : Nat → Prop) (u_7 : List Ent), v = (.tuple #[]) ∧ Hp ⟨w0, I0, blks E_2⟩ I1 u_7 w1 ∧ qB w1 I1 g_1 u_7 r
theorem tree_write_F_ok (n : Nat) (self : Builder → Node → Option Builder) (ih : tree_write_S self) : tree_write_S (tree_write_F n self) := by
  intro w0 I0 tb x_0 g_1 E_2 q_3 x_4 v_5 r_6 hp r h
  unfold tree_write_F at h
  refine enter Tryd.func20 rfl (Nat.le_of_ble_eq_true rfl) ?_
  generalize blks E_2 = B at hp ⊢
  obtain ⟨v_7, v_8, e_9, rfl, z_a, o_b⟩ := q_3
  have hp : Hp ⟨w0, I0, B⟩ I0 [some (g_1, [v_7, v_8], 46), e_9] w0 := hp
  apply go
  apply go
  refine ev_boxI hp rfl rfl ?_
  intro p_c I_d w_e hp hs a_f
  replace r_6 := r_6.step hs
  replace o_b := o_b.step hs
  replace tb := tb.step hs
  apply go
  obtain ⟨y_g, q_h, h⟩ := bind_some h
  refine W.cut (γ := Bool) (fun g => [(0, (.pointer (some ⟨g_1, 0, none⟩))), (3, (.pointer (some (p_c)))), (13, (.bool (g)))]) (fun g w' => y_g = (g) ∧ w_e = w') ?_ ?_
  ·
    apply go
    refine ev0 (rn_field rfl rfl FO24_0) ?_
    refine ev (rn_load rfl rfl (run_loadVar1 T3 (a_f.2 0 _ rfl))) ?_
    refine sel_of (fun hc => ?_) (fun hc => ?_)
    ·
      have q_h := cond_t q_h hc
      obtain rfl := Option.some.inj q_h
      exact ⟨true, (.c rfl (.c rfl (.c rfl .n))), rfl, rfl⟩
    ·
      have q_h := cond_f q_h hc
      refine ev0 (rn_field rfl rfl FO24_0) ?_
      refine ev (rn_load rfl rfl (run_loadVar1 T3 (a_f.2 0 _ rfl))) ?_
      obtain rfl := Option.some.inj q_h
      exact ⟨(x_4.Kind == 2), (.c rfl (.c rfl (.c rfl .n))), rfl, rfl⟩
  ·
    rintro x_i _ ⟨hy, rfl⟩
    replace hy := hy.symm
    subst hy
    apply go
    refine sel_of (fun hc => ?_) (fun hc => ?_)
    ·
      have h := cond_t h hc
      apply go
      apply go
      refine ev0 (rn_field rfl rfl FO24_0) ?_
      refine ev (rn_load rfl rfl (run_loadVar1 T3 (a_f.2 0 _ rfl))) ?_
      obtain ⟨x_j, q_k, h⟩ := bind_some h
      refine ev_call rfl rfl C34 (((tree_letter_ok n) _ _  x_4.Kind hp.imm _ q_k).mono ?_)
      rintro _ w_l ⟨rfl, hc⟩
      have hs := hp.stp hc
      replace hp := hp.ext hc
      replace a_f := a_f.step hs
      replace r_6 := r_6.step hs
      replace o_b := o_b.step hs
      replace tb := tb.step hs
      obtain ⟨⟨x_m, x_n⟩, q_o, h⟩ := bind_some h
      refine ev_call rfl rfl C33 (((strings_Builder_WriteByte_ok n) _ _  (Builder.mk () x_0.buf) g_1 [some (g_1, [v_7, v_8], 46), e_9] ⟨v_7, v_8, e_9, rfl, z_a, o_b⟩ x_j (hp.lendL [0, 1] (by decide)) _ q_o).mono ?_)
      rintro _ w_p ⟨I_q, F_r, hv, hq5322, q_s⟩
      replace hv := hv.symm
      subst hv
      obtain ⟨v_t, v_u, e_v, rfl, z_w, o_x⟩ := q_s
      have hs := hq5322.st
      have hp := hp.backL [0, 1] [] (by decide) hq5322
      replace a_f := a_f.step hs
      replace r_6 := r_6.step hs
      replace tb := tb.step hs
      apply go
      apply go
      refine ev0 (rn_field rfl rfl FO24_1) ?_
      refine ev (rn_load rfl rfl (run_loadVar1 T3 (a_f.2 1 _ rfl))) ?_
      obtain ⟨x_y, q_z, h⟩ := bind_some h
      refine ev_call rfl rfl C36 (((strconv_Itoa_ok n) _ _ tb x_4.Name hp.imm _ q_z).mono ?_)
      rintro _ w_10 ⟨rfl, hc⟩
      have hs := hp.stp hc
      replace hp := hp.ext hc
      replace o_x := o_x.step hs
      replace tb := tb.step hs
      obtain ⟨⟨x_11, x_12, x_13⟩, q_14, h⟩ := bind_some h
      refine ev_call rfl rfl C35 (((strings_Builder_WriteString_ok n) _ _  (Builder.mk () x_n.buf) g_1 [some (g_1, [v_t, v_u], 46), e_v] ⟨v_t, v_u, e_v, rfl, z_w, o_x⟩ x_y (hp.lendL [0, 1] (by decide)) _ q_14).mono ?_)
      rintro _ w_15 ⟨I_16, F_17, hv, hq5339, q_18⟩
      replace hv := hv.symm
      subst hv
      obtain ⟨v_19, v_1a, e_1b, rfl, z_1c, o_1d⟩ := q_18
      have hs := hq5339.st
      have hp := hp.backL [0, 1] [] (by decide) hq5339
      replace tb := tb.step hs
      apply go
      obtain rfl := Option.some.inj h
      exact ⟨I_16, [some (g_1, [v_19, v_1a], 46), e_1b], rfl, hp, ⟨v_19, v_1a, e_1b, rfl, z_1c, o_1d⟩⟩
    ·
      have h := cond_f h hc
      apply go
      apply go
      apply go
      obtain ⟨⟨x_1e, x_1f⟩, q_1g, h⟩ := bind_some h
      refine ev_call rfl rfl C33 (((strings_Builder_WriteByte_ok n) _ _  (Builder.mk () x_0.buf) g_1 [some (g_1, [v_7, v_8], 46), e_9] ⟨v_7, v_8, e_9, rfl, z_a, o_b⟩ 40 (hp.lendL [0, 1] (by decide)) _ q_1g).mono ?_)
      rintro _ w_1h ⟨I_1i, F_1j, hv, hq5352, q_1k⟩
      replace hv := hv.symm
      subst hv
      obtain ⟨v_1l, v_1m, e_1n, rfl, z_1o, o_1p⟩ := q_1k
      have hs := hq5352.st
      have hp := hp.backL [0, 1] [] (by decide) hq5352
      replace a_f := a_f.step hs
      replace r_6 := r_6.step hs
      replace tb := tb.step hs
      apply go
      apply go
      refine ev0 (rn_field rfl rfl FO24_0) ?_
      refine ev (rn_load rfl rfl (run_loadVar1 T3 (a_f.2 0 _ rfl))) ?_
      obtain ⟨x_1q, q_1r, h⟩ := bind_some h
      refine ev_call rfl rfl C34 (((tree_letter_ok n) _ _  x_4.Kind hp.imm _ q_1r).mono ?_)
      rintro _ w_1s ⟨rfl, hc⟩
      have hs := hp.stp hc
      replace hp := hp.ext hc
      replace a_f := a_f.step hs
      replace r_6 := r_6.step hs
      replace o_1p := o_1p.step hs
      replace tb := tb.step hs
      obtain ⟨⟨x_1t, x_1u⟩, q_1v, h⟩ := bind_some h
      refine ev_call rfl rfl C33 (((strings_Builder_WriteByte_ok n) _ _  (Builder.mk () x_1f.buf) g_1 [some (g_1, [v_1l, v_1m], 46), e_1n] ⟨v_1l, v_1m, e_1n, rfl, z_1o, o_1p⟩ x_1q (hp.lendL [0, 1] (by decide)) _ q_1v).mono ?_)
      rintro _ w_1w ⟨I_1x, F_1y, hv, hq5368, q_1z⟩
      replace hv := hv.symm
      subst hv
      obtain ⟨v_20, v_21, e_22, rfl, z_23, o_24⟩ := q_1z
      have hs := hq5368.st
      have hp := hp.backL [0, 1] [] (by decide) hq5368
      replace a_f := a_f.step hs
      replace r_6 := r_6.step hs
      replace tb := tb.step hs
      obtain ⟨y_25, q_26, h⟩ := bind_some h
      refine W.cut (γ := ((List Int) × Value × Value × Ent × (Nat → Prop))) (fun g => [(0, (.pointer (some ⟨g_1, 0, none⟩))), (3, (.pointer (some (p_c))))]) (fun g w' => y_25 = (g.1) ∧ Hp ⟨w0, I0, B⟩ (g.2.2.2.2) [(g.2.2.2.1), some (g_1, [(g.2.1), (g.2.2.1)], 46)] w' ∧ SelfP g_1 (g.2.1) ∧ OwnS (dI .u8) 5 w' (g.2.2.2.2) (g.2.2.1) (g.2.2.2.1) (g.1) ∧ RepS dNode w' (g.2.2.2.2) v_5 x_4.Kids ∧ At w' (g.2.2.2.2) p_c [(.int .i64 x_4.Kind), (.int .i64 x_4.Name), (.int .i64 x_4.Count), v_5] ∧ Tb w' (g.2.2.2.2) 1 .u64 pow10) ?_ ?_
      ·
        apply go
        apply go
        refine ev0 (rn_field rfl rfl FO24_2) ?_
        refine ev (rn_load rfl rfl (run_loadVar1 T3 (a_f.2 2 _ rfl))) ?_
        apply go
        refine sel_of (fun hc => ?_) (fun hc => ?_)
        ·
          have q_26 := cond_t q_26 hc
          apply go
          refine ev0 (rn_field rfl rfl FO24_2) ?_
          refine ev (rn_load rfl rfl (run_loadVar1 T3 (a_f.2 2 _ rfl))) ?_
          obtain ⟨x_27, q_28, q_26⟩ := bind_some q_26
          refine ev_call rfl rfl C36 (((strconv_Itoa_ok n) _ _ tb x_4.Count hp.imm _ q_28).mono ?_)
          rintro _ w_29 ⟨rfl, hc⟩
          have hs := hp.stp hc
          replace hp := hp.ext hc
          replace a_f := a_f.step hs
          replace r_6 := r_6.step hs
          replace o_24 := o_24.step hs
          replace tb := tb.step hs
          obtain ⟨⟨x_2a, x_2b, x_2c⟩, q_2d, q_26⟩ := bind_some q_26
          refine ev_call rfl rfl C35 (((strings_Builder_WriteString_ok n) _ _  (Builder.mk () x_1u.buf) g_1 [some (g_1, [v_20, v_21], 46), e_22] ⟨v_20, v_21, e_22, rfl, z_23, o_24⟩ x_27 (hp.lendL [0, 1] (by decide)) _ q_2d).mono ?_)
          rintro _ w_2e ⟨I_2f, F_2g, hv, hq5412, q_2h⟩
          replace hv := hv.symm
          subst hv
          obtain ⟨v_2i, v_2j, e_2k, rfl, z_2l, o_2m⟩ := q_2h
          have hs := hq5412.st
          have hp := hp.backL [0, 1] [] (by decide) hq5412
          replace a_f := a_f.step hs
          replace r_6 := r_6.step hs
          replace tb := tb.step hs
          obtain rfl := Option.some.inj q_26
          have hp := hp.perm [1, 0] (by decide)
          exact ⟨(x_2c.buf, v_2i, v_2j, e_2k, I_2f), (.c rfl (.c rfl .n)), rfl, hp, z_2l, o_2m, r_6, a_f, tb⟩
        ·
          have q_26 := cond_f q_26 hc
          apply go
          obtain rfl := Option.some.inj q_26
          have hp := hp.perm [1, 0] (by decide)
          exact ⟨(x_1u.buf, v_20, v_21, e_22, I_1x), (.c rfl (.c rfl .n)), rfl, hp, z_23, o_24, r_6, a_f, tb⟩
      ·
        rintro ⟨x_2n, v_2o, v_2p, e_2q, I_2r⟩ w_2s ⟨hy, hp, z_2t, o_2u, r_6, a_f, tb⟩
        replace hy := hy.symm
        subst hy
        obtain ⟨y_2v, q_2w, h⟩ := bind_some h
        refine W.cut (γ := ((List Int) × Value × Value × Ent × (Nat → Prop))) (fun g => [(0, (.pointer (some ⟨g_1, 0, none⟩)))]) (fun g w' => y_2v = (g.1) ∧ Hp ⟨w0, I0, B⟩ (g.2.2.2.2) [(g.2.2.2.1), some (g_1, [(g.2.1), (g.2.2.1)], 46)] w' ∧ SelfP g_1 (g.2.1) ∧ OwnS (dI .u8) 5 w' (g.2.2.2.2) (g.2.2.1) (g.2.2.2.1) (g.1) ∧ Tb w' (g.2.2.2.2) 1 .u64 pow10) ?_ ?_
        ·
          apply go
          apply go
          refine ev0 (rn_field rfl rfl FO24_3) ?_
          refine ev (rn_load rfl rfl (run_loadVar1 T22 (a_f.2 3 _ rfl))) ?_
          refine ev0 (rn_len rfl rfl Tryd.underlying22 r_6) ?_
          apply go
          refine W.loop q_2w (γ := (Value × Value × Ent × (Nat → Prop))) (fun s g => [(0, (.pointer (some ⟨g_1, 0, none⟩))), (40, v_5), (41, (.int .i64 (x_4.Kids.length : Int))), (42, (.int .i64 (s.2)))]) (fun s g w' => Hp ⟨w0, I0, B⟩ (g.2.2.2) [(g.2.2.1), some (g_1, [(g.1), (g.2.1)], 46)] w' ∧ SelfP g_1 (g.1) ∧ OwnS (dI .u8) 5 w' (g.2.2.2) (g.2.1) (g.2.2.1) (s.1) ∧ RepS dNode w' (g.2.2.2) v_5 x_4.Kids ∧ Tb w' (g.2.2.2) 1 .u64 pow10) (v_2o, v_2p, e_2q, I_2r) (.c rfl (.c rfl (.c rfl (.c rfl .n)))) ⟨hp, z_2t, o_2u, r_6, tb⟩ ?_
          rintro ⟨x_2x, x_2y⟩ ⟨v_2z, v_30, e_31, I_32⟩ w_33 y_34 ⟨hp, z_35, o_36, r_6, tb⟩ q_37 q_38
          unfold tree_write_L1 at q_37
          apply go
          apply go
          apply go
          apply go
          refine sel_of (fun hc => ?_) (fun hc => ?_)
          ·
            have q_37 := cond_t q_37 hc
            apply go
            apply go
            apply go
            apply go
            apply go
            obtain ⟨x_39, q_3a, q_37⟩ := bind_some q_37
            refine ev_index rfl rfl rfl Tryd.underlying22 T24 r_6 q_3a ?_
            intro p_3b c_3c d_3d a_3e
            obtain ⟨v_3f, rfl, r_3g⟩ := dNode_o d_3d
            refine ev (rn_load rfl rfl (run_loadVarA T24 rfl a_3e)) ?_
            refine ev_alloc hp rfl T24 ?_
            intro g_3h w_3i hp hs
            replace r_6 := r_6.step hs
            replace r_3g := r_3g.step hs
            replace o_36 := o_36.step hs
            replace tb := tb.step hs
            refine ev_storeA hp (i := 0) (off := 0) (vs := [(.int .i64 x_39.Kind), (.int .i64 x_39.Name), (.int .i64 x_39.Count), v_3f]) rfl rfl rfl rfl T24 rfl (Nat.le_of_ble_eq_true rfl) (ones_cons rfl (ones_cons rfl (ones_cons rfl (ones_cons r_3g.one ones_nil)))) ?_
            intro w_3j hp hs
            replace r_6 := r_6.step hs
            replace r_3g := r_3g.step hs
            replace o_36 := o_36.step hs
            replace tb := tb.step hs
            apply go
            apply go
            obtain ⟨⟨x_3k, x_3l⟩, q_3m, q_37⟩ := bind_some q_37
            refine ev_call rfl rfl C33 (((strings_Builder_WriteByte_ok n) _ _  (Builder.mk () x_2x) g_1 [some (g_1, [v_2z, v_30], 46), e_31] ⟨v_2z, v_30, e_31, rfl, z_35, o_36⟩ 32 (hp.lendL [2, 1] (by decide)) _ q_3m).mono ?_)
            rintro _ w_3n ⟨I_3o, F_3p, hv, hq5667, q_3q⟩
            replace hv := hv.symm
            subst hv
            obtain ⟨v_3r, v_3s, e_3t, rfl, z_3u, o_3v⟩ := q_3q
            have hs := hq5667.st
            have hp := hp.backL [2, 1] [0] (by decide) hq5667
            replace r_6 := r_6.step hs
            replace r_3g := r_3g.step hs
            replace tb := tb.step hs
            apply go
            refine ev (rn_load rfl rfl (run_loadVarA T24 rfl (hp.at_ (i := 2) rfl))) ?_
            obtain ⟨x_3w, q_3x, q_37⟩ := bind_some q_37
            refine ev_call rfl rfl C20 ((ih _ _ tb (Builder.mk () x_3l.buf) g_1 [some (g_1, [v_3r, v_3s], 46), e_3t] ⟨v_3r, v_3s, e_3t, rfl, z_3u, o_3v⟩ (Node.mk x_39.Kind x_39.Name x_39.Count x_39.Kids) v_3f r_3g (hp.lendL [0, 1] (by decide)) _ q_3x).mono ?_)
            rintro _ w_3y ⟨I_3z, F_40, hv, hq5679, q_41⟩
            replace hv := hv.symm
            subst hv
            obtain ⟨v_42, v_43, e_44, rfl, z_45, o_46⟩ := q_41
            have hs := hq5679.st
            have hp := hp.backL [0, 1] [2] (by decide) hq5679
            replace r_6 := r_6.step hs
            replace r_3g := r_3g.step hs
            replace tb := tb.step hs
            apply go
            have hp := hp.perm [1, 0] (by decide)
            exact ⟨_, (Option.some.inj q_37).symm, (v_42, v_43, e_44, I_3z), (.c rfl (.c rfl (.c rfl (.c rfl .n)))), ⟨hp, z_45, o_46, r_6, tb⟩⟩
          ·
            have q_37 := cond_f q_37 hc
            apply go
            have q_47 := congrArg some (q_38 _ (Option.some.inj q_37).symm)
            obtain rfl := Option.some.inj q_47
            exact ⟨(x_2x, v_2z, v_30, e_31, I_32), (.c rfl .n), rfl, hp, z_35, o_36, tb⟩
        ·
          rintro ⟨x_48, v_49, v_4a, e_4b, I_4c⟩ w_4d ⟨hy, hp, z_4e, o_4f, tb⟩
          replace hy := hy.symm
          subst hy
          apply go
          obtain ⟨⟨x_4g, x_4h⟩, q_4i, h⟩ := bind_some h
          refine ev_call rfl rfl C33 (((strings_Builder_WriteByte_ok n) _ _  (Builder.mk () x_48) g_1 [some (g_1, [v_49, v_4a], 46), e_4b] ⟨v_49, v_4a, e_4b, rfl, z_4e, o_4f⟩ 41 (hp.lendL [1, 0] (by decide)) _ q_4i).mono ?_)
          rintro _ w_4j ⟨I_4k, F_4l, hv, hq5693, q_4m⟩
          replace hv := hv.symm
          subst hv
          obtain ⟨v_4n, v_4o, e_4p, rfl, z_4q, o_4r⟩ := q_4m
          have hs := hq5693.st
          have hp := hp.backL [1, 0] [] (by decide) hq5693
          replace tb := tb.step hs
          obtain rfl := Option.some.inj h
          exact ⟨I_4k, [some (g_1, [v_4n, v_4o], 46), e_4p], rfl, hp, ⟨v_4n, v_4o, e_4p, rfl, z_4q, o_4r⟩⟩
theorem tree_write_ok : ∀ n, tree_write_S (tree_write n)
  | 0 => by intro w0 I0 tb x_0 g_1 E_2 q_3 x_4 v_5 r_6 hp r h; cases h
  | n + 1 => tree_write_F_ok n _ (tree_write_ok n)

end Go.Proofs.YtknnmbcaoekgmaaDoor

namespace Go.Proofs.YtknnmbcaoekgmaaDoor
open Go Go.Proofs.YtknnmbcaoekgmaaDoor.Gw Go.RowKit
set_option linter.unusedVariables false
attribute [local irreducible] Ev EvQ EvS EvH
def tree_Text_S (f : Node → Option ByteArray) : Prop := ∀ (w0 : World) (I0 : Nat → Prop) (tb : Tb w0 I0 1 .u64 pow10) (x_0 : Node) (v_1 : Value) (r_2 : RepS dNode w0 I0 v_1 x_0.Kids) (hI : ∀ g, I0 g → g < w0.heap.size) (r : ByteArray), f x_0 = some r →
    Ret Tryd.prog 7 #[(.agg #[(.int .i64 x_0.Kind), (.int .i64 x_0.Name), (.int .i64 x_0.Count), v_1])] w0 fun v w1 => v = (.string r) ∧ Ch [] w0 w1

theorem CBuilderString : CF Tryd.prog 21 := ⟨_, Tryd.func21, rfl, by kernel_rfl⟩
theorem TBuilder : TI Tryd.prog 46 2 32 (.agg #[.pointer none, .slice none 0 0]) true := ⟨by kernel_rfl, by kernel_rfl, rfl⟩
theorem tree_Text_ok (n : Nat) : tree_Text_S (tree_Text n) := by
  intro w0 I0 tb t v rt hI r h
  unfold tree_Text at h
  refine enter Tryd.func7 rfl (Nat.le_of_ble_eq_true rfl) ?_
  have hp : Hp ⟨w0, I0, []⟩ I0 [] w0 := Hp.start hI
  apply go
  apply go
  refine ev_boxI hp rfl rfl ?_
  intro p I1 w1 hp hs a
  replace rt := rt.step hs
  replace tb := tb.step hs
  apply go
  apply go
  apply go
  refine ev (rn_load rfl rfl (run_loadVarA T24 rfl a)) ?_
  obtain ⟨ok, q, h⟩ := bind_some h
  refine ev_call rfl rfl C19 (((tree_Valid_ok n) _ _  t v rt hp.imm _ q).mono ?_)
  rintro _ w2 ⟨rfl, hc⟩
  have hs := hp.stp hc
  replace hp := hp.ext hc
  replace a := a.step hs
  replace rt := rt.step hs
  replace tb := tb.step hs
  apply go
  refine sel_of (fun hc => ?_) (fun hc => ?_)
  ·
    have hf : ok = false := by simpa using hc
    subst hf
    replace h : some ByteArray.empty = some r := h
    apply go
    apply go
    apply go
    obtain rfl := Option.some.inj h
    exact ⟨rfl, hp.ch⟩
  ·
    have hf : ok = true := by simpa using hc
    subst hf
    replace h : ((tree_write n (Builder.mk () []) t).bind fun b => strO b.buf) = some r := h
    obtain ⟨b, q2, h⟩ := bind_some h
    apply go
    apply go
    apply go
    refine ev_alloc hp rfl TBuilder ?_
    intro g w3 hp3 hs
    replace a := a.step hs
    replace rt := rt.step hs
    replace tb := tb.step hs
    have hgw : w0.heap.size ≤ g := by
      rcases (hp3.own 0 g _ _ rfl).2.2 with h0 | h0
      · exact h0
      · cases h0
    replace hp := hp3.none_
    have o := OwnS.nil (dI .u8) 5 w3 I1
    have hp : Hp ⟨w0, I0, []⟩ I1 [some (g, [.pointer none, .slice none 0 0], 46), none] w3 := hp.perm [1, 0] (by decide)
    apply go
    apply go
    refine ev (rn_load rfl rfl (run_loadVarA T24 rfl a)) ?_
    refine ev_call rfl rfl C20 (((tree_write_ok n) _ _ tb (Builder.mk () []) g _ ⟨_, _, _, rfl, .inl rfl, o⟩ t v rt (hp.lendL [0, 1] (by decide)) _ q2).mono ?_)
    rintro _ w4 ⟨I2, F, hv, hq, hb⟩
    replace hv := hv.symm; subst hv
    have hp := hp.backL [0, 1] [] (by decide) hq
    obtain ⟨va, v4, e4, rfl, hsf, ho4⟩ := hb
    obtain ⟨l, hl, rfl⟩ := Option.map_eq_some_iff.1 h
    have hB : Lib.IsBuilder 46 5 w0.heap.size g (Lib.byteCells l) w4 := hp.builder hsf ho4 hl hgw (fun g' cs t' e => by
      subst e
      rcases (hp.own 1 g' cs t' rfl).2.2 with h0 | h0
      · exact h0
      · cases h0)
    apply go
    apply go
    have hstr : Ret Tryd.prog 21 #[.pointer (some ⟨g, 0, none⟩)] w4 (fun v w' => v = .string ⟨l.toArray⟩ ∧ Below w0.heap.size w4 w') := Calls.mono (sh_Builder_String_any w0.heap.size g l w4 hB hp.ch.size) (fun _ w' hx => ⟨_, hx.1, rfl, hx.2⟩)
    refine ev_call rfl rfl CBuilderString (hstr.mono ?_)
    rintro _ w5 ⟨rfl, hb5⟩
    apply go
    exact ⟨rfl, ch_below (hp.ch.below.trans hb5)⟩

end Go.Proofs.YtknnmbcaoekgmaaDoor

namespace Go.Proofs.YtknnmbcaoekgmaaDoor
open Go Go.Proofs.YtknnmbcaoekgmaaDoor.Gw Go.RowKit
set_option linter.unusedVariables false
attribute [local irreducible] Ev EvQ EvS EvH
def tree_parser_take_S (f : Parser → Int → Option (Bool × Parser)) : Prop := ∀ (w0 : World) (I0 : Nat → Prop) (x_0 : Parser) (g_1 : Nat) (E_2 : List Ent) (q_3 : qP w0 I0 g_1 E_2 x_0) (x_4 : Int) (hp : Hp ⟨w0, I0, blks E_2⟩ I0 E_2 w0) (r : (Bool × Parser)), f x_0 x_4 = some r →
    Ret Tryd.prog 38 #[(.pointer (some ⟨g_1, 0, none⟩)), (.int .u8 x_4)] w0 fun v w1 => ∃ (I1 : Nat → Prop) (u_5 : List Ent), v = (.bool r.1) ∧ Hp ⟨w0, I0, blks E_2⟩ I1 u_5 w1 ∧ qP w1 I1 g_1 u_5 r.2
theorem tree_parser_take_ok (n : Nat) : tree_parser_take_S (tree_parser_take n) := by
  intro w0 I0 x_0 g_1 E_2 q_3 x_4 hp r h
  unfold tree_parser_take at h
  refine enter Tryd.func38 rfl (Nat.le_of_ble_eq_true rfl) ?_
  generalize blks E_2 = B at hp ⊢
  obtain rfl := q_3
  have hp : Hp ⟨w0, I0, B⟩ I0 [some (g_1, [(.string x_0.s), (.int .i64 x_0.nodes)], 51)] w0 := hp
  apply go
  apply go
  apply go
  obtain ⟨y_5, q_6, h⟩ := bind_some h
  refine W.cut (γ := Bool) (fun g => [(0, (.pointer (some ⟨g_1, 0, none⟩))), (18, (.bool (g)))]) (fun g w' => y_5 = (g) ∧ w0 = w') ?_ ?_
  ·
    apply go
    refine ev0 (rn_field rfl rfl FO51_0) ?_
    refine ev (rn_load rfl rfl (run_loadVar1 T9 (hp.cell (i := 0) (off := 0) rfl rfl))) ?_
    refine sel_of (fun hc => ?_) (fun hc => ?_)
    ·
      have q_6 := cond_t q_6 hc
      obtain rfl := Option.some.inj q_6
      exact ⟨true, (.c rfl (.c rfl .n)), rfl, rfl⟩
    ·
      have q_6 := cond_f q_6 hc
      refine ev0 (rn_field rfl rfl FO51_0) ?_
      refine ev (rn_load rfl rfl (run_loadVar1 T9 (hp.cell (i := 0) (off := 0) rfl rfl))) ?_
      obtain ⟨x_7, q_8, q_6⟩ := bind_some q_6
      refine ev0 (rn_indexS rfl rfl rfl Tryd.underlying9 q_8) ?_
      obtain rfl := Option.some.inj q_6
      exact ⟨(x_7 != x_4), (.c rfl (.c rfl .n)), rfl, rfl⟩
  ·
    rintro x_9 _ ⟨hy, rfl⟩
    replace hy := hy.symm
    subst hy
    apply go
    refine sel_of (fun hc => ?_) (fun hc => ?_)
    ·
      have h := cond_t h hc
      apply go
      apply go
      apply go
      obtain rfl := Option.some.inj h
      exact ⟨I0, [some (g_1, [(.string x_0.s), (.int .i64 x_0.nodes)], 51)], rfl, hp, rfl⟩
    ·
      have h := cond_f h hc
      apply go
      apply go
      apply go
      refine ev0 (rn_field rfl rfl FO51_0) ?_
      refine ev (rn_load rfl rfl (run_loadVar1 T9 (hp.cell (i := 0) (off := 0) rfl rfl))) ?_
      obtain ⟨x_a, q_b, h⟩ := bind_some h
      refine ev0 (rn_sliceStr (kl := .i64) (kh := .i64) rfl rfl rfl rfl Tryd.underlying9 q_b) ?_
      refine ev0 (rn_field rfl rfl FO51_0) ?_
      refine ev_store1 hp (i := 0) (off := 0) rfl rfl rfl rfl T9 rfl (Nat.le_of_ble_eq_true rfl) ?_
      intro w_c hp hs
      apply go
      apply go
      apply go
      obtain rfl := Option.some.inj h
      exact ⟨I0, [some (g_1, [(.string x_a), (.int .i64 x_0.nodes)], 51)], rfl, hp, rfl⟩

end Go.Proofs.YtknnmbcaoekgmaaDoor

namespace Go.Proofs.YtknnmbcaoekgmaaDoor
open Go Go.Proofs.YtknnmbcaoekgmaaDoor.Gw Go.RowKit
set_option linter.unusedVariables false
attribute [local irreducible] Ev EvQ EvS EvH
def strings_IndexByte_S (f : ByteArray → Int → Option Int) : Prop := ∀ (w0 : World) (I0 : Nat → Prop) (x_0 : ByteArray) (x_1 : Int) (hI : ∀ g, I0 g → g < w0.heap.size) (r : Int), f x_0 x_1 = some r →
    Ret Tryd.prog 39 #[(.string x_0), (.int .u8 x_1)] w0 fun v w1 => v = (.int .i64 r) ∧ Ch [] w0 w1

theorem strings_IndexByte_ok (n : Nat) : strings_IndexByte_S (strings_IndexByte n) := by
  intro w0 I0 s c hI r h
  obtain rfl := Option.some.inj h
  exact ret_same (sh_strings_IndexByte s c w0)

end Go.Proofs.YtknnmbcaoekgmaaDoor

namespace Go.Proofs.YtknnmbcaoekgmaaDoor
open Go Go.Proofs.YtknnmbcaoekgmaaDoor.Gw Go.RowKit
set_option linter.unusedVariables false
attribute [local irreducible] Ev EvQ EvS EvH
def strconv_Atoi_S (f : ByteArray → Option (Int × Unit)) : Prop := ∀ (w0 : World) (I0 : Nat → Prop) (tb : Tb w0 I0 1 .u64 pow10) (x_0 : ByteArray) (hI : ∀ g, I0 g → g < w0.heap.size) (r : (Int × Unit)), f x_0 = some r →
    Ret Tryd.prog 52 #[(.string x_0)] w0 fun v w1 => v = (.tuple #[(.int .i64 r.1), .nilIface]) ∧ Ch [] w0 w1

theorem strconv_Atoi_ok (n : Nat) : strconv_Atoi_S (strconv_Atoi n) := by
  intro w0 I0 tb s hI r h
  unfold strconv_Atoi at h
  split at h
  · rename_i hs
    obtain ⟨z, hz, rfl⟩ := Option.map_eq_some_iff.1 h
    apply ret_below
    refine Calls.mono (sh_strconv_Atoi s z hs hz w0) ?_
    rintro e w1 ⟨rfl, t, rfl⟩
    exact ⟨rfl, below_bytesWorld w0 _ t⟩
  · cases h

end Go.Proofs.YtknnmbcaoekgmaaDoor

namespace Go.Proofs.YtknnmbcaoekgmaaDoor
open Go Go.Proofs.YtknnmbcaoekgmaaDoor.Gw Go.RowKit
set_option linter.unusedVariables false
attribute [local irreducible] Ev EvQ EvS EvH
def tree_parser_number_S (f : Parser → Option (Int × Bool × Parser)) : Prop := ∀ (w0 : World) (I0 : Nat → Prop) (tb : Tb w0 I0 1 .u64 pow10) (x_0 : Parser) (g_1 : Nat) (E_2 : List Ent) (q_3 : qP w0 I0 g_1 E_2 x_0) (hp : Hp ⟨w0, I0, blks E_2⟩ I0 E_2 w0) (r : (Int × Bool × Parser)), f x_0 = some r →
    Ret Tryd.prog 40 #[(.pointer (some ⟨g_1, 0, none⟩))] w0 fun v w1 => ∃ (I1 : Nat → Prop) (u_4 : List Ent), v = (.tuple #[(.int .i64 r.1), (.bool r.2.1)]) ∧ Hp ⟨w0, I0, blks E_2⟩ I1 u_4 w1 ∧ qP w1 I1 g_1 u_4 r.2.2
theorem tree_parser_number_ok (n : Nat) : tree_parser_number_S (tree_parser_number n) := by
  intro w0 I0 tb x_0 g_1 E_2 q_3 hp r h
  unfold tree_parser_number at h
  refine enter Tryd.func40 rfl (Nat.le_of_ble_eq_true rfl) ?_
  generalize blks E_2 = B at hp ⊢
  obtain rfl := q_3
  have hp : Hp ⟨w0, I0, B⟩ I0 [some (g_1, [(.string x_0.s), (.int .i64 x_0.nodes)], 51)] w0 := hp
  apply go
  apply go
  apply go
  apply go
  obtain ⟨y_4, q_5, h⟩ := bind_some h
  refine W.cut (γ := Int) (fun g => [(0, (.pointer (some ⟨g_1, 0, none⟩))), (4, (.int .i64 (g)))]) (fun g w' => y_4 = (g) ∧ w0 = w') ?_ ?_
  ·
    apply go
    refine W.loop q_5 (γ := Unit) (fun s _ => [(0, (.pointer (some ⟨g_1, 0, none⟩))), (4, (.int .i64 (s)))]) (fun s _ w' => w0 = w') () (.c rfl (.c rfl .n)) rfl ?_
    rintro x_6 ⟨⟩ _ y_7 rfl q_8 q_9
    unfold tree_parser_number_L1 at q_8
    apply go
    obtain ⟨y_a, q_b, q_8⟩ := bind_some q_8
    refine W.cut (γ := Bool) (fun g => [(0, (.pointer (some ⟨g_1, 0, none⟩))), (4, (.int .i64 x_6)), (31, (.bool (g)))]) (fun g w' => y_a = (g) ∧ w0 = w') ?_ ?_
    ·
      apply go
      refine ev0 (rn_field rfl rfl FO51_0) ?_
      refine ev (rn_load rfl rfl (run_loadVar1 T9 (hp.cell (i := 0) (off := 0) rfl rfl))) ?_
      refine ev0 (rn_lenS rfl rfl Tryd.underlying9) ?_
      refine sel_of (fun hc => ?_) (fun hc => ?_)
      ·
        have q_b := cond_t q_b hc
        refine ev0 (rn_field rfl rfl FO51_0) ?_
        refine ev (rn_load rfl rfl (run_loadVar1 T9 (hp.cell (i := 0) (off := 0) rfl rfl))) ?_
        obtain ⟨x_c, q_d, q_b⟩ := bind_some q_b
        refine ev0 (rn_indexS rfl rfl rfl Tryd.underlying9 q_d) ?_
        refine sel_of (fun hc => ?_) (fun hc => ?_)
        ·
          have q_b := cond_t q_b hc
          refine ev0 (rn_field rfl rfl FO51_0) ?_
          refine ev (rn_load rfl rfl (run_loadVar1 T9 (hp.cell (i := 0) (off := 0) rfl rfl))) ?_
          obtain ⟨x_e, q_f, q_b⟩ := bind_some q_b
          refine ev0 (rn_indexS rfl rfl rfl Tryd.underlying9 q_f) ?_
          obtain rfl := Option.some.inj q_b
          exact ⟨(decide (x_e ≤ 57)), (.c rfl (.c rfl (.c rfl .n))), rfl, rfl⟩
        ·
          have q_b := cond_f q_b hc
          obtain rfl := Option.some.inj q_b
          exact ⟨false, (.c rfl (.c rfl (.c rfl .n))), rfl, rfl⟩
      ·
        have q_b := cond_f q_b hc
        obtain rfl := Option.some.inj q_b
        exact ⟨false, (.c rfl (.c rfl (.c rfl .n))), rfl, rfl⟩
    ·
      rintro x_g _ ⟨hy, rfl⟩
      replace hy := hy.symm
      subst hy
      apply go
      refine sel_of (fun hc => ?_) (fun hc => ?_)
      ·
        have q_8 := cond_t q_8 hc
        apply go
        apply go
        apply go
        exact ⟨_, (Option.some.inj q_8).symm, (), (.c rfl (.c rfl .n)), rfl⟩
      ·
        have q_8 := cond_f q_8 hc
        apply go
        have q_h := congrArg some (q_9 _ (Option.some.inj q_8).symm)
        obtain rfl := Option.some.inj q_h
        exact ⟨x_6, (.c rfl (.c rfl .n)), rfl, rfl⟩
  ·
    rintro x_i _ ⟨hy, rfl⟩
    replace hy := hy.symm
    subst hy
    apply go
    obtain ⟨y_j, q_k, h⟩ := bind_some h
    refine W.cut (γ := Bool) (fun g => [(0, (.pointer (some ⟨g_1, 0, none⟩))), (4, (.int .i64 x_i)), (51, (.bool (g)))]) (fun g w' => y_j = (g) ∧ w0 = w') ?_ ?_
    ·
      apply go
      refine sel_of (fun hc => ?_) (fun hc => ?_)
      ·
        have q_k := cond_t q_k hc
        obtain rfl := Option.some.inj q_k
        exact ⟨true, (.c rfl (.c rfl (.c rfl .n))), rfl, rfl⟩
      ·
        have q_k := cond_f q_k hc
        refine sel_of (fun hc => ?_) (fun hc => ?_)
        ·
          have q_k := cond_t q_k hc
          obtain rfl := Option.some.inj q_k
          exact ⟨true, (.c rfl (.c rfl (.c rfl .n))), rfl, rfl⟩
        ·
          have q_k := cond_f q_k hc
          refine ev0 (rn_field rfl rfl FO51_0) ?_
          refine ev (rn_load rfl rfl (run_loadVar1 T9 (hp.cell (i := 0) (off := 0) rfl rfl))) ?_
          obtain ⟨x_l, q_m, q_k⟩ := bind_some q_k
          refine ev0 (rn_indexS rfl rfl rfl Tryd.underlying9 q_m) ?_
          refine sel_of (fun hc => ?_) (fun hc => ?_)
          ·
            have q_k := cond_t q_k hc
            obtain rfl := Option.some.inj q_k
            exact ⟨(decide (x_i > 1)), (.c rfl (.c rfl (.c rfl .n))), rfl, rfl⟩
          ·
            have q_k := cond_f q_k hc
            obtain rfl := Option.some.inj q_k
            exact ⟨false, (.c rfl (.c rfl (.c rfl .n))), rfl, rfl⟩
    ·
      rintro x_n _ ⟨hy, rfl⟩
      replace hy := hy.symm
      subst hy
      apply go
      refine sel_of (fun hc => ?_) (fun hc => ?_)
      ·
        have h := cond_t h hc
        apply go
        apply go
        apply go
        obtain rfl := Option.some.inj h
        exact ⟨I0, [some (g_1, [(.string x_0.s), (.int .i64 x_0.nodes)], 51)], rfl, hp, rfl⟩
      ·
        have h := cond_f h hc
        apply go
        apply go
        apply go
        refine ev0 (rn_field rfl rfl FO51_0) ?_
        refine ev (rn_load rfl rfl (run_loadVar1 T9 (hp.cell (i := 0) (off := 0) rfl rfl))) ?_
        obtain ⟨x_o, q_p, h⟩ := bind_some h
        refine ev0 (rn_sliceStr (kl := .i64) (kh := .i64) rfl rfl rfl rfl Tryd.underlying9 q_p) ?_
        obtain ⟨⟨x_q, x_r⟩, q_s, h⟩ := bind_some h
        refine ev_call rfl rfl C52 (((strconv_Atoi_ok n) _ _ tb x_o hp.imm _ q_s).mono ?_)
        rintro _ w_t ⟨rfl, hc⟩
        have hs := hp.stp hc
        replace hp := hp.ext hc
        replace tb := tb.step hs
        apply go
        apply go
        refine ev0 (rn_field rfl rfl FO51_0) ?_
        refine ev (rn_load rfl rfl (run_loadVar1 T9 (hp.cell (i := 0) (off := 0) rfl rfl))) ?_
        obtain ⟨x_u, q_v, h⟩ := bind_some h
        refine ev0 (rn_sliceStr (kl := .i64) (kh := .i64) rfl rfl rfl rfl Tryd.underlying9 q_v) ?_
        refine ev0 (rn_field rfl rfl FO51_0) ?_
        refine ev_store1 hp (i := 0) (off := 0) rfl rfl rfl rfl T9 rfl (Nat.le_of_ble_eq_true rfl) ?_
        intro w_w hp hs
        replace tb := tb.step hs
        apply go
        apply go
        apply go
        obtain rfl := Option.some.inj h
        exact ⟨I0, [some (g_1, [(.string x_u), (.int .i64 x_0.nodes)], 51)], rfl, hp, rfl⟩

end Go.Proofs.YtknnmbcaoekgmaaDoor
