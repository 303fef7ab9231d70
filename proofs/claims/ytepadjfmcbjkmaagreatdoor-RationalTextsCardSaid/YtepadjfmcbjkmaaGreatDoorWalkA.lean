/-
  Each function of the program computes the plain function of its name.
-/
import Derived.Test.YtepadjfmcbjkmaaGreatDoorFactsA
import Derived.Lib.Walk
import Derived.BigCall
import Derived.BigGuard
import Derived.Test.YtepadjfmcbjkmaaGreatDoorCoreA
namespace Go.Proofs.YtepadjfmcbjkmaaGreatDoor
open Go Go.Proofs.YtepadjfmcbjkmaaGreatDoor.Gw Go.RowKit
set_option linter.unusedVariables false
attribute [local irreducible] Ev EvQ EvS EvH
def integer_trim_S (f : (List Int) → Option (List Int)) : Prop := ∀ (w0 : World) (I0 : Nat → Prop) (x1 : (List Int)) (v2 : Value) (r3 : RepS (dI .u32) w0 I0 v2 x1) (hI : ∀ g, I0 g → g < w0.heap.size) (r : (List Int)), f x1 = some r →
    Ret Tryz.prog 72 #[v2] w0 fun v w1 => ∃ (I1 : Nat → Prop) (u4 : Value), v = u4 ∧ Hp ⟨w0, I0, []⟩ I1 [] w1 ∧ RepS (dI .u32) w1 I1 u4 r
theorem integer_trim_ok (n : Nat) : integer_trim_S (integer_trim n) := by
  intro w0 I0 x1 v2 r3 hI r h
  unfold integer_trim at h
  refine enter Tryz.func72 rfl (Nat.le_of_ble_eq_true rfl) ?_
  have hp : Hp ⟨w0, I0, []⟩ I0 [] w0 := Hp.start hI
  apply go
  apply go
  obtain ⟨y75, q76, h⟩ := bind_some h
  refine W.cut (γ := ((List Int) × Value)) (fun g => [(0, (g.2))]) (fun g w' => y75 = (g.1) ∧ w0 = w' ∧ RepS (dI .u32) w' I0 (g.2) (g.1)) ?_ ?_
  ·
    apply go
    refine W.loop q76 (γ := Value) (fun s g => [(0, (g))]) (fun s g w' => w0 = w' ∧ RepS (dI .u32) w' I0 (g) (s)) v2 (.c rfl .n) ⟨rfl, r3⟩ ?_
    rintro x96 v97 _ y121 ⟨rfl, r98⟩ q122 q123
    unfold integer_trim_L1 at q122
    apply go
    obtain ⟨y131, q132, q122⟩ := bind_some q122
    refine W.cut (γ := Bool) (fun g => [(0, v97), (14, (.bool (g)))]) (fun g w' => y131 = (g) ∧ w0 = w') ?_ ?_
    ·
      apply go
      refine ev0 (rn_len rfl rfl Tryz.underlying22 r98) ?_
      refine sel_of (fun hc => ?_) (fun hc => ?_)
      ·
        have q132 := cond_t q132 hc
        refine ev0 (rn_len rfl rfl Tryz.underlying22 r98) ?_
        obtain ⟨x133, q134, q132⟩ := bind_some q132
        refine ev_index rfl rfl rfl Tryz.underlying22 T46 r98 q134 ?_
        intro p135 c136 d137 a138
        obtain rfl : c136 = [(.int .u32 x133)] := d137
        refine ev (rn_load rfl rfl (run_loadVar1 T46 (a138.2 0 _ rfl))) ?_
        obtain rfl := Option.some.inj q132
        exact ⟨(x133 == 0), (.c rfl (.c rfl .n)), rfl, rfl⟩
      ·
        have q132 := cond_f q132 hc
        obtain rfl := Option.some.inj q132
        exact ⟨false, (.c rfl (.c rfl .n)), rfl, rfl⟩
    ·
      rintro x130 _ ⟨hy, rfl⟩
      replace hy := hy.symm
      subst hy
      apply go
      refine sel_of (fun hc => ?_) (fun hc => ?_)
      ·
        have q122 := cond_t q122 hc
        apply go
        apply go
        apply go
        refine ev0 (rn_len rfl rfl Tryz.underlying22 r98) ?_
        obtain ⟨x139, q140, q122⟩ := bind_some q122
        refine ev_slice (kl := .i64) (kh := .i64) rfl rfl rfl rfl Tryz.underlying22 T46 r98 q140 ?_
        intro v141 r142
        exact ⟨_, (Option.some.inj q122).symm, v141, (.c rfl .n), ⟨rfl, r142⟩⟩
      ·
        have q122 := cond_f q122 hc
        apply go
        have q143 := congrArg some (q123 _ (Option.some.inj q122).symm)
        obtain rfl := Option.some.inj q143
        exact ⟨(x96, v97), (.c rfl .n), rfl, rfl, r98⟩
  ·
    rintro ⟨x72, v73⟩ _ ⟨hy, rfl, r74⟩
    replace hy := hy.symm
    subst hy
    apply go
    apply go
    apply go
    obtain rfl := Option.some.inj h
    exact ⟨I0, v73, rfl, hp, r74⟩

end Go.Proofs.YtepadjfmcbjkmaaGreatDoor

namespace Go.Proofs.YtepadjfmcbjkmaaGreatDoor
open Go Go.Proofs.YtepadjfmcbjkmaaGreatDoor.Gw Go.RowKit
set_option linter.unusedVariables false
attribute [local irreducible] Ev EvQ EvS EvH
def integer_Sign_S (f : Int_2 → Option Int) : Prop := ∀ (w0 : World) (I0 : Nat → Prop) (x181 : Int_2) (v182 : Value) (r183 : RepS (dI .u32) w0 I0 v182 x181.Mag) (hI : ∀ g, I0 g → g < w0.heap.size) (r : Int), f x181 = some r →
    Ret Tryz.prog 39 #[(.agg #[(.bool x181.Neg), v182])] w0 fun v w1 => v = (.int .i64 r) ∧ Ch [] w0 w1
theorem integer_Sign_ok (n : Nat) : integer_Sign_S (integer_Sign n) := by
  intro w0 I0 x181 v182 r183 hI r h
  unfold integer_Sign at h
  refine enter Tryz.func39 rfl (Nat.le_of_ble_eq_true rfl) ?_
  have hp : Hp ⟨w0, I0, []⟩ I0 [] w0 := Hp.start hI
  apply go
  apply go
  refine ev_boxI hp rfl rfl ?_
  intro p186 I187 w185 hp hs a188
  replace r183 := r183.step hs
  apply go
  apply go
  apply go
  apply go
  refine ev0 (rn_field rfl rfl FO24_1) ?_
  refine ev (rn_load rfl rfl (run_loadVar1 T22 (a188.2 1 _ rfl))) ?_
  obtain ⟨x189, q190, h⟩ := bind_some h
  refine ev_call rfl rfl C72 (((integer_trim_ok n) _ _  x181.Mag v182 r183 hp.imm _ q190).mono ?_)
  rintro _ w191 ⟨I192, v193, hv, hq, r194⟩
  replace hv := hv.symm
  subst hv
  have hs := hq.st
  have hp := hp.join0 hq
  replace a188 := a188.step hs
  replace r183 := r183.step hs
  refine ev0 (rn_len rfl rfl Tryz.underlying22 r194) ?_
  apply go
  refine sel_of (fun hc => ?_) (fun hc => ?_)
  ·
    have h := cond_t h hc
    apply go
    apply go
    apply go
    obtain rfl := Option.some.inj h
    exact ⟨rfl, hp.ch⟩
  ·
    have h := cond_f h hc
    apply go
    apply go
    refine ev0 (rn_field rfl rfl FO24_0) ?_
    refine ev (rn_load rfl rfl (run_loadVar1 T4 (a188.2 0 _ rfl))) ?_
    apply go
    refine sel_of (fun hc => ?_) (fun hc => ?_)
    ·
      have h := cond_t h hc
      apply go
      apply go
      apply go
      obtain rfl := Option.some.inj h
      exact ⟨rfl, hp.ch⟩
    ·
      have h := cond_f h hc
      apply go
      apply go
      apply go
      apply go
      obtain rfl := Option.some.inj h
      exact ⟨rfl, hp.ch⟩

end Go.Proofs.YtepadjfmcbjkmaaGreatDoor

namespace Go.Proofs.YtepadjfmcbjkmaaGreatDoor
open Go Go.Proofs.YtepadjfmcbjkmaaGreatDoor.Gw Go.RowKit
set_option linter.unusedVariables false
attribute [local irreducible] Ev EvQ EvS EvH
def integer_compare_S (f : (List Int) → (List Int) → Option Int) : Prop := ∀ (w0 : World) (I0 : Nat → Prop) (x291 : (List Int)) (v292 : Value) (r293 : RepS (dI .u32) w0 I0 v292 x291) (x294 : (List Int)) (v295 : Value) (r296 : RepS (dI .u32) w0 I0 v295 x294) (hI : ∀ g, I0 g → g < w0.heap.size) (r : Int), f x291 x294 = some r →
    Ret Tryz.prog 79 #[v292, v295] w0 fun v w1 => v = (.int .i64 r) ∧ Ch [] w0 w1
theorem integer_compare_ok (n : Nat) : integer_compare_S (integer_compare n) := by
  intro w0 I0 x291 v292 r293 x294 v295 r296 hI r h
  unfold integer_compare at h
  refine enter Tryz.func79 rfl (Nat.le_of_ble_eq_true rfl) ?_
  have hp : Hp ⟨w0, I0, []⟩ I0 [] w0 := Hp.start hI
  apply go
  apply go
  apply go
  apply go
  apply go
  refine ev0 (rn_len rfl rfl Tryz.underlying22 r293) ?_
  refine ev0 (rn_len rfl rfl Tryz.underlying22 r296) ?_
  apply go
  refine sel_of (fun hc => ?_) (fun hc => ?_)
  ·
    have h := cond_t h hc
    apply go
    apply go
    apply go
    refine ev0 (rn_len rfl rfl Tryz.underlying22 r293) ?_
    refine ev0 (rn_len rfl rfl Tryz.underlying22 r296) ?_
    apply go
    refine sel_of (fun hc => ?_) (fun hc => ?_)
    ·
      have h := cond_t h hc
      apply go
      apply go
      apply go
      obtain rfl := Option.some.inj h
      exact ⟨rfl, hp.ch⟩
    ·
      have h := cond_f h hc
      apply go
      apply go
      apply go
      apply go
      obtain rfl := Option.some.inj h
      exact ⟨rfl, hp.ch⟩
  ·
    have h := cond_f h hc
    apply go
    obtain ⟨y385, q386, h⟩ := bind_some h
    refine W.cut (γ := Unit) (fun _ => []) (fun _ w' => y385 = .go () ∧ Hp ⟨w0, I0, []⟩ I0 [] w') ?_ ?_
    ·
      apply go
      apply go
      refine ev0 (rn_len rfl rfl Tryz.underlying22 r293) ?_
      apply go
      refine W.loop q386 (γ := Unit) (fun s _ => [(0, v292), (1, v295), (5, (.int .i64 (s)))]) (fun s _ w' => Hp ⟨w0, I0, []⟩ I0 [] w' ∧ RepS (dI .u32) w' I0 v292 x291 ∧ RepS (dI .u32) w' I0 v295 x294) () (.c rfl (.c rfl (.c rfl .n))) ⟨hp, r293, r296⟩ ?_
      rintro x413 ⟨⟩ w441 y442 ⟨hp, r293, r296⟩ q443 q444
      unfold integer_compare_L1 at q443
      apply go
      apply go
      apply go
      apply go
      refine sel_of (fun hc => ?_) (fun hc => ?_)
      ·
        have q443 := cond_t q443 hc
        apply go
        apply go
        apply go
        apply go
        refine W.quiet (fun w' => Ch [] w441 w') MX (by kernel_rfl) (Ch.drew [] w441) ?_
        obtain ⟨x445, q446, q443⟩ := bind_some q443
        refine evq_index rfl rfl rfl Tryz.underlying22 T46 r293 q446 ?_
        intro p447 c448 d449 a450
        obtain rfl : c448 = [(.int .u32 x445)] := d449
        refine evq (fun w' hw => rn_load rfl rfl (run_loadVar1 T46 ((a450.step (hp.stp hw)).2 0 _ rfl))) ?_
        obtain ⟨x451, q452, q443⟩ := bind_some q443
        refine evq_index rfl rfl rfl Tryz.underlying22 T46 r296 q452 ?_
        intro p453 c454 d455 a456
        obtain rfl : c454 = [(.int .u32 x451)] := d455
        refine evq (fun w' hw => rn_load rfl rfl (run_loadVar1 T46 ((a456.step (hp.stp hw)).2 0 _ rfl))) ?_
        intro w457 hc
        have hs := hp.stp hc
        replace hp := hp.ext hc
        replace r293 := r293.step hs
        replace r296 := r296.step hs
        apply go
        refine sel_of (fun hc => ?_) (fun hc => ?_)
        ·
          have q443 := cond_t q443 hc
          apply go
          apply go
          refine W.quiet (fun w' => Ch [] w457 w') MX (by kernel_rfl) (Ch.drew [] w457) ?_
          obtain ⟨x458, q459, q443⟩ := bind_some q443
          refine evq_index rfl rfl rfl Tryz.underlying22 T46 r293 q459 ?_
          intro p460 c461 d462 a463
          obtain rfl : c461 = [(.int .u32 x458)] := d462
          refine evq (fun w' hw => rn_load rfl rfl (run_loadVar1 T46 ((a463.step (hp.stp hw)).2 0 _ rfl))) ?_
          obtain ⟨x464, q465, q443⟩ := bind_some q443
          refine evq_index rfl rfl rfl Tryz.underlying22 T46 r296 q465 ?_
          intro p466 c467 d468 a469
          obtain rfl : c467 = [(.int .u32 x464)] := d468
          refine evq (fun w' hw => rn_load rfl rfl (run_loadVar1 T46 ((a469.step (hp.stp hw)).2 0 _ rfl))) ?_
          intro w470 hc
          have hs := hp.stp hc
          replace hp := hp.ext hc
          apply go
          refine sel_of (fun hc => ?_) (fun hc => ?_)
          ·
            have q443 := cond_t q443 hc
            apply go
            apply go
            apply go
            have q471 := congrArg some (q444 _ (Option.some.inj q443).symm)
            obtain rfl := Option.some.inj q471
            obtain rfl := Option.some.inj h
            exact ⟨rfl, hp.ch⟩
          ·
            have q443 := cond_f q443 hc
            apply go
            apply go
            apply go
            apply go
            have q472 := congrArg some (q444 _ (Option.some.inj q443).symm)
            obtain rfl := Option.some.inj q472
            obtain rfl := Option.some.inj h
            exact ⟨rfl, hp.ch⟩
        ·
          have q443 := cond_f q443 hc
          apply go
          apply go
          exact ⟨_, (Option.some.inj q443).symm, (), (.c rfl (.c rfl (.c rfl .n))), ⟨hp, r293, r296⟩⟩
      ·
        have q443 := cond_f q443 hc
        apply go
        have q473 := congrArg some (q444 _ (Option.some.inj q443).symm)
        obtain rfl := Option.some.inj q473
        exact ⟨(), .n, rfl, hp⟩
    ·
      rintro ⟨⟩ w384 ⟨hy, hp⟩
      replace hy := hy.symm
      subst hy
      apply go
      apply go
      apply go
      obtain rfl := Option.some.inj h
      exact ⟨rfl, hp.ch⟩

end Go.Proofs.YtepadjfmcbjkmaaGreatDoor

namespace Go.Proofs.YtepadjfmcbjkmaaGreatDoor
open Go Go.Proofs.YtepadjfmcbjkmaaGreatDoor.Gw Go.RowKit
set_option linter.unusedVariables false
attribute [local irreducible] Ev EvQ EvS EvH
def integer_made_S (f : Bool → (List Int) → Option Int_2) : Prop := ∀ (w0 : World) (I0 : Nat → Prop) (x144 : Bool) (x145 : (List Int)) (v146 : Value) (r147 : RepS (dI .u32) w0 I0 v146 x145) (hI : ∀ g, I0 g → g < w0.heap.size) (r : Int_2), f x144 x145 = some r →
    Ret Tryz.prog 80 #[(.bool x144), v146] w0 fun v w1 => ∃ (I1 : Nat → Prop) (u148 : Value), v = (.agg #[(.bool r.Neg), u148]) ∧ Hp ⟨w0, I0, []⟩ I1 [] w1 ∧ RepS (dI .u32) w1 I1 u148 r.Mag
theorem integer_made_ok (n : Nat) : integer_made_S (integer_made n) := by
  intro w0 I0 x144 x145 v146 r147 hI r h
  unfold integer_made at h
  refine enter Tryz.func80 rfl (Nat.le_of_ble_eq_true rfl) ?_
  have hp : Hp ⟨w0, I0, []⟩ I0 [] w0 := Hp.start hI
  apply go
  apply go
  refine ev_alloc hp rfl T24 ?_
  intro g149 w150 hp hs
  replace r147 := r147.step hs
  apply go
  apply go
  obtain ⟨x151, q152, h⟩ := bind_some h
  refine ev_call rfl rfl C72 (((integer_trim_ok n) _ _  x145 v146 r147 hp.imm _ q152).mono ?_)
  rintro _ w153 ⟨I154, v155, hv, hq, r156⟩
  replace hv := hv.symm
  subst hv
  have hs := hq.st
  have hp := hp.join0 hq
  apply go
  apply go
  apply go
  refine ev0 (rn_len rfl rfl Tryz.underlying22 r156) ?_
  apply go
  refine sel_of (fun hc => ?_) (fun hc => ?_)
  ·
    have h := cond_t h hc
    apply go
    apply go
    refine ev0 (fun w => rn_build (cs := [(.bool false), (.slice none 0 0)]) rfl rfl T24 PL24 rfl) ?_
    refine ev_storeA hp (i := 0) (off := 0) (vs := [(.bool false), (.slice none 0 0)]) rfl rfl rfl rfl T24 rfl (Nat.le_of_ble_eq_true rfl) (ones_of rfl) ?_
    intro w157 hp hs
    apply go
    obtain rfl := Option.some.inj h
    refine ⟨_, run_loadVarA T24 rfl (hp.at_ (i := 0) rfl), ?_⟩
    have hp := hp.sel [] (by decide)
    exact ⟨I154, .slice none 0 0, rfl, hp, RepS.nil _ _ _⟩
  ·
    have h := cond_f h hc
    apply go
    apply go
    apply go
    obtain ⟨A158, m159, m160, rfl⟩ := r156.isSl
    refine ev0 (fun w => rn_build (cs := [(.bool x144), (.slice A158 m159 m160)]) rfl rfl T24 PL24 rfl) ?_
    refine ev_storeA hp (i := 0) (off := 0) (vs := [(.bool x144), (.slice A158 m159 m160)]) rfl rfl rfl rfl T24 rfl (Nat.le_of_ble_eq_true rfl) (ones_cons rfl (ones_cons r156.one ones_nil)) ?_
    intro w162 hp hs
    replace r156 := r156.step hs
    apply go
    obtain rfl := Option.some.inj h
    refine ⟨_, run_loadVarA T24 rfl (hp.at_ (i := 0) rfl), ?_⟩
    have hp := hp.sel [] (by decide)
    exact ⟨I154, (.slice A158 m159 m160), rfl, hp, r156⟩

end Go.Proofs.YtepadjfmcbjkmaaGreatDoor

namespace Go.Proofs.YtepadjfmcbjkmaaGreatDoor
open Go Go.Proofs.YtepadjfmcbjkmaaGreatDoor.Gw Go.RowKit
set_option linter.unusedVariables false
attribute [local irreducible] Ev EvQ EvS EvH
def bits_Add32_S (f : Int → Int → Int → Option (Int × Int)) : Prop := ∀ (w0 : World) (I0 : Nat → Prop) (x993 : Int) (x994 : Int) (x995 : Int) (hI : ∀ g, I0 g → g < w0.heap.size) (r : (Int × Int)), f x993 x994 x995 = some r →
    Ret Tryz.prog 109 #[(.int .u32 x993), (.int .u32 x994), (.int .u32 x995)] w0 fun v w1 => v = (.tuple #[(.int .u32 r.1), (.int .u32 r.2)]) ∧ Ch [] w0 w1
theorem bits_Add32_ok (n : Nat) : bits_Add32_S (bits_Add32 n) := by
  intro w0 I0 x993 x994 x995 hI r h
  unfold bits_Add32 at h
  refine enter Tryz.func109 rfl (Nat.le_of_ble_eq_true rfl) ?_
  have hp : Hp ⟨w0, I0, []⟩ I0 [] w0 := Hp.start hI
  apply go
  apply go
  apply go
  apply go
  refine ev0 (rn_conv rfl rfl U46 Tryz.underlying75) ?_
  refine ev0 (rn_conv rfl rfl U46 Tryz.underlying75) ?_
  refine ev0 (rn_conv rfl rfl U46 Tryz.underlying75) ?_
  apply go
  apply go
  refine ev0 (rn_conv rfl rfl U75 Tryz.underlying46) ?_
  apply go
  apply go
  refine ⟨by decide, ?_⟩
  refine ev0 (rn_conv rfl rfl U75 Tryz.underlying46) ?_
  apply go
  obtain rfl := Option.some.inj h
  exact ⟨rfl, hp.ch⟩

end Go.Proofs.YtepadjfmcbjkmaaGreatDoor

namespace Go.Proofs.YtepadjfmcbjkmaaGreatDoor
open Go Go.Proofs.YtepadjfmcbjkmaaGreatDoor.Gw Go.RowKit
set_option linter.unusedVariables false
attribute [local irreducible] Ev EvQ EvS EvH
def integer_plus_S (f : (List Int) → (List Int) → Option (List Int)) : Prop := ∀ (w0 : World) (I0 : Nat → Prop) (x_0 : (List Int)) (v_1 : Value) (r_2 : RepS (dI .u32) w0 I0 v_1 x_0) (x_3 : (List Int)) (v_4 : Value) (r_5 : RepS (dI .u32) w0 I0 v_4 x_3) (hI : ∀ g, I0 g → g < w0.heap.size) (r : (List Int)), f x_0 x_3 = some r →
    Ret Tryz.prog 94 #[v_1, v_4] w0 fun v w1 => ∃ (I1 : Nat → Prop) (u_6 : Value), v = u_6 ∧ Hp ⟨w0, I0, []⟩ I1 [] w1 ∧ RepS (dI .u32) w1 I1 u_6 r
theorem integer_plus_ok (n : Nat) : integer_plus_S (integer_plus n) := by
  intro w0 I0 x_0 v_1 r_2 x_3 v_4 r_5 hI r h
  unfold integer_plus at h
  refine enter Tryz.func94 rfl (Nat.le_of_ble_eq_true rfl) ?_
  have hp : Hp ⟨w0, I0, []⟩ I0 [] w0 := Hp.start hI
  apply go
  apply go
  obtain ⟨y_6, q_7, h⟩ := bind_some h
  refine W.cut (γ := ((List Int) × (List Int) × Value × Value)) (fun g => [(0, (g.2.2.1)), (1, (g.2.2.2))]) (fun g w' => y_6 = ((g.1), (g.2.1)) ∧ w0 = w' ∧ RepS (dI .u32) w' I0 (g.2.2.1) (g.1) ∧ RepS (dI .u32) w' I0 (g.2.2.2) (g.2.1)) ?_ ?_
  ·
    apply go
    apply go
    refine ev0 (rn_len rfl rfl Tryz.underlying22 r_2) ?_
    refine ev0 (rn_len rfl rfl Tryz.underlying22 r_5) ?_
    apply go
    refine sel_of (fun hc => ?_) (fun hc => ?_)
    ·
      have q_7 := cond_t q_7 hc
      apply go
      obtain rfl := Option.some.inj q_7
      exact ⟨(x_3, x_0, v_4, v_1), (.c rfl (.c rfl .n)), rfl, rfl, r_5, r_2⟩
    ·
      have q_7 := cond_f q_7 hc
      apply go
      obtain rfl := Option.some.inj q_7
      exact ⟨(x_0, x_3, v_1, v_4), (.c rfl (.c rfl .n)), rfl, rfl, r_2, r_5⟩
  ·
    rintro ⟨x_8, x_9, v_a, v_b⟩ _ ⟨hy, rfl, r_c, r_d⟩
    replace hy := hy.symm
    subst hy
    apply go
    apply go
    refine ev0 (rn_len rfl rfl Tryz.underlying22 r_c) ?_
    obtain ⟨x_e, q_f, h⟩ := bind_some h
    refine ev_makeC (d := (dI .u32)) (x0 := 0) hp rfl rfl rfl Tryz.underlying22 T46 (fun _ _ => rfl) (Nat.le_of_ble_eq_true rfl) q_f ?_
    intro v_g e_h w_i hp hs o_j
    replace r_c := r_c.step hs
    replace r_d := r_d.step hs
    apply go
    apply go
    obtain ⟨y_k, q_l, h⟩ := bind_some h
    refine W.cut (γ := ((List Int) × Int × Value × Ent × (Nat → Prop))) (fun g => [(5, (g.2.2.1)), (6, (.int .u32 (g.2.1)))]) (fun g w' => y_k = ((g.1), (g.2.1)) ∧ Hp ⟨w0, I0, []⟩ (g.2.2.2.2) [(g.2.2.2.1)] w' ∧ OwnS (dI .u32) 46 w' (g.2.2.2.2) (g.2.2.1) (g.2.2.2.1) (g.1)) ?_ ?_
    ·
      apply go
      apply go
      refine ev0 (rn_len rfl rfl Tryz.underlying22 r_c) ?_
      apply go
      refine W.loop q_l (γ := (Value × Ent × (Nat → Prop))) (fun s g => [(1, v_b), (5, (g.1)), (6, (.int .u32 (s.2.1))), (22, v_a), (23, (.int .i64 (x_8.length : Int))), (24, (.int .i64 (s.2.2)))]) (fun s g w' => Hp ⟨w0, I0, []⟩ (g.2.2) [(g.2.1)] w' ∧ RepS (dI .u32) w' (g.2.2) v_b x_9 ∧ OwnS (dI .u32) 46 w' (g.2.2) (g.1) (g.2.1) (s.1) ∧ RepS (dI .u32) w' (g.2.2) v_a x_8) (v_g, e_h, I0) (.c rfl (.c rfl (.c rfl (.c rfl (.c rfl (.c rfl .n)))))) ⟨hp, r_d, o_j, r_c⟩ ?_
      rintro ⟨x_m, x_n, x_o⟩ ⟨v_p, e_q, I_r⟩ w_s y_t ⟨hp, r_d, o_u, r_c⟩ q_v q_w
      unfold integer_plus_L1 at q_v
      apply go
      apply go
      apply go
      apply go
      refine sel_of (fun hc => ?_) (fun hc => ?_)
      ·
        have q_v := cond_t q_v hc
        apply go
        apply go
        apply go
        apply go
        apply go
        obtain ⟨x_x, q_y, q_v⟩ := bind_some q_v
        refine ev_index rfl rfl rfl Tryz.underlying22 T46 r_c q_y ?_
        intro p_z c_10 d_11 a_12
        obtain rfl : c_10 = [(.int .u32 x_x)] := d_11
        refine ev (rn_load rfl rfl (run_loadVar1 T46 (a_12.2 0 _ rfl))) ?_
        apply go
        apply go
        obtain ⟨y_13, q_14, q_v⟩ := bind_some q_v
        refine W.cut (γ := Int) (fun g => [(1, v_b), (5, v_p), (6, (.int .u32 x_n)), (8, (.int .u32 x_x)), (9, (.int .u32 (g))), (22, v_a), (23, (.int .i64 (x_8.length : Int))), (24, (.int .i64 x_o))]) (fun g w' => y_13 = (g) ∧ w_s = w') ?_ ?_
        ·
          apply go
          apply go
          refine ev0 (rn_len rfl rfl Tryz.underlying22 r_d) ?_
          apply go
          refine sel_of (fun hc => ?_) (fun hc => ?_)
          ·
            have q_14 := cond_t q_14 hc
            apply go
            obtain ⟨x_15, q_16, q_14⟩ := bind_some q_14
            refine ev_index rfl rfl rfl Tryz.underlying22 T46 r_d q_16 ?_
            intro p_17 c_18 d_19 a_1a
            obtain rfl : c_18 = [(.int .u32 x_15)] := d_19
            refine ev (rn_load rfl rfl (run_loadVar1 T46 (a_1a.2 0 _ rfl))) ?_
            obtain rfl := Option.some.inj q_14
            exact ⟨x_15, (.c rfl (.c rfl (.c rfl (.c rfl (.c rfl (.c rfl (.c rfl (.c rfl .n)))))))), rfl, rfl⟩
          ·
            have q_14 := cond_f q_14 hc
            apply go
            obtain rfl := Option.some.inj q_14
            exact ⟨0, (.c rfl (.c rfl (.c rfl (.c rfl (.c rfl (.c rfl (.c rfl (.c rfl .n)))))))), rfl, rfl⟩
        ·
          rintro x_1b _ ⟨hy, rfl⟩
          replace hy := hy.symm
          subst hy
          apply go
          apply go
          apply go
          apply go
          obtain ⟨⟨x_1c, x_1d⟩, q_1e, q_v⟩ := bind_some q_v
          refine ev_call rfl rfl C109 (((bits_Add32_ok n) _ _  x_x x_1b x_n hp.imm _ q_1e).mono ?_)
          rintro _ w_1f ⟨rfl, hc⟩
          have hs := hp.stp hc
          replace hp := hp.ext hc
          replace r_d := r_d.step hs
          replace o_u := o_u.step hs
          replace r_c := r_c.step hs
          apply go
          refine ev_litN (d := (dI .u32)) (xs := [x_1c]) (cs := [(.int .u32 x_1c)]) hp rfl rfl Tryz.underlying22 T46 (by decide) rfl rfl (Elems.cons (d := (dI .u32)) (xs := _) rfl (Elems.nil _ _ _ _)) ?_
          intro v_1g I_1h w_1i hp hs r_1j
          replace r_d := r_d.step hs
          replace r_c := r_c.step hs
          replace o_u := o_u.step hs
          obtain ⟨x_1k, q_1l, q_v⟩ := bind_some q_v
          refine ev_append hp (i := 0) rfl rfl rfl rfl Tryz.underlying22 T46 rfl rfl o_u r_1j q_1l ?_
          rintro v_1m e_1n w_1o hp hs o_1p
          replace r_d := r_d.step hs
          replace r_c := r_c.step hs
          apply go
          exact ⟨_, (Option.some.inj q_v).symm, (v_1m, e_1n, I_1h), (.c rfl (.c rfl (.c rfl (.c rfl (.c rfl (.c rfl .n)))))), ⟨hp, r_d, o_1p, r_c⟩⟩
      ·
        have q_v := cond_f q_v hc
        apply go
        have q_1q := congrArg some (q_w _ (Option.some.inj q_v).symm)
        obtain rfl := Option.some.inj q_1q
        exact ⟨(x_m, x_n, v_p, e_q, I_r), (.c rfl (.c rfl .n)), rfl, hp, o_u⟩
    ·
      rintro ⟨x_1r, x_1s, v_1t, e_1u, I_1v⟩ w_1w ⟨hy, hp, o_1x⟩
      replace hy := hy.symm
      subst hy
      apply go
      apply go
      refine ev_litN (d := (dI .u32)) (xs := [x_1s]) (cs := [(.int .u32 x_1s)]) hp rfl rfl Tryz.underlying22 T46 (by decide) rfl rfl (Elems.cons (d := (dI .u32)) (xs := _) rfl (Elems.nil _ _ _ _)) ?_
      intro v_1y I_1z w_20 hp hs r_21
      replace o_1x := o_1x.step hs
      obtain ⟨x_22, q_23, h⟩ := bind_some h
      refine ev_append hp (i := 0) rfl rfl rfl rfl Tryz.underlying22 T46 rfl rfl o_1x r_21 q_23 ?_
      rintro v_24 e_25 w_26 hp hs o_27
      apply go
      obtain rfl := Option.some.inj h
      have r_28 := o_27.frz hp (i := 0) rfl
      obtain ⟨hp, hs⟩ := freeze_hp hp (i := 0) rfl
      have hp := hp.sel [] (by decide)
      exact ⟨(Ad I_1z e_25), v_24, rfl, hp, r_28⟩

end Go.Proofs.YtepadjfmcbjkmaaGreatDoor

namespace Go.Proofs.YtepadjfmcbjkmaaGreatDoor
open Go Go.Proofs.YtepadjfmcbjkmaaGreatDoor.Gw Go.RowKit
set_option linter.unusedVariables false
attribute [local irreducible] Ev EvQ EvS EvH
def bits_Sub32_S (f : Int → Int → Int → Option (Int × Int)) : Prop := ∀ (w0 : World) (I0 : Nat → Prop) (x990 : Int) (x991 : Int) (x992 : Int) (hI : ∀ g, I0 g → g < w0.heap.size) (r : (Int × Int)), f x990 x991 x992 = some r →
    Ret Tryz.prog 108 #[(.int .u32 x990), (.int .u32 x991), (.int .u32 x992)] w0 fun v w1 => v = (.tuple #[(.int .u32 r.1), (.int .u32 r.2)]) ∧ Ch [] w0 w1
theorem bits_Sub32_ok (n : Nat) : bits_Sub32_S (bits_Sub32 n) := by
  intro w0 I0 x990 x991 x992 hI r h
  unfold bits_Sub32 at h
  refine enter Tryz.func108 rfl (Nat.le_of_ble_eq_true rfl) ?_
  have hp : Hp ⟨w0, I0, []⟩ I0 [] w0 := Hp.start hI
  apply go
  apply go
  apply go
  apply go
  apply go
  apply go
  refine ⟨by decide, ?_⟩
  apply go
  obtain rfl := Option.some.inj h
  exact ⟨rfl, hp.ch⟩

end Go.Proofs.YtepadjfmcbjkmaaGreatDoor

namespace Go.Proofs.YtepadjfmcbjkmaaGreatDoor
open Go Go.Proofs.YtepadjfmcbjkmaaGreatDoor.Gw Go.RowKit
set_option linter.unusedVariables false
attribute [local irreducible] Ev EvQ EvS EvH
def integer_minus_S (f : (List Int) → (List Int) → Option (List Int)) : Prop := ∀ (w0 : World) (I0 : Nat → Prop) (x_0 : (List Int)) (v_1 : Value) (r_2 : RepS (dI .u32) w0 I0 v_1 x_0) (x_3 : (List Int)) (v_4 : Value) (r_5 : RepS (dI .u32) w0 I0 v_4 x_3) (hI : ∀ g, I0 g → g < w0.heap.size) (r : (List Int)), f x_0 x_3 = some r →
    Ret Tryz.prog 101 #[v_1, v_4] w0 fun v w1 => ∃ (I1 : Nat → Prop) (u_6 : Value), v = u_6 ∧ Hp ⟨w0, I0, []⟩ I1 [] w1 ∧ RepS (dI .u32) w1 I1 u_6 r
theorem integer_minus_ok (n : Nat) : integer_minus_S (integer_minus n) := by
  intro w0 I0 x_0 v_1 r_2 x_3 v_4 r_5 hI r h
  unfold integer_minus at h
  refine enter Tryz.func101 rfl (Nat.le_of_ble_eq_true rfl) ?_
  have hp : Hp ⟨w0, I0, []⟩ I0 [] w0 := Hp.start hI
  apply go
  apply go
  apply go
  apply go
  refine ev0 (rn_len rfl rfl Tryz.underlying22 r_2) ?_
  obtain ⟨x_6, q_7, h⟩ := bind_some h
  refine ev_makeC (d := (dI .u32)) (x0 := 0) hp rfl rfl rfl Tryz.underlying22 T46 (fun _ _ => rfl) (Nat.le_of_ble_eq_true rfl) q_7 ?_
  intro v_8 e_9 w_a hp hs o_b
  replace r_2 := r_2.step hs
  replace r_5 := r_5.step hs
  apply go
  apply go
  obtain ⟨y_c, q_d, h⟩ := bind_some h
  refine W.cut (γ := ((List Int) × Value × Ent × (Nat → Prop))) (fun g => [(5, (g.2.1))]) (fun g w' => y_c = (g.1) ∧ Hp ⟨w0, I0, []⟩ (g.2.2.2) [(g.2.2.1)] w' ∧ OwnS (dI .u32) 46 w' (g.2.2.2) (g.2.1) (g.2.2.1) (g.1)) ?_ ?_
  ·
    apply go
    apply go
    refine ev0 (rn_len rfl rfl Tryz.underlying22 r_2) ?_
    apply go
    refine W.loop q_d (γ := (Value × Ent × (Nat → Prop))) (fun s g => [(1, v_4), (5, (g.1)), (6, (.int .u32 (s.2.1))), (14, v_1), (15, (.int .i64 (x_0.length : Int))), (16, (.int .i64 (s.2.2)))]) (fun s g w' => Hp ⟨w0, I0, []⟩ (g.2.2) [(g.2.1)] w' ∧ RepS (dI .u32) w' (g.2.2) v_4 x_3 ∧ OwnS (dI .u32) 46 w' (g.2.2) (g.1) (g.2.1) (s.1) ∧ RepS (dI .u32) w' (g.2.2) v_1 x_0) (v_8, e_9, I0) (.c rfl (.c rfl (.c rfl (.c rfl (.c rfl (.c rfl .n)))))) ⟨hp, r_5, o_b, r_2⟩ ?_
    rintro ⟨x_e, x_f, x_g⟩ ⟨v_h, e_i, I_j⟩ w_k y_l ⟨hp, r_5, o_m, r_2⟩ q_n q_o
    unfold integer_minus_L1 at q_n
    apply go
    apply go
    apply go
    apply go
    refine sel_of (fun hc => ?_) (fun hc => ?_)
    ·
      have q_n := cond_t q_n hc
      apply go
      apply go
      apply go
      apply go
      apply go
      obtain ⟨x_p, q_q, q_n⟩ := bind_some q_n
      refine ev_index rfl rfl rfl Tryz.underlying22 T46 r_2 q_q ?_
      intro p_r c_s d_t a_u
      obtain rfl : c_s = [(.int .u32 x_p)] := d_t
      refine ev (rn_load rfl rfl (run_loadVar1 T46 (a_u.2 0 _ rfl))) ?_
      apply go
      apply go
      obtain ⟨y_v, q_w, q_n⟩ := bind_some q_n
      refine W.cut (γ := Int) (fun g => [(1, v_4), (5, v_h), (6, (.int .u32 x_f)), (8, (.int .u32 x_p)), (9, (.int .u32 (g))), (14, v_1), (15, (.int .i64 (x_0.length : Int))), (16, (.int .i64 x_g))]) (fun g w' => y_v = (g) ∧ w_k = w') ?_ ?_
      ·
        apply go
        apply go
        refine ev0 (rn_len rfl rfl Tryz.underlying22 r_5) ?_
        apply go
        refine sel_of (fun hc => ?_) (fun hc => ?_)
        ·
          have q_w := cond_t q_w hc
          apply go
          obtain ⟨x_x, q_y, q_w⟩ := bind_some q_w
          refine ev_index rfl rfl rfl Tryz.underlying22 T46 r_5 q_y ?_
          intro p_z c_10 d_11 a_12
          obtain rfl : c_10 = [(.int .u32 x_x)] := d_11
          refine ev (rn_load rfl rfl (run_loadVar1 T46 (a_12.2 0 _ rfl))) ?_
          obtain rfl := Option.some.inj q_w
          exact ⟨x_x, (.c rfl (.c rfl (.c rfl (.c rfl (.c rfl (.c rfl (.c rfl (.c rfl .n)))))))), rfl, rfl⟩
        ·
          have q_w := cond_f q_w hc
          apply go
          obtain rfl := Option.some.inj q_w
          exact ⟨0, (.c rfl (.c rfl (.c rfl (.c rfl (.c rfl (.c rfl (.c rfl (.c rfl .n)))))))), rfl, rfl⟩
      ·
        rintro x_13 _ ⟨hy, rfl⟩
        replace hy := hy.symm
        subst hy
        apply go
        apply go
        apply go
        apply go
        obtain ⟨⟨x_14, x_15⟩, q_16, q_n⟩ := bind_some q_n
        refine ev_call rfl rfl C108 (((bits_Sub32_ok n) _ _  x_p x_13 x_f hp.imm _ q_16).mono ?_)
        rintro _ w_17 ⟨rfl, hc⟩
        have hs := hp.stp hc
        replace hp := hp.ext hc
        replace r_5 := r_5.step hs
        replace o_m := o_m.step hs
        replace r_2 := r_2.step hs
        apply go
        refine ev_litN (d := (dI .u32)) (xs := [x_14]) (cs := [(.int .u32 x_14)]) hp rfl rfl Tryz.underlying22 T46 (by decide) rfl rfl (Elems.cons (d := (dI .u32)) (xs := _) rfl (Elems.nil _ _ _ _)) ?_
        intro v_18 I_19 w_1a hp hs r_1b
        replace r_5 := r_5.step hs
        replace r_2 := r_2.step hs
        replace o_m := o_m.step hs
        obtain ⟨x_1c, q_1d, q_n⟩ := bind_some q_n
        refine ev_append hp (i := 0) rfl rfl rfl rfl Tryz.underlying22 T46 rfl rfl o_m r_1b q_1d ?_
        rintro v_1e e_1f w_1g hp hs o_1h
        replace r_5 := r_5.step hs
        replace r_2 := r_2.step hs
        apply go
        exact ⟨_, (Option.some.inj q_n).symm, (v_1e, e_1f, I_19), (.c rfl (.c rfl (.c rfl (.c rfl (.c rfl (.c rfl .n)))))), ⟨hp, r_5, o_1h, r_2⟩⟩
    ·
      have q_n := cond_f q_n hc
      apply go
      have q_1i := congrArg some (q_o _ (Option.some.inj q_n).symm)
      obtain rfl := Option.some.inj q_1i
      exact ⟨(x_e, v_h, e_i, I_j), (.c rfl .n), rfl, hp, o_m⟩
  ·
    rintro ⟨x_1j, v_1k, e_1l, I_1m⟩ w_1n ⟨hy, hp, o_1o⟩
    replace hy := hy.symm
    subst hy
    apply go
    apply go
    apply go
    obtain rfl := Option.some.inj h
    have r_1p := o_1o.frz hp (i := 0) rfl
    obtain ⟨hp, hs⟩ := freeze_hp hp (i := 0) rfl
    have hp := hp.sel [] (by decide)
    exact ⟨(Ad I_1m e_1l), v_1k, rfl, hp, r_1p⟩

end Go.Proofs.YtepadjfmcbjkmaaGreatDoor

namespace Go.Proofs.YtepadjfmcbjkmaaGreatDoor
open Go Go.Proofs.YtepadjfmcbjkmaaGreatDoor.Gw Go.RowKit
set_option linter.unusedVariables false
attribute [local irreducible] Ev EvQ EvS EvH
def integer_Add_S (f : Int_2 → Int_2 → Option Int_2) : Prop := ∀ (w0 : World) (I0 : Nat → Prop) (x_0 : Int_2) (v_1 : Value) (r_2 : RepS (dI .u32) w0 I0 v_1 x_0.Mag) (x_3 : Int_2) (v_4 : Value) (r_5 : RepS (dI .u32) w0 I0 v_4 x_3.Mag) (hI : ∀ g, I0 g → g < w0.heap.size) (r : Int_2), f x_0 x_3 = some r →
    Ret Tryz.prog 71 #[(.agg #[(.bool x_0.Neg), v_1]), (.agg #[(.bool x_3.Neg), v_4])] w0 fun v w1 => ∃ (I1 : Nat → Prop) (u_6 : Value), v = (.agg #[(.bool r.Neg), u_6]) ∧ Hp ⟨w0, I0, []⟩ I1 [] w1 ∧ RepS (dI .u32) w1 I1 u_6 r.Mag
theorem integer_Add_ok (n : Nat) : integer_Add_S (integer_Add n) := by
  intro w0 I0 x_0 v_1 r_2 x_3 v_4 r_5 hI r h
  unfold integer_Add at h
  refine enter Tryz.func71 rfl (Nat.le_of_ble_eq_true rfl) ?_
  have hp : Hp ⟨w0, I0, []⟩ I0 [] w0 := Hp.start hI
  apply go
  apply go
  refine ev_boxI hp rfl rfl ?_
  intro p_6 I_7 w_8 hp hs a_9
  replace r_5 := r_5.step hs
  replace r_2 := r_2.step hs
  refine ev_boxI hp rfl rfl ?_
  intro p_a I_b w_c hp hs a_d
  replace a_9 := a_9.step hs
  replace r_2 := r_2.step hs
  replace r_5 := r_5.step hs
  refine ev_alloc hp rfl T24 ?_
  intro g_e w_f hp hs
  replace a_9 := a_9.step hs
  replace r_2 := r_2.step hs
  replace a_d := a_d.step hs
  replace r_5 := r_5.step hs
  apply go
  have hs := hp.stp (Ch.drew [] w_f)
  have hp := hp.drew
  replace a_9 := a_9.step hs
  replace r_2 := r_2.step hs
  replace a_d := a_d.step hs
  replace r_5 := r_5.step hs
  refine W.held [(0, true), (1, true), (3, true), (4, true), (2, false), (5, false), (6, true), (7, true)] (Stp I_b w_f.drew I_b) MX (by kernel_rfl) (Stp.refl _ _) ?_
  have hz := Stp.refl I_b w_f.drew
  refine evh0 (rn_field rfl rfl FO24_1) ?_
  refine evh (fun w' hw => rn_load rfl rfl (run_loadVar1 T22 ((a_9.step hw).2 1 _ rfl))) ?_
  refine evh0 (rn_field rfl rfl FO24_1) ?_
  refine evh (fun w' hw => rn_load rfl rfl (run_loadVar1 T22 ((a_d.step hw).2 1 _ rfl))) ?_
  obtain ⟨x_g, q_h, h⟩ := bind_some h
  refine ev_call rfl rfl C72 (((integer_trim_ok n) _ _  x_0.Mag v_1 r_2 hp.imm _ q_h).mono ?_)
  rintro _ w_i ⟨I_j, v_k, hv, hq, r_l⟩
  replace hv := hv.symm
  subst hv
  have hs := hq.st
  have hp := hp.join0 hq
  replace hz := hz.trans hs
  replace a_9 := a_9.step hs
  replace r_2 := r_2.step hs
  replace a_d := a_d.step hs
  replace r_5 := r_5.step hs
  refine ⟨Stp I_j w_i I_j, Stp.refl _ _, fun x hx => hz.held hx, ?_⟩
  have hz := Stp.refl I_j w_i
  obtain ⟨x_m, q_n, h⟩ := bind_some h
  refine ev_call rfl rfl C72 (((integer_trim_ok n) _ _  x_3.Mag v_4 r_5 hp.imm _ q_n).mono ?_)
  rintro _ w_o ⟨I_p, v_q, hv, hq, r_r⟩
  replace hv := hv.symm
  subst hv
  have hs := hq.st
  have hp := hp.join0 hq
  replace hz := hz.trans hs
  replace a_9 := a_9.step hs
  replace r_2 := r_2.step hs
  replace a_d := a_d.step hs
  replace r_5 := r_5.step hs
  replace r_l := r_l.step hs
  refine ⟨Stp I_p w_o I_p, Stp.refl _ _, fun x hx => hz.held hx, ?_⟩
  have hz := Stp.refl I_p w_o
  apply go
  apply go
  apply go
  apply go
  refine ev0 (rn_field rfl rfl FO24_0) ?_
  refine ev (rn_load rfl rfl (run_loadVar1 T4 (a_9.2 0 _ rfl))) ?_
  refine ev0 (rn_field rfl rfl FO24_0) ?_
  refine ev (rn_load rfl rfl (run_loadVar1 T4 (a_d.2 0 _ rfl))) ?_
  refine ev0 (rn_eqB rfl rfl rfl Tryz.underlying4) ?_
  apply go
  refine sel_of (fun hc => ?_) (fun hc => ?_)
  ·
    have h := cond_t h hc
    apply go
    have hs := hp.stp (Ch.drew [] w_o)
    have hp := hp.drew
    replace a_9 := a_9.step hs
    replace r_2 := r_2.step hs
    replace r_l := r_l.step hs
    replace r_r := r_r.step hs
    refine W.held [(0, true), (1, true), (2, true), (3, true), (4, false), (5, false), (6, false)] (Stp I_p w_o.drew I_p) MX (by kernel_rfl) (Stp.refl _ _) ?_
    have hz := Stp.refl I_p w_o.drew
    refine evh0 (rn_field rfl rfl FO24_0) ?_
    refine evh (fun w' hw => rn_load rfl rfl (run_loadVar1 T4 ((a_9.step hw).2 0 _ rfl))) ?_
    obtain ⟨x_s, q_t, h⟩ := bind_some h
    refine ev_call rfl rfl C94 (((integer_plus_ok n) _ _  x_g v_k r_l x_m v_q r_r hp.imm _ q_t).mono ?_)
    rintro _ w_u ⟨I_v, v_w, hv, hq, r_x⟩
    replace hv := hv.symm
    subst hv
    have hs := hq.st
    have hp := hp.join0 hq
    replace hz := hz.trans hs
    refine ⟨Stp I_v w_u I_v, Stp.refl _ _, fun x hx => hz.held hx, ?_⟩
    have hz := Stp.refl I_v w_u
    obtain ⟨x_y, q_z, h⟩ := bind_some h
    refine ev_call rfl rfl C80 (((integer_made_ok n) _ _  x_0.Neg x_s v_w r_x hp.imm _ q_z).mono ?_)
    rintro _ w_10 ⟨I_11, v_12, hv, hq, r_13⟩
    replace hv := hv.symm
    subst hv
    have hs := hq.st
    have hp := hp.join0 hq
    replace hz := hz.trans hs
    refine ⟨Stp I_11 w_10 I_11, Stp.refl _ _, fun x hx => hz.held hx, ?_⟩
    have hz := Stp.refl I_11 w_10
    refine ev_storeA hp (i := 0) (off := 0) (vs := [(.bool x_y.Neg), v_12]) rfl rfl rfl rfl T24 rfl (Nat.le_of_ble_eq_true rfl) (ones_cons rfl (ones_cons r_13.one ones_nil)) ?_
    intro w_14 hp hs
    replace hz := hz.trans hs
    replace r_13 := r_13.step hs
    refine ⟨Stp I_11 w_14 I_11, Stp.refl _ _, fun x hx => hz.held hx, ?_⟩
    have hz := Stp.refl I_11 w_14
    apply go
    obtain rfl := Option.some.inj h
    refine ⟨_, run_loadVarA T24 rfl (hp.at_ (i := 0) rfl), ?_⟩
    have hp := hp.sel [] (by decide)
    exact ⟨I_11, v_12, rfl, hp, r_13⟩
  ·
    have h := cond_f h hc
    apply go
    apply go
    obtain ⟨x_15, q_16, h⟩ := bind_some h
    refine ev_call rfl rfl C79 (((integer_compare_ok n) _ _  x_g v_k r_l x_m v_q r_r hp.imm _ q_16).mono ?_)
    rintro _ w_17 ⟨rfl, hc⟩
    have hs := hp.stp hc
    replace hp := hp.ext hc
    replace a_9 := a_9.step hs
    replace r_2 := r_2.step hs
    replace a_d := a_d.step hs
    replace r_5 := r_5.step hs
    replace r_l := r_l.step hs
    replace r_r := r_r.step hs
    apply go
    refine sel_of (fun hc => ?_) (fun hc => ?_)
    ·
      have h := cond_t h hc
      apply go
      have hs := hp.stp (Ch.drew [] w_17)
      have hp := hp.drew
      replace a_9 := a_9.step hs
      replace r_2 := r_2.step hs
      replace r_l := r_l.step hs
      replace r_r := r_r.step hs
      refine W.held [(0, true), (1, true), (2, true), (3, true), (4, false), (5, false), (6, false)] (Stp I_p w_17.drew I_p) MX (by kernel_rfl) (Stp.refl _ _) ?_
      have hz := Stp.refl I_p w_17.drew
      refine evh0 (rn_field rfl rfl FO24_0) ?_
      refine evh (fun w' hw => rn_load rfl rfl (run_loadVar1 T4 ((a_9.step hw).2 0 _ rfl))) ?_
      obtain ⟨x_18, q_19, h⟩ := bind_some h
      refine ev_call rfl rfl C101 (((integer_minus_ok n) _ _  x_g v_k r_l x_m v_q r_r hp.imm _ q_19).mono ?_)
      rintro _ w_1a ⟨I_1b, v_1c, hv, hq, r_1d⟩
      replace hv := hv.symm
      subst hv
      have hs := hq.st
      have hp := hp.join0 hq
      replace hz := hz.trans hs
      refine ⟨Stp I_1b w_1a I_1b, Stp.refl _ _, fun x hx => hz.held hx, ?_⟩
      have hz := Stp.refl I_1b w_1a
      obtain ⟨x_1e, q_1f, h⟩ := bind_some h
      refine ev_call rfl rfl C80 (((integer_made_ok n) _ _  x_0.Neg x_18 v_1c r_1d hp.imm _ q_1f).mono ?_)
      rintro _ w_1g ⟨I_1h, v_1i, hv, hq, r_1j⟩
      replace hv := hv.symm
      subst hv
      have hs := hq.st
      have hp := hp.join0 hq
      replace hz := hz.trans hs
      refine ⟨Stp I_1h w_1g I_1h, Stp.refl _ _, fun x hx => hz.held hx, ?_⟩
      have hz := Stp.refl I_1h w_1g
      refine ev_storeA hp (i := 0) (off := 0) (vs := [(.bool x_1e.Neg), v_1i]) rfl rfl rfl rfl T24 rfl (Nat.le_of_ble_eq_true rfl) (ones_cons rfl (ones_cons r_1j.one ones_nil)) ?_
      intro w_1k hp hs
      replace hz := hz.trans hs
      replace r_1j := r_1j.step hs
      refine ⟨Stp I_1h w_1k I_1h, Stp.refl _ _, fun x hx => hz.held hx, ?_⟩
      have hz := Stp.refl I_1h w_1k
      apply go
      obtain rfl := Option.some.inj h
      refine ⟨_, run_loadVarA T24 rfl (hp.at_ (i := 0) rfl), ?_⟩
      have hp := hp.sel [] (by decide)
      exact ⟨I_1h, v_1i, rfl, hp, r_1j⟩
    ·
      have h := cond_f h hc
      apply go
      apply go
      have hs := hp.stp (Ch.drew [] w_17)
      have hp := hp.drew
      replace a_d := a_d.step hs
      replace r_5 := r_5.step hs
      replace r_l := r_l.step hs
      replace r_r := r_r.step hs
      refine W.held [(0, true), (1, true), (2, true), (3, true), (4, false), (5, false), (6, false)] (Stp I_p w_17.drew I_p) MX (by kernel_rfl) (Stp.refl _ _) ?_
      have hz := Stp.refl I_p w_17.drew
      refine evh0 (rn_field rfl rfl FO24_0) ?_
      refine evh (fun w' hw => rn_load rfl rfl (run_loadVar1 T4 ((a_d.step hw).2 0 _ rfl))) ?_
      obtain ⟨x_1l, q_1m, h⟩ := bind_some h
      refine ev_call rfl rfl C101 (((integer_minus_ok n) _ _  x_m v_q r_r x_g v_k r_l hp.imm _ q_1m).mono ?_)
      rintro _ w_1n ⟨I_1o, v_1p, hv, hq, r_1q⟩
      replace hv := hv.symm
      subst hv
      have hs := hq.st
      have hp := hp.join0 hq
      replace hz := hz.trans hs
      refine ⟨Stp I_1o w_1n I_1o, Stp.refl _ _, fun x hx => hz.held hx, ?_⟩
      have hz := Stp.refl I_1o w_1n
      obtain ⟨x_1r, q_1s, h⟩ := bind_some h
      refine ev_call rfl rfl C80 (((integer_made_ok n) _ _  x_3.Neg x_1l v_1p r_1q hp.imm _ q_1s).mono ?_)
      rintro _ w_1t ⟨I_1u, v_1v, hv, hq, r_1w⟩
      replace hv := hv.symm
      subst hv
      have hs := hq.st
      have hp := hp.join0 hq
      replace hz := hz.trans hs
      refine ⟨Stp I_1u w_1t I_1u, Stp.refl _ _, fun x hx => hz.held hx, ?_⟩
      have hz := Stp.refl I_1u w_1t
      refine ev_storeA hp (i := 0) (off := 0) (vs := [(.bool x_1r.Neg), v_1v]) rfl rfl rfl rfl T24 rfl (Nat.le_of_ble_eq_true rfl) (ones_cons rfl (ones_cons r_1w.one ones_nil)) ?_
      intro w_1x hp hs
      replace hz := hz.trans hs
      replace r_1w := r_1w.step hs
      refine ⟨Stp I_1u w_1x I_1u, Stp.refl _ _, fun x hx => hz.held hx, ?_⟩
      have hz := Stp.refl I_1u w_1x
      apply go
      obtain rfl := Option.some.inj h
      refine ⟨_, run_loadVarA T24 rfl (hp.at_ (i := 0) rfl), ?_⟩
      have hp := hp.sel [] (by decide)
      exact ⟨I_1u, v_1v, rfl, hp, r_1w⟩

end Go.Proofs.YtepadjfmcbjkmaaGreatDoor

namespace Go.Proofs.YtepadjfmcbjkmaaGreatDoor
open Go Go.Proofs.YtepadjfmcbjkmaaGreatDoor.Gw Go.RowKit
set_option linter.unusedVariables false
attribute [local irreducible] Ev EvQ EvS EvH
def slices_Cloneuint32_uint32__S (f : (List Int) → Option (List Int)) : Prop := ∀ (w0 : World) (I0 : Nat → Prop) (x195 : (List Int)) (v196 : Value) (r197 : RepS (dI .u32) w0 I0 v196 x195) (hI : ∀ g, I0 g → g < w0.heap.size) (r : (List Int)), f x195 = some r →
    Ret Tryz.prog 88 #[v196] w0 fun v w1 => ∃ (I1 : Nat → Prop) (u198 : Value), v = u198 ∧ Hp ⟨w0, I0, []⟩ I1 [] w1 ∧ RepS (dI .u32) w1 I1 u198 r
theorem slices_Cloneuint32_uint32__ok (n : Nat) : slices_Cloneuint32_uint32__S (slices_Cloneuint32_uint32_ n) := by
  intro w0 I0 x195 v196 r197 hI r h
  unfold slices_Cloneuint32_uint32_ at h
  refine enter Tryz.func88 rfl (Nat.le_of_ble_eq_true rfl) ?_
  have hp : Hp ⟨w0, I0, []⟩ I0 [] w0 := Hp.start hI
  apply go
  apply go
  apply go
  apply go
  apply go
  rcases r197.nilcase with ⟨hv, hx⟩ | ⟨n199, hv, hx⟩ | ⟨a200, n199, hv⟩
  ·
    subst hv; subst hx
    replace h : some ([] : (List Int)) = some _ := h
    refine ev0 (rn_eqNil rfl rfl rfl Tryz.underlying22) ?_
    apply go
    apply go
    apply go
    apply go
    obtain rfl := Option.some.inj h
    exact ⟨I0, .slice none 0 0, rfl, hp, RepS.nil _ _ _⟩
  ·
    subst hv; subst hx
    replace h : some ([] : (List Int)) = some _ := h
    refine ev0 (rn_eqNil rfl rfl rfl Tryz.underlying22) ?_
    apply go
    apply go
    apply go
    apply go
    obtain rfl := Option.some.inj h
    exact ⟨I0, .slice none 0 0, rfl, hp, RepS.nil _ _ _⟩
  ·
    subst hv
    refine ev0 (rn_eqNil rfl rfl rfl Tryz.underlying22) ?_
    apply go
    apply go
    apply go
    apply go
    refine ev_litON (d := (dI .u32)) (xs := ([] : List Int)) (cs := []) hp rfl rfl Tryz.underlying22 T46 (by decide) (by decide) rfl rfl (Elems.nil _ _ _ _) ?_
    intro v201 e203 w202 hp hs o204
    replace r197 := r197.step hs
    obtain ⟨x205, q206, h⟩ := bind_some h
    refine ev_append hp (i := 0) rfl rfl rfl rfl Tryz.underlying22 T46 rfl rfl o204 r197 q206 ?_
    rintro v207 e208 w209 hp hs o210
    apply go
    obtain rfl := Option.some.inj h
    have r211 := o210.frz hp (i := 0) rfl
    obtain ⟨hp, hs⟩ := freeze_hp hp (i := 0) rfl
    have hp := hp.sel [] (by decide)
    exact ⟨(Ad I0 e208), v207, rfl, hp, r211⟩

end Go.Proofs.YtepadjfmcbjkmaaGreatDoor

namespace Go.Proofs.YtepadjfmcbjkmaaGreatDoor
open Go Go.Proofs.YtepadjfmcbjkmaaGreatDoor.Gw Go.RowKit
set_option linter.unusedVariables false
attribute [local irreducible] Ev EvQ EvS EvH
def bits_Div32_S (f : Int → Int → Int → Option (Int × Int)) : Prop := ∀ (w0 : World) (I0 : Nat → Prop) (x474 : Int) (x475 : Int) (x476 : Int) (hI : ∀ g, I0 g → g < w0.heap.size) (r : (Int × Int)), f x474 x475 x476 = some r →
    Ret Tryz.prog 124 #[(.int .u32 x474), (.int .u32 x475), (.int .u32 x476)] w0 fun v w1 => v = (.tuple #[(.int .u32 r.1), (.int .u32 r.2)]) ∧ Ch [] w0 w1
theorem bits_Div32_ok (n : Nat) : bits_Div32_S (bits_Div32 n) := by
  intro w0 I0 x474 x475 x476 hI r h
  unfold bits_Div32 at h
  refine enter Tryz.func124 rfl (Nat.le_of_ble_eq_true rfl) ?_
  have hp : Hp ⟨w0, I0, []⟩ I0 [] w0 := Hp.start hI
  apply go
  apply go
  obtain ⟨y480, q481, h⟩ := bind_some h
  refine W.cut (γ := Unit) (fun _ => [(0, (.int .u32 x474)), (1, (.int .u32 x475)), (2, (.int .u32 x476))]) (fun _ w' => y480 = () ∧ w0 = w') ?_ ?_
  ·
    obtain ⟨y483, q484, q481⟩ := bind_some q481
    refine W.cut (γ := Bool) (fun g => [(0, (.int .u32 x474)), (1, (.int .u32 x475)), (2, (.int .u32 x476)), (15, (.bool (g)))]) (fun g w' => y483 = (g) ∧ w0 = w') ?_ ?_
    ·
      apply go
      refine sel_of (fun hc => ?_) (fun hc => ?_)
      ·
        have q484 := cond_t q484 hc
        obtain rfl := Option.some.inj q484
        exact ⟨(decide (x476 ≤ x474)), (.c rfl (.c rfl (.c rfl (.c rfl .n)))), rfl, rfl⟩
      ·
        have q484 := cond_f q484 hc
        obtain rfl := Option.some.inj q484
        exact ⟨false, (.c rfl (.c rfl (.c rfl (.c rfl .n)))), rfl, rfl⟩
    ·
      rintro x482 _ ⟨hy, rfl⟩
      replace hy := hy.symm
      subst hy
      apply go
      refine sel_of (fun hc => ?_) (fun hc => ?_)
      ·
        have q481 := cond_t q481 hc
        apply go
        cases q481
      ·
        have q481 := cond_f q481 hc
        apply go
        obtain rfl := Option.some.inj q481
        exact ⟨(), (.c rfl (.c rfl (.c rfl .n))), rfl, rfl⟩
  ·
    rintro ⟨⟩ _ ⟨hy, rfl⟩
    replace hy := hy.symm
    subst hy
    apply go
    apply go
    refine ev0 (rn_conv rfl rfl U46 Tryz.underlying75) ?_
    refine ⟨by decide, ?_⟩
    refine ev0 (rn_conv rfl rfl U46 Tryz.underlying75) ?_
    apply go
    refine W.quiet (fun w' => Ch [] w0 w') MX (by kernel_rfl) (Ch.drew [] w0) ?_
    refine evq0 (rn_conv rfl rfl U46 Tryz.underlying75) ?_
    obtain ⟨q485, _, h⟩ := need_some h
    refine ⟨q485, ?_⟩
    refine evq0 (rn_conv rfl rfl U75 Tryz.underlying46) ?_
    refine evq0 (rn_conv rfl rfl U46 Tryz.underlying75) ?_
    obtain ⟨q486, _, h⟩ := need_some h
    refine ⟨q486, ?_⟩
    refine evq0 (rn_conv rfl rfl U75 Tryz.underlying46) ?_
    intro w487 hc
    have hs := hp.stp hc
    replace hp := hp.ext hc
    apply go
    obtain rfl := Option.some.inj h
    exact ⟨rfl, hp.ch⟩

end Go.Proofs.YtepadjfmcbjkmaaGreatDoor

namespace Go.Proofs.YtepadjfmcbjkmaaGreatDoor
open Go Go.Proofs.YtepadjfmcbjkmaaGreatDoor.Gw Go.RowKit
set_option linter.unusedVariables false
attribute [local irreducible] Ev EvQ EvS EvH
def integer_short_S (f : (List Int) → Int → Option ((List Int) × Int)) : Prop := ∀ (w0 : World) (I0 : Nat → Prop) (x488 : (List Int)) (v489 : Value) (r490 : RepS (dI .u32) w0 I0 v489 x488) (x491 : Int) (hI : ∀ g, I0 g → g < w0.heap.size) (r : ((List Int) × Int)), f x488 x491 = some r →
    Ret Tryz.prog 95 #[v489, (.int .u32 x491)] w0 fun v w1 => ∃ (I1 : Nat → Prop) (u492 : Value), v = (.tuple #[u492, (.int .u32 r.2)]) ∧ Hp ⟨w0, I0, []⟩ I1 [] w1 ∧ RepS (dI .u32) w1 I1 u492 r.1
theorem integer_short_ok (n : Nat) : integer_short_S (integer_short n) := by
  intro w0 I0 x488 v489 r490 x491 hI r h
  unfold integer_short at h
  refine enter Tryz.func95 rfl (Nat.le_of_ble_eq_true rfl) ?_
  have hp : Hp ⟨w0, I0, []⟩ I0 [] w0 := Hp.start hI
  apply go
  apply go
  apply go
  apply go
  refine ev0 (rn_len rfl rfl Tryz.underlying22 r490) ?_
  obtain ⟨x493, q494, h⟩ := bind_some h
  refine ev_make (d := (dI .u32)) (x0 := 0) hp rfl rfl rfl Tryz.underlying22 T46 (fun _ _ => rfl) (Nat.le_of_ble_eq_true rfl) q494 ?_
  intro v495 e496 w497 hp hs o498
  replace r490 := r490.step hs
  apply go
  apply go
  obtain ⟨y591, q592, h⟩ := bind_some h
  refine W.cut (γ := ((List Int) × Int × Ent)) (fun g => [(6, v495), (7, (.int .u32 (g.2.1)))]) (fun g w' => y591 = ((g.1), (g.2.1)) ∧ Hp ⟨w0, I0, []⟩ I0 [(g.2.2)] w' ∧ OwnS (dI .u32) 46 w' I0 v495 (g.2.2) (g.1)) ?_ ?_
  ·
    apply go
    apply go
    refine ev0 (rn_len rfl rfl Tryz.underlying22 r490) ?_
    apply go
    refine W.loop q592 (γ := Ent) (fun s g => [(0, v489), (1, (.int .u32 x491)), (6, v495), (7, (.int .u32 (s.2.1))), (8, (.int .i64 (s.2.2)))]) (fun s g w' => Hp ⟨w0, I0, []⟩ I0 [(g)] w' ∧ RepS (dI .u32) w' I0 v489 x488 ∧ OwnS (dI .u32) 46 w' I0 v495 (g) (s.1)) e496 (.c rfl (.c rfl (.c rfl (.c rfl (.c rfl .n))))) ⟨hp, r490, o498⟩ ?_
    rintro ⟨x616, x620, x621⟩ e618 w651 y652 ⟨hp, r490, o619⟩ q653 q654
    unfold integer_short_L1 at q653
    apply go
    apply go
    apply go
    apply go
    refine sel_of (fun hc => ?_) (fun hc => ?_)
    ·
      have q653 := cond_t q653 hc
      apply go
      apply go
      apply go
      apply go
      obtain ⟨x655, q656, q653⟩ := bind_some q653
      refine ev_index rfl rfl rfl Tryz.underlying22 T46 r490 q656 ?_
      intro p657 c658 d659 a660
      obtain rfl : c658 = [(.int .u32 x655)] := d659
      refine ev (rn_load rfl rfl (run_loadVar1 T46 (a660.2 0 _ rfl))) ?_
      obtain ⟨⟨x661, x662⟩, q663, q653⟩ := bind_some q653
      refine ev_call rfl rfl C124 (((bits_Div32_ok n) _ _  x620 x655 x491 hp.imm _ q663).mono ?_)
      rintro _ w664 ⟨rfl, hc⟩
      have hs := hp.stp hc
      replace hp := hp.ext hc
      replace r490 := r490.step hs
      replace o619 := o619.step hs
      obtain ⟨x665, q666, q653⟩ := bind_some q653
      refine ev_indexO rfl rfl rfl Tryz.underlying22 T46 o619 q666 ?_
      intro g667 c668 h671 d669 l670
      refine ev_storeE hp (i := 0) rfl h671 rfl rfl rfl T46 o619 q666 (x0 := x661) rfl ?_
      intro e674 w673 hp hs o675
      replace r490 := r490.step hs
      apply go
      exact ⟨_, (Option.some.inj q653).symm, e674, (.c rfl (.c rfl (.c rfl (.c rfl (.c rfl .n))))), ⟨hp, r490, o675⟩⟩
    ·
      have q653 := cond_f q653 hc
      apply go
      have q678 := congrArg some (q654 _ (Option.some.inj q653).symm)
      obtain rfl := Option.some.inj q678
      exact ⟨(x616, x620, e618), (.c rfl (.c rfl .n)), rfl, hp, o619⟩
  ·
    rintro ⟨x585, x589, e587⟩ w590 ⟨hy, hp, o588⟩
    replace hy := hy.symm
    subst hy
    apply go
    apply go
    apply go
    obtain rfl := Option.some.inj h
    have r679 := o588.frz hp (i := 0) rfl
    obtain ⟨hp, hs⟩ := freeze_hp hp (i := 0) rfl
    have hp := hp.sel [] (by decide)
    exact ⟨(Ad I0 e587), v495, rfl, hp, r679⟩

end Go.Proofs.YtepadjfmcbjkmaaGreatDoor

namespace Go.Proofs.YtepadjfmcbjkmaaGreatDoor
open Go Go.Proofs.YtepadjfmcbjkmaaGreatDoor.Gw Go.RowKit
set_option linter.unusedVariables false
attribute [local irreducible] Ev EvQ EvS EvH
def bits_Len32_S (f : Int → Option Int) : Prop := ∀ (w0 : World) (I0 : Nat → Prop) (x680 : Int) (hI : ∀ g, I0 g → g < w0.heap.size) (r : Int), f x680 = some r →
    Ret Tryz.prog 132 #[(.int .u32 x680)] w0 fun v w1 => v = (.int .i64 r) ∧ Ch [] w0 w1
theorem bits_Len32_ok (n : Nat) : bits_Len32_S (bits_Len32 n) := by
  intro w0 I0 x680 hI r h
  unfold bits_Len32 at h
  refine enter Tryz.func132 rfl (Nat.le_of_ble_eq_true rfl) ?_
  have hp : Hp ⟨w0, I0, []⟩ I0 [] w0 := Hp.start hI
  apply go
  apply go
  obtain ⟨y683, q684, h⟩ := bind_some h
  refine W.cut (γ := (Int × Int)) (fun g => [(0, (.int .u32 (g.1))), (2, (.int .i64 (g.2)))]) (fun g w' => y683 = ((g.1), (g.2)) ∧ w0 = w') ?_ ?_
  ·
    apply go
    apply go
    apply go
    refine sel_of (fun hc => ?_) (fun hc => ?_)
    ·
      have q684 := cond_t q684 hc
      apply go
      apply go
      refine ⟨by decide, ?_⟩
      apply go
      obtain rfl := Option.some.inj q684
      exact ⟨((x680.fdiv (2 ^ min (16 : Int).toNat (IntKind.u32).bits)), 16), (.c rfl (.c rfl .n)), rfl, rfl⟩
    ·
      have q684 := cond_f q684 hc
      apply go
      obtain rfl := Option.some.inj q684
      exact ⟨(x680, 0), (.c rfl (.c rfl .n)), rfl, rfl⟩
  ·
    rintro ⟨x681, x682⟩ _ ⟨hy, rfl⟩
    replace hy := hy.symm
    subst hy
    obtain ⟨y687, q688, h⟩ := bind_some h
    refine W.cut (γ := (Int × Int)) (fun g => [(0, (.int .u32 (g.1))), (2, (.int .i64 (g.2)))]) (fun g w' => y687 = ((g.1), (g.2)) ∧ w0 = w') ?_ ?_
    ·
      apply go
      apply go
      apply go
      refine sel_of (fun hc => ?_) (fun hc => ?_)
      ·
        have q688 := cond_t q688 hc
        apply go
        apply go
        refine ⟨by decide, ?_⟩
        apply go
        obtain rfl := Option.some.inj q688
        exact ⟨((x681.fdiv (2 ^ min (8 : Int).toNat (IntKind.u32).bits)), (IntKind.i64.wrap (x682 + 8))), (.c rfl (.c rfl .n)), rfl, rfl⟩
      ·
        have q688 := cond_f q688 hc
        apply go
        obtain rfl := Option.some.inj q688
        exact ⟨(x681, x682), (.c rfl (.c rfl .n)), rfl, rfl⟩
    ·
      rintro ⟨x685, x686⟩ _ ⟨hy, rfl⟩
      replace hy := hy.symm
      subst hy
      apply go
      apply go
      refine ev0 (rn_conv rfl rfl U46 Tryz.underlying5) ?_
      obtain ⟨x689, q690, h⟩ := bind_some h
      refine ev0 (rn_indexS rfl rfl rfl Tryz.underlying9 q690) ?_
      refine ev0 (rn_conv rfl rfl U5 Tryz.underlying3) ?_
      apply go
      obtain rfl := Option.some.inj h
      exact ⟨rfl, hp.ch⟩

end Go.Proofs.YtepadjfmcbjkmaaGreatDoor

namespace Go.Proofs.YtepadjfmcbjkmaaGreatDoor
open Go Go.Proofs.YtepadjfmcbjkmaaGreatDoor.Gw Go.RowKit
set_option linter.unusedVariables false
attribute [local irreducible] Ev EvQ EvS EvH
def bits_LeadingZeros32_S (f : Int → Option Int) : Prop := ∀ (w0 : World) (I0 : Nat → Prop) (x691 : Int) (hI : ∀ g, I0 g → g < w0.heap.size) (r : Int), f x691 = some r →
    Ret Tryz.prog 106 #[(.int .u32 x691)] w0 fun v w1 => v = (.int .i64 r) ∧ Ch [] w0 w1
theorem bits_LeadingZeros32_ok (n : Nat) : bits_LeadingZeros32_S (bits_LeadingZeros32 n) := by
  intro w0 I0 x691 hI r h
  unfold bits_LeadingZeros32 at h
  refine enter Tryz.func106 rfl (Nat.le_of_ble_eq_true rfl) ?_
  have hp : Hp ⟨w0, I0, []⟩ I0 [] w0 := Hp.start hI
  apply go
  apply go
  apply go
  apply go
  obtain ⟨x692, q693, h⟩ := bind_some h
  refine ev_call rfl rfl C132 (((bits_Len32_ok n) _ _  x691 hp.imm _ q693).mono ?_)
  rintro _ w694 ⟨rfl, hc⟩
  have hs := hp.stp hc
  replace hp := hp.ext hc
  apply go
  obtain rfl := Option.some.inj h
  exact ⟨rfl, hp.ch⟩

end Go.Proofs.YtepadjfmcbjkmaaGreatDoor

namespace Go.Proofs.YtepadjfmcbjkmaaGreatDoor
open Go Go.Proofs.YtepadjfmcbjkmaaGreatDoor.Gw Go.RowKit
set_option linter.unusedVariables false
attribute [local irreducible] Ev EvQ EvS EvH
def integer_shifted_S (f : (List Int) → Int → Option (List Int)) : Prop := ∀ (w0 : World) (I0 : Nat → Prop) (x695 : (List Int)) (v696 : Value) (r697 : RepS (dI .u32) w0 I0 v696 x695) (x698 : Int) (hI : ∀ g, I0 g → g < w0.heap.size) (r : (List Int)), f x695 x698 = some r →
    Ret Tryz.prog 107 #[v696, (.int .u64 x698)] w0 fun v w1 => ∃ (I1 : Nat → Prop) (u699 : Value) (u700 : Ent), v = u699 ∧ Hp ⟨w0, I0, []⟩ I1 [u700] w1 ∧ OwnS (dI .u32) 46 w1 I1 u699 u700 r
theorem integer_shifted_ok (n : Nat) : integer_shifted_S (integer_shifted n) := by
  intro w0 I0 x695 v696 r697 x698 hI r h
  unfold integer_shifted at h
  refine enter Tryz.func107 rfl (Nat.le_of_ble_eq_true rfl) ?_
  have hp : Hp ⟨w0, I0, []⟩ I0 [] w0 := Hp.start hI
  apply go
  apply go
  apply go
  apply go
  refine ev0 (rn_len rfl rfl Tryz.underlying22 r697) ?_
  obtain ⟨x701, q702, h⟩ := bind_some h
  refine ev_make (d := (dI .u32)) (x0 := 0) hp rfl rfl rfl Tryz.underlying22 T46 (fun _ _ => rfl) (Nat.le_of_ble_eq_true rfl) q702 ?_
  intro v703 e704 w705 hp hs o706
  replace r697 := r697.step hs
  obtain ⟨y850, q851, h⟩ := bind_some h
  refine W.cut (γ := ((List Int) × Ent)) (fun g => [(5, v703)]) (fun g w' => y850 = (g.1) ∧ Hp ⟨w0, I0, []⟩ I0 [(g.2)] w' ∧ OwnS (dI .u32) 46 w' I0 v703 (g.2) (g.1)) ?_ ?_
  ·
    apply go
    apply go
    refine ev0 (rn_len rfl rfl Tryz.underlying22 r697) ?_
    apply go
    refine W.loop q851 (γ := Ent) (fun s g => [(1, (.int .u64 x698)), (5, v703), (13, v696), (14, (.int .i64 (x695.length : Int))), (15, (.int .i64 (s.2)))]) (fun s g w' => Hp ⟨w0, I0, []⟩ I0 [(g)] w' ∧ OwnS (dI .u32) 46 w' I0 v703 (g) (s.1) ∧ RepS (dI .u32) w' I0 v696 x695) e704 (.c rfl (.c rfl (.c rfl (.c rfl (.c rfl .n))))) ⟨hp, o706, r697⟩ ?_
    rintro ⟨x893, x897⟩ e895 w944 y945 ⟨hp, o896, r697⟩ q946 q947
    unfold integer_shifted_L1 at q946
    apply go
    apply go
    apply go
    apply go
    refine sel_of (fun hc => ?_) (fun hc => ?_)
    ·
      have q946 := cond_t q946 hc
      apply go
      apply go
      apply go
      apply go
      apply go
      obtain ⟨x948, q949, q946⟩ := bind_some q946
      refine ev_index rfl rfl rfl Tryz.underlying22 T46 r697 q949 ?_
      intro p950 c951 d952 a953
      obtain rfl : c951 = [(.int .u32 x948)] := d952
      refine ev (rn_load rfl rfl (run_loadVar1 T46 (a953.2 0 _ rfl))) ?_
      apply go
      apply go
      refine ev0 (rn_conv rfl rfl U46 Tryz.underlying75) ?_
      obtain ⟨q954, _, q946⟩ := need_some q946
      refine ⟨q954, ?_⟩
      apply go
      apply go
      obtain ⟨x955, q956, q946⟩ := bind_some q946
      refine ev_indexO rfl rfl rfl Tryz.underlying22 T46 o896 q956 ?_
      intro g957 c958 h961 d959 l960
      refine ev (rn_load rfl rfl (run_loadVar1 T46 (hp.cellE (i := 0) rfl h961 d959 (j := 0) rfl))) ?_
      refine ev0 (rn_conv rfl rfl U75 Tryz.underlying46) ?_
      obtain ⟨x963, q964, q946⟩ := bind_some q946
      refine ev_indexO rfl rfl rfl Tryz.underlying22 T46 o896 q964 ?_
      intro g965 c966 h969 d967 l968
      refine ev_storeE hp (i := 0) rfl h969 rfl rfl rfl T46 o896 q964 (x0 := (ib .or .u32 x955 (IntKind.u32.wrap (IntKind.u64.wrap ((IntKind.u64.wrap x948) * 2 ^ min x698.toNat (IntKind.u64).bits))))) rfl ?_
      intro e972 w971 hp hs o973
      replace r697 := r697.step hs
      apply go
      refine ⟨by decide, ?_⟩
      refine ev0 (rn_conv rfl rfl U75 Tryz.underlying46) ?_
      obtain ⟨x976, q977, q946⟩ := bind_some q946
      refine ev_indexO rfl rfl rfl Tryz.underlying22 T46 o973 q977 ?_
      intro g978 c979 h982 d980 l981
      refine ev_storeE hp (i := 0) rfl h982 rfl rfl rfl T46 o973 q977 (x0 := (IntKind.u32.wrap ((IntKind.u64.wrap ((IntKind.u64.wrap x948) * 2 ^ min x698.toNat (IntKind.u64).bits)).fdiv (2 ^ min (32 : Int).toNat (IntKind.u64).bits)))) rfl ?_
      intro e985 w984 hp hs o986
      replace r697 := r697.step hs
      apply go
      exact ⟨_, (Option.some.inj q946).symm, e985, (.c rfl (.c rfl (.c rfl (.c rfl (.c rfl .n))))), ⟨hp, o986, r697⟩⟩
    ·
      have q946 := cond_f q946 hc
      apply go
      have q989 := congrArg some (q947 _ (Option.some.inj q946).symm)
      obtain rfl := Option.some.inj q989
      exact ⟨(x893, e895), (.c rfl .n), rfl, hp, o896⟩
  ·
    rintro ⟨x845, e847⟩ w849 ⟨hy, hp, o848⟩
    replace hy := hy.symm
    subst hy
    apply go
    apply go
    apply go
    obtain rfl := Option.some.inj h
    exact ⟨I0, v703, e847, rfl, hp, o848⟩

end Go.Proofs.YtepadjfmcbjkmaaGreatDoor

namespace Go.Proofs.YtepadjfmcbjkmaaGreatDoor
open Go Go.Proofs.YtepadjfmcbjkmaaGreatDoor.Gw Go.RowKit
set_option linter.unusedVariables false
attribute [local irreducible] Ev EvQ EvS EvH
def integer_divide_S (f : (List Int) → (List Int) → Option ((List Int) × (List Int))) : Prop := ∀ (w0 : World) (I0 : Nat → Prop) (x996 : (List Int)) (v997 : Value) (r998 : RepS (dI .u32) w0 I0 v997 x996) (x999 : (List Int)) (v_0 : Value) (r_1 : RepS (dI .u32) w0 I0 v_0 x999) (hI : ∀ g, I0 g → g < w0.heap.size) (r : ((List Int) × (List Int))), f x996 x999 = some r →
    Ret Tryz.prog 82 #[v997, v_0] w0 fun v w1 => ∃ (I1 : Nat → Prop) (u_2 : Value) (u_3 : Value), v = (.tuple #[u_2, u_3]) ∧ Hp ⟨w0, I0, []⟩ I1 [] w1 ∧ RepS (dI .u32) w1 I1 u_2 r.1 ∧ RepS (dI .u32) w1 I1 u_3 r.2
theorem integer_divide_ok (n : Nat) : integer_divide_S (integer_divide n) := by
  intro w0 I0 x996 v997 r998 x999 v_0 r_1 hI r h
  unfold integer_divide at h
  refine enter Tryz.func82 rfl (Nat.le_of_ble_eq_true rfl) ?_
  have hp : Hp ⟨w0, I0, []⟩ I0 [] w0 := Hp.start hI
  apply go
  apply go
  apply go
  apply go
  apply go
  obtain ⟨x_2, q_3, h⟩ := bind_some h
  refine ev_call rfl rfl C79 (((integer_compare_ok n) _ _  x996 v997 r998 x999 v_0 r_1 hp.imm _ q_3).mono ?_)
  rintro _ w_4 ⟨rfl, hc⟩
  have hs := hp.stp hc
  replace hp := hp.ext hc
  replace r998 := r998.step hs
  replace r_1 := r_1.step hs
  apply go
  refine sel_of (fun hc => ?_) (fun hc => ?_)
  ·
    have h := cond_t h hc
    apply go
    apply go
    obtain ⟨x_5, q_6, h⟩ := bind_some h
    refine ev_call rfl rfl C88 (((slices_Cloneuint32_uint32__ok n) _ _  x996 v997 r998 hp.imm _ q_6).mono ?_)
    rintro _ w_7 ⟨I_8, v_9, hv, hq, r_a⟩
    replace hv := hv.symm
    subst hv
    have hs := hq.st
    have hp := hp.join0 hq
    apply go
    obtain rfl := Option.some.inj h
    exact ⟨I_8, .slice none 0 0, v_9, rfl, hp, RepS.nil _ _ _, r_a⟩
  ·
    have h := cond_f h hc
    apply go
    apply go
    apply go
    apply go
    refine ev0 (rn_len rfl rfl Tryz.underlying22 r_1) ?_
    apply go
    refine sel_of (fun hc => ?_) (fun hc => ?_)
    ·
      have h := cond_t h hc
      apply go
      apply go
      obtain ⟨x_b, q_c, h⟩ := bind_some h
      refine ev_index rfl rfl rfl Tryz.underlying22 T46 r_1 q_c ?_
      intro p_d c_e d_f a_g
      obtain rfl : c_e = [(.int .u32 x_b)] := d_f
      refine ev (rn_load rfl rfl (run_loadVar1 T46 (a_g.2 0 _ rfl))) ?_
      obtain ⟨⟨x_h, x_i⟩, q_j, h⟩ := bind_some h
      refine ev_call rfl rfl C95 (((integer_short_ok n) _ _  x996 v997 r998 x_b hp.imm _ q_j).mono ?_)
      rintro _ w_k ⟨I_l, v_m, hv, hq, r_n⟩
      replace hv := hv.symm
      subst hv
      have hs := hq.st
      have hp := hp.join0 hq
      apply go
      apply go
      refine ev_litN (d := (dI .u32)) (xs := [x_i]) (cs := [(.int .u32 x_i)]) hp rfl rfl Tryz.underlying22 T46 (by decide) rfl rfl (Elems.cons (d := (dI .u32)) (xs := _) rfl (Elems.nil _ _ _ _)) ?_
      intro v_o I_p w_q hp hs r_r
      replace r_n := r_n.step hs
      apply go
      obtain rfl := Option.some.inj h
      exact ⟨I_p, v_m, v_o, rfl, hp, r_n, r_r⟩
    ·
      have h := cond_f h hc
      apply go
      apply go
      apply go
      refine ev0 (rn_len rfl rfl Tryz.underlying22 r_1) ?_
      obtain ⟨x_s, q_t, h⟩ := bind_some h
      refine ev_index rfl rfl rfl Tryz.underlying22 T46 r_1 q_t ?_
      intro p_u c_v d_w a_x
      obtain rfl : c_v = [(.int .u32 x_s)] := d_w
      refine ev (rn_load rfl rfl (run_loadVar1 T46 (a_x.2 0 _ rfl))) ?_
      obtain ⟨x_y, q_z, h⟩ := bind_some h
      refine ev_call rfl rfl C106 (((bits_LeadingZeros32_ok n) _ _  x_s hp.imm _ q_z).mono ?_)
      rintro _ w_10 ⟨rfl, hc⟩
      have hs := hp.stp hc
      replace hp := hp.ext hc
      replace r998 := r998.step hs
      replace r_1 := r_1.step hs
      refine ev0 (rn_conv rfl rfl U3 Tryz.underlying76) ?_
      apply go
      have hs := hp.stp (Ch.drew [] w_10)
      have hp := hp.drew
      replace r998 := r998.step hs
      replace r_1 := r_1.step hs
      refine W.held [(0, true), (1, true), (3, true), (4, true), (6, true), (7, true), (2, false), (5, false), (9, true), (8, false), (10, true)] (Stp I0 w_10.drew I0) MX (by kernel_rfl) (Stp.refl _ _) ?_
      have hz := Stp.refl I0 w_10.drew
      refine evh0 (rn_len rfl rfl Tryz.underlying22 r_1) ?_
      obtain ⟨x_11, q_12, h⟩ := bind_some h
      refine ev_call rfl rfl C107 (((integer_shifted_ok n) _ _  x996 v997 r998 (IntKind.u64.wrap x_y) hp.imm _ q_12).mono ?_)
      rintro _ w_13 ⟨I_14, v_15, e_16, hv, hq, o_17⟩
      replace hv := hv.symm
      subst hv
      have hs := hq.st
      have hp := hp.join0 hq
      replace hz := hz.trans hs
      replace r_1 := r_1.step hs
      refine ⟨Stp I_14 w_13 I_14, Stp.refl _ _, fun x hx => hz.held hx, ?_⟩
      have hz := Stp.refl I_14 w_13
      obtain ⟨x_18, q_19, h⟩ := bind_some h
      refine ev_call rfl rfl C107 (((integer_shifted_ok n) _ _  x999 v_0 r_1 (IntKind.u64.wrap x_y) hp.imm _ q_19).mono ?_)
      rintro _ w_1a ⟨I_1b, v_1c, e_1d, hv, hq, o_1e⟩
      replace hv := hv.symm
      subst hv
      have hs := hq.st
      have hp := hp.join0 hq
      replace hz := hz.trans hs
      replace o_17 := o_17.step hs
      refine ⟨Stp I_1b w_1a I_1b, Stp.refl _ _, fun x hx => hz.held hx, ?_⟩
      have hz := Stp.refl I_1b w_1a
      have r_1f := o_1e.frz hp (i := 0) rfl
      obtain ⟨hp, hs⟩ := freeze_hp hp (i := 0) rfl
      replace hz := hz.trans hs
      replace o_17 := o_17.step hs
      have hp := hp.sel [1] (by decide)
      obtain ⟨x_1g, q_1h, h⟩ := bind_some h
      refine ev_slice (kl := .i64) (kh := .i64) rfl rfl rfl rfl Tryz.underlying22 T46 r_1f q_1h ?_
      intro v_1i r_1j
      refine ⟨Stp (Ad I_1b e_1d) w_1a (Ad I_1b e_1d), Stp.refl _ _, fun x hx => hz.held hx, ?_⟩
      have hz := Stp.refl (Ad I_1b e_1d) w_1a
      apply go
      apply go
      refine ev0 (rn_len rfl rfl Tryz.underlying22 r_1j) ?_
      apply go
      apply go
      refine ev0 (x_lenO rfl rfl Tryz.underlying22 o_17) ?_
      obtain ⟨x_1k, q_1l, h⟩ := bind_some h
      refine ev_make (d := (dI .u32)) (x0 := 0) hp rfl rfl rfl Tryz.underlying22 T46 (fun _ _ => rfl) (Nat.le_of_ble_eq_true rfl) q_1l ?_
      intro v_1m e_1n w_1o hp hs o_1p
      replace o_17 := o_17.step hs
      replace r_1j := r_1j.step hs
      obtain ⟨y_1q, q_1r, h⟩ := bind_some h
      refine W.cut (γ := ((List Int) × (List Int) × Ent × Ent)) (fun g => [(8, (.int .u64 (IntKind.u64.wrap x_y))), (9, v_15), (11, (.int .i64 (x_1g.length : Int))), (12, v_1m)]) (fun g w' => y_1q = ((g.1), (g.2.1)) ∧ Hp ⟨w0, I0, []⟩ (Ad I_1b e_1d) [(g.2.2.1), (g.2.2.2)] w' ∧ OwnS (dI .u32) 46 w' (Ad I_1b e_1d) v_15 (g.2.2.1) (g.1) ∧ OwnS (dI .u32) 46 w' (Ad I_1b e_1d) v_1m (g.2.2.2) (g.2.1)) ?_ ?_
      ·
        apply go
        apply go
        refine ev0 (x_lenO rfl rfl Tryz.underlying22 o_17) ?_
        apply go
        have hp := hp.perm [1, 0] (by decide)
        refine W.loop q_1r (γ := (Ent × Ent)) (fun s g => [(8, (.int .u64 (IntKind.u64.wrap x_y))), (9, v_15), (10, v_1i), (11, (.int .i64 (x_1g.length : Int))), (12, v_1m), (13, (.int .i64 (s.2.2)))]) (fun s g w' => Hp ⟨w0, I0, []⟩ (Ad I_1b e_1d) [(g.1), (g.2)] w' ∧ OwnS (dI .u32) 46 w' (Ad I_1b e_1d) v_15 (g.1) (s.1) ∧ RepS (dI .u32) w' (Ad I_1b e_1d) v_1i x_1g ∧ OwnS (dI .u32) 46 w' (Ad I_1b e_1d) v_1m (g.2) (s.2.1)) (e_16, e_1n) (.c rfl (.c rfl (.c rfl (.c rfl (.c rfl (.c rfl .n)))))) ⟨hp, o_17, r_1j, o_1p⟩ ?_
        rintro ⟨x_1s, x_1t, x_1u⟩ ⟨e_1v, e_1w⟩ w_1x y_1y ⟨hp, o_1z, r_1j, o_20⟩ q_21 q_22
        unfold integer_divide_L81 at q_21
        apply go
        apply go
        apply go
        apply go
        refine sel_of (fun hc => ?_) (fun hc => ?_)
        ·
          have q_21 := cond_t q_21 hc
          apply go
          obtain ⟨y_23, q_24, q_21⟩ := bind_some q_21
          refine W.cut (γ := ((List Int) × (List Int) × Ent × Ent)) (fun g => [(8, (.int .u64 (IntKind.u64.wrap x_y))), (9, v_15), (10, v_1i), (11, (.int .i64 (x_1g.length : Int))), (12, v_1m), (13, (.int .i64 x_1u))]) (fun g w' => y_23 = ((g.1), (g.2.1)) ∧ Hp ⟨w0, I0, []⟩ (Ad I_1b e_1d) [(g.2.2.1), (g.2.2.2)] w' ∧ OwnS (dI .u32) 46 w' (Ad I_1b e_1d) v_15 (g.2.2.1) (g.1) ∧ RepS (dI .u32) w' (Ad I_1b e_1d) v_1i x_1g ∧ OwnS (dI .u32) 46 w' (Ad I_1b e_1d) v_1m (g.2.2.2) (g.2.1)) ?_ ?_
          ·
            apply go
            apply go
            refine W.quiet (fun w' => Ch [] w_1x w') MX (by kernel_rfl) (Ch.drew [] w_1x) ?_
            obtain ⟨x_25, q_26, q_24⟩ := bind_some q_24
            refine evq_indexO rfl rfl rfl Tryz.underlying22 T46 o_1z q_26 ?_
            intro g_27 c_28 h_29 d_2a l_2b
            refine evq (fun w' hw => rn_load rfl rfl (run_loadVar1 T46 ((hp.ext hw).cellE (i := 0) rfl h_29 d_2a (j := 0) rfl))) ?_
            refine evq0 (rn_conv rfl rfl U46 Tryz.underlying75) ?_
            refine ⟨by decide, ?_⟩
            obtain ⟨x_2c, q_2d, q_24⟩ := bind_some q_24
            refine evq_indexO rfl rfl rfl Tryz.underlying22 T46 o_1z q_2d ?_
            intro g_2e c_2f h_2g d_2h l_2i
            refine evq (fun w' hw => rn_load rfl rfl (run_loadVar1 T46 ((hp.ext hw).cellE (i := 0) rfl h_2g d_2h (j := 0) rfl))) ?_
            refine evq0 (rn_conv rfl rfl U46 Tryz.underlying75) ?_
            intro w_2j hc
            have hs := hp.stp hc
            replace hp := hp.ext hc
            replace o_1z := o_1z.step hs
            replace r_1j := r_1j.step hs
            replace o_20 := o_20.step hs
            apply go
            refine W.quiet (fun w' => Ch [] w_2j w') MX (by kernel_rfl) (Ch.drew [] w_2j) ?_
            obtain ⟨x_2k, q_2l, q_24⟩ := bind_some q_24
            refine evq_index rfl rfl rfl Tryz.underlying22 T46 r_1j q_2l ?_
            intro p_2m c_2n d_2o a_2p
            obtain rfl : c_2n = [(.int .u32 x_2k)] := d_2o
            refine evq (fun w' hw => rn_load rfl rfl (run_loadVar1 T46 ((a_2p.step (hp.stp hw)).2 0 _ rfl))) ?_
            refine evq0 (rn_conv rfl rfl U46 Tryz.underlying75) ?_
            obtain ⟨q_2q, _, q_24⟩ := need_some q_24
            refine ⟨q_2q, ?_⟩
            obtain ⟨x_2r, q_2s, q_24⟩ := bind_some q_24
            refine evq_index rfl rfl rfl Tryz.underlying22 T46 r_1j q_2s ?_
            intro p_2t c_2u d_2v a_2w
            obtain rfl : c_2u = [(.int .u32 x_2r)] := d_2v
            refine evq (fun w' hw => rn_load rfl rfl (run_loadVar1 T46 ((a_2w.step (hp.stp hw)).2 0 _ rfl))) ?_
            refine evq0 (rn_conv rfl rfl U46 Tryz.underlying75) ?_
            obtain ⟨q_2x, _, q_24⟩ := need_some q_24
            refine ⟨q_2x, ?_⟩
            intro w_2y hc
            have hs := hp.stp hc
            replace hp := hp.ext hc
            replace o_1z := o_1z.step hs
            replace r_1j := r_1j.step hs
            replace o_20 := o_20.step hs
            obtain ⟨y_2z, q_30, q_24⟩ := bind_some q_24
            refine W.cut (γ := Int) (fun g => [(8, (.int .u64 (IntKind.u64.wrap x_y))), (9, v_15), (10, v_1i), (11, (.int .i64 (x_1g.length : Int))), (12, v_1m), (13, (.int .i64 x_1u)), (15, (.int .u64 (g)))]) (fun g w' => y_2z = (g) ∧ Hp ⟨w0, I0, []⟩ (Ad I_1b e_1d) [e_1v, e_1w] w' ∧ OwnS (dI .u32) 46 w' (Ad I_1b e_1d) v_15 e_1v x_1s ∧ RepS (dI .u32) w' (Ad I_1b e_1d) v_1i x_1g ∧ OwnS (dI .u32) 46 w' (Ad I_1b e_1d) v_1m e_1w x_1t) ?_ ?_
            ·
              apply go
              refine W.loop q_30 (γ := Unit) (fun s _ => [(8, (.int .u64 (IntKind.u64.wrap x_y))), (9, v_15), (10, v_1i), (11, (.int .i64 (x_1g.length : Int))), (12, v_1m), (13, (.int .i64 x_1u)), (15, (.int .u64 (s.1))), (16, (.int .u64 (s.2)))]) (fun s _ w' => Hp ⟨w0, I0, []⟩ (Ad I_1b e_1d) [e_1v, e_1w] w' ∧ OwnS (dI .u32) 46 w' (Ad I_1b e_1d) v_15 e_1v x_1s ∧ RepS (dI .u32) w' (Ad I_1b e_1d) v_1i x_1g ∧ OwnS (dI .u32) 46 w' (Ad I_1b e_1d) v_1m e_1w x_1t) () (.c rfl (.c rfl (.c rfl (.c rfl (.c rfl (.c rfl (.c rfl (.c rfl .n)))))))) ⟨hp, o_1z, r_1j, o_20⟩ ?_
              rintro ⟨x_31, x_32⟩ ⟨⟩ w_33 y_34 ⟨hp, o_1z, r_1j, o_20⟩ q_35 q_36
              unfold integer_divide_L91 at q_35
              apply go
              obtain ⟨y_37, q_38, q_35⟩ := bind_some q_35
              refine W.cut (γ := Bool) (fun g => [(8, (.int .u64 (IntKind.u64.wrap x_y))), (9, v_15), (10, v_1i), (11, (.int .i64 (x_1g.length : Int))), (12, v_1m), (13, (.int .i64 x_1u)), (15, (.int .u64 x_31)), (16, (.int .u64 x_32)), (136, (.bool (g)))]) (fun g w' => y_37 = (g) ∧ Hp ⟨w0, I0, []⟩ (Ad I_1b e_1d) [e_1v, e_1w] w' ∧ OwnS (dI .u32) 46 w' (Ad I_1b e_1d) v_15 e_1v x_1s ∧ RepS (dI .u32) w' (Ad I_1b e_1d) v_1i x_1g ∧ OwnS (dI .u32) 46 w' (Ad I_1b e_1d) v_1m e_1w x_1t) ?_ ?_
              ·
                refine W.quiet (fun w' => Ch [] w_33 w') MX (by kernel_rfl) (Ch.drew [] w_33) ?_
                refine sel_of (fun hc => ?_) (fun hc => ?_)
                ·
                  have q_38 := cond_t q_38 hc
                  intro w_39 hc
                  have hs := hp.stp hc
                  replace hp := hp.ext hc
                  replace o_1z := o_1z.step hs
                  replace r_1j := r_1j.step hs
                  replace o_20 := o_20.step hs
                  obtain rfl := Option.some.inj q_38
                  exact ⟨true, (.c rfl (.c rfl (.c rfl (.c rfl (.c rfl (.c rfl (.c rfl (.c rfl (.c rfl .n))))))))), rfl, hp, o_1z, r_1j, o_20⟩
                ·
                  have q_38 := cond_f q_38 hc
                  obtain ⟨x_3a, q_3b, q_38⟩ := bind_some q_38
                  refine evq_index rfl rfl rfl Tryz.underlying22 T46 r_1j q_3b ?_
                  intro p_3c c_3d d_3e a_3f
                  obtain rfl : c_3d = [(.int .u32 x_3a)] := d_3e
                  refine evq (fun w' hw => rn_load rfl rfl (run_loadVar1 T46 ((a_3f.step (hp.stp hw)).2 0 _ rfl))) ?_
                  refine evq0 (rn_conv rfl rfl U46 Tryz.underlying75) ?_
                  refine ⟨by decide, ?_⟩
                  obtain ⟨x_3g, q_3h, q_38⟩ := bind_some q_38
                  refine evq_indexO rfl rfl rfl Tryz.underlying22 T46 o_1z q_3h ?_
                  intro g_3i c_3j h_3k d_3l l_3m
                  refine evq (fun w' hw => rn_load rfl rfl (run_loadVar1 T46 ((hp.ext hw).cellE (i := 0) rfl h_3k d_3l (j := 0) rfl))) ?_
                  refine evq0 (rn_conv rfl rfl U46 Tryz.underlying75) ?_
                  intro w_3n hc
                  have hs := hp.stp hc
                  replace hp := hp.ext hc
                  replace o_1z := o_1z.step hs
                  replace r_1j := r_1j.step hs
                  replace o_20 := o_20.step hs
                  replace a_3f := a_3f.step hs
                  obtain rfl := Option.some.inj q_38
                  exact ⟨(decide ((IntKind.u64.wrap (x_31 * (IntKind.u64.wrap x_3a))) > (ib .or .u64 (IntKind.u64.wrap (x_32 * 2 ^ min (32 : Int).toNat (IntKind.u64).bits)) (IntKind.u64.wrap x_3g)))), (.c rfl (.c rfl (.c rfl (.c rfl (.c rfl (.c rfl (.c rfl (.c rfl (.c rfl .n))))))))), rfl, hp, o_1z, r_1j, o_20⟩
              ·
                rintro x_3o w_3p ⟨hy, hp, o_1z, r_1j, o_20⟩
                replace hy := hy.symm
                subst hy
                apply go
                refine sel_of (fun hc => ?_) (fun hc => ?_)
                ·
                  have q_35 := cond_t q_35 hc
                  apply go
                  apply go
                  apply go
                  apply go
                  apply go
                  apply go
                  obtain ⟨x_3q, q_3r, q_35⟩ := bind_some q_35
                  refine ev_index rfl rfl rfl Tryz.underlying22 T46 r_1j q_3r ?_
                  intro p_3s c_3t d_3u a_3v
                  obtain rfl : c_3t = [(.int .u32 x_3q)] := d_3u
                  refine ev (rn_load rfl rfl (run_loadVar1 T46 (a_3v.2 0 _ rfl))) ?_
                  refine ev0 (rn_conv rfl rfl U46 Tryz.underlying75) ?_
                  apply go
                  apply go
                  apply go
                  refine sel_of (fun hc => ?_) (fun hc => ?_)
                  ·
                    have q_35 := cond_t q_35 hc
                    apply go
                    have q_3w := congrArg some (q_36 _ (Option.some.inj q_35).symm)
                    obtain rfl := Option.some.inj q_3w
                    exact ⟨(IntKind.u64.wrap (x_31 - 1)), (.c rfl (.c rfl (.c rfl (.c rfl (.c rfl (.c rfl (.c rfl .n))))))), rfl, hp, o_1z, r_1j, o_20⟩
                  ·
                    have q_35 := cond_f q_35 hc
                    apply go
                    exact ⟨_, (Option.some.inj q_35).symm, (), (.c rfl (.c rfl (.c rfl (.c rfl (.c rfl (.c rfl (.c rfl (.c rfl .n)))))))), ⟨hp, o_1z, r_1j, o_20⟩⟩
                ·
                  have q_35 := cond_f q_35 hc
                  apply go
                  have q_3x := congrArg some (q_36 _ (Option.some.inj q_35).symm)
                  obtain rfl := Option.some.inj q_3x
                  exact ⟨x_31, (.c rfl (.c rfl (.c rfl (.c rfl (.c rfl (.c rfl (.c rfl .n))))))), rfl, hp, o_1z, r_1j, o_20⟩
            ·
              rintro x_3y w_3z ⟨hy, hp, o_1z, r_1j, o_20⟩
              replace hy := hy.symm
              subst hy
              apply go
              apply go
              apply go
              apply go
              obtain ⟨y_40, q_41, q_24⟩ := bind_some q_24
              refine W.cut (γ := ((List Int) × Int × Int × Ent)) (fun g => [(8, (.int .u64 (IntKind.u64.wrap x_y))), (9, v_15), (10, v_1i), (11, (.int .i64 (x_1g.length : Int))), (12, v_1m), (13, (.int .i64 x_1u)), (15, (.int .u64 x_3y)), (17, (.int .u64 (g.2.1))), (18, (.int .u32 (g.2.2.1)))]) (fun g w' => y_40 = ((g.1), (g.2.1), (g.2.2.1)) ∧ Hp ⟨w0, I0, []⟩ (Ad I_1b e_1d) [(g.2.2.2), e_1w] w' ∧ OwnS (dI .u32) 46 w' (Ad I_1b e_1d) v_15 (g.2.2.2) (g.1) ∧ RepS (dI .u32) w' (Ad I_1b e_1d) v_1i x_1g ∧ OwnS (dI .u32) 46 w' (Ad I_1b e_1d) v_1m e_1w x_1t) ?_ ?_
              ·
                apply go
                apply go
                refine ev0 (rn_len rfl rfl Tryz.underlying22 r_1j) ?_
                apply go
                refine W.loop q_41 (γ := Ent) (fun s g => [(8, (.int .u64 (IntKind.u64.wrap x_y))), (9, v_15), (10, v_1i), (11, (.int .i64 (x_1g.length : Int))), (12, v_1m), (13, (.int .i64 x_1u)), (15, (.int .u64 x_3y)), (17, (.int .u64 (s.2.1))), (18, (.int .u32 (s.2.2.1))), (149, v_1i), (150, (.int .i64 (x_1g.length : Int))), (151, (.int .i64 (s.2.2.2)))]) (fun s g w' => Hp ⟨w0, I0, []⟩ (Ad I_1b e_1d) [(g), e_1w] w' ∧ OwnS (dI .u32) 46 w' (Ad I_1b e_1d) v_15 (g) (s.1) ∧ RepS (dI .u32) w' (Ad I_1b e_1d) v_1i x_1g ∧ OwnS (dI .u32) 46 w' (Ad I_1b e_1d) v_1m e_1w x_1t) e_1v (.c rfl (.c rfl (.c rfl (.c rfl (.c rfl (.c rfl (.c rfl (.c rfl (.c rfl (.c rfl (.c rfl (.c rfl .n)))))))))))) ⟨hp, o_1z, r_1j, o_20⟩ ?_
                rintro ⟨x_42, x_43, x_44, x_45⟩ e_46 w_47 y_48 ⟨hp, o_49, r_1j, o_20⟩ q_4a q_4b
                unfold integer_divide_L93 at q_4a
                apply go
                apply go
                apply go
                apply go
                refine sel_of (fun hc => ?_) (fun hc => ?_)
                ·
                  have q_4a := cond_t q_4a hc
                  apply go
                  apply go
                  apply go
                  apply go
                  apply go
                  obtain ⟨x_4c, q_4d, q_4a⟩ := bind_some q_4a
                  refine ev_index rfl rfl rfl Tryz.underlying22 T46 r_1j q_4d ?_
                  intro p_4e c_4f d_4g a_4h
                  obtain rfl : c_4f = [(.int .u32 x_4c)] := d_4g
                  refine ev (rn_load rfl rfl (run_loadVar1 T46 (a_4h.2 0 _ rfl))) ?_
                  apply go
                  apply go
                  refine ev0 (rn_conv rfl rfl U46 Tryz.underlying75) ?_
                  apply go
                  apply go
                  refine ⟨by decide, ?_⟩
                  apply go
                  obtain ⟨x_4i, q_4j, q_4a⟩ := bind_some q_4a
                  refine ev_indexO rfl rfl rfl Tryz.underlying22 T46 o_49 q_4j ?_
                  intro g_4k c_4l h_4m d_4n l_4o
                  refine ev (rn_load rfl rfl (run_loadVar1 T46 (hp.cellE (i := 0) rfl h_4m d_4n (j := 0) rfl))) ?_
                  refine ev0 (rn_conv rfl rfl U75 Tryz.underlying46) ?_
                  obtain ⟨⟨x_4p, x_4q⟩, q_4r, q_4a⟩ := bind_some q_4a
                  refine ev_call rfl rfl C108 (((bits_Sub32_ok n) _ _  x_4i (IntKind.u32.wrap (IntKind.u64.wrap ((IntKind.u64.wrap (x_3y * (IntKind.u64.wrap x_4c))) + x_43))) x_44 hp.imm _ q_4r).mono ?_)
                  rintro _ w_4s ⟨rfl, hc⟩
                  have hs := hp.stp hc
                  replace hp := hp.ext hc
                  replace o_49 := o_49.step hs
                  replace r_1j := r_1j.step hs
                  replace o_20 := o_20.step hs
                  obtain ⟨x_4t, q_4u, q_4a⟩ := bind_some q_4a
                  refine ev_indexO rfl rfl rfl Tryz.underlying22 T46 o_49 q_4u ?_
                  intro g_4v c_4w h_4x d_4y l_4z
                  refine ev_storeE hp (i := 0) rfl h_4x rfl rfl rfl T46 o_49 q_4u (x0 := x_4p) rfl ?_
                  intro e_50 w_51 hp hs o_52
                  replace r_1j := r_1j.step hs
                  replace o_20 := o_20.step hs
                  apply go
                  exact ⟨_, (Option.some.inj q_4a).symm, e_50, (.c rfl (.c rfl (.c rfl (.c rfl (.c rfl (.c rfl (.c rfl (.c rfl (.c rfl (.c rfl (.c rfl (.c rfl .n)))))))))))), ⟨hp, o_52, r_1j, o_20⟩⟩
                ·
                  have q_4a := cond_f q_4a hc
                  apply go
                  have q_53 := congrArg some (q_4b _ (Option.some.inj q_4a).symm)
                  obtain rfl := Option.some.inj q_53
                  exact ⟨(x_42, x_43, x_44, e_46), (.c rfl (.c rfl (.c rfl (.c rfl (.c rfl (.c rfl (.c rfl (.c rfl (.c rfl .n))))))))), rfl, hp, o_49, r_1j, o_20⟩
              ·
                rintro ⟨x_54, x_55, x_56, e_57⟩ w_58 ⟨hy, hp, o_59, r_1j, o_20⟩
                replace hy := hy.symm
                subst hy
                apply go
                apply go
                obtain ⟨x_5a, q_5b, q_24⟩ := bind_some q_24
                refine ev_indexO rfl rfl rfl Tryz.underlying22 T46 o_59 q_5b ?_
                intro g_5c c_5d h_5e d_5f l_5g
                refine ev (rn_load rfl rfl (run_loadVar1 T46 (hp.cellE (i := 0) rfl h_5e d_5f (j := 0) rfl))) ?_
                refine ev0 (rn_conv rfl rfl U75 Tryz.underlying46) ?_
                obtain ⟨⟨x_5h, x_5i⟩, q_5j, q_24⟩ := bind_some q_24
                refine ev_call rfl rfl C108 (((bits_Sub32_ok n) _ _  x_5a (IntKind.u32.wrap x_55) x_56 hp.imm _ q_5j).mono ?_)
                rintro _ w_5k ⟨rfl, hc⟩
                have hs := hp.stp hc
                replace hp := hp.ext hc
                replace o_59 := o_59.step hs
                replace r_1j := r_1j.step hs
                replace o_20 := o_20.step hs
                obtain ⟨x_5l, q_5m, q_24⟩ := bind_some q_24
                refine ev_indexO rfl rfl rfl Tryz.underlying22 T46 o_59 q_5m ?_
                intro g_5n c_5o h_5p d_5q l_5r
                refine ev_storeE hp (i := 0) rfl h_5p rfl rfl rfl T46 o_59 q_5m (x0 := x_5h) rfl ?_
                intro e_5s w_5t hp hs o_5u
                replace r_1j := r_1j.step hs
                replace o_20 := o_20.step hs
                obtain ⟨y_5v, q_5w, q_24⟩ := bind_some q_24
                refine W.cut (γ := ((List Int) × Int × Ent)) (fun g => [(8, (.int .u64 (IntKind.u64.wrap x_y))), (9, v_15), (10, v_1i), (11, (.int .i64 (x_1g.length : Int))), (12, v_1m), (13, (.int .i64 x_1u)), (15, (.int .u64 (g.2.1)))]) (fun g w' => y_5v = ((g.1), (g.2.1)) ∧ Hp ⟨w0, I0, []⟩ (Ad I_1b e_1d) [(g.2.2), e_1w] w' ∧ OwnS (dI .u32) 46 w' (Ad I_1b e_1d) v_15 (g.2.2) (g.1) ∧ RepS (dI .u32) w' (Ad I_1b e_1d) v_1i x_1g ∧ OwnS (dI .u32) 46 w' (Ad I_1b e_1d) v_1m e_1w x_1t) ?_ ?_
                ·
                  apply go
                  apply go
                  apply go
                  refine sel_of (fun hc => ?_) (fun hc => ?_)
                  ·
                    have q_5w := cond_t q_5w hc
                    apply go
                    apply go
                    apply go
                    apply go
                    obtain ⟨y_5x, q_5y, q_5w⟩ := bind_some q_5w
                    refine W.cut (γ := ((List Int) × Int × Ent)) (fun g => [(8, (.int .u64 (IntKind.u64.wrap x_y))), (9, v_15), (10, v_1i), (11, (.int .i64 (x_1g.length : Int))), (12, v_1m), (13, (.int .i64 x_1u)), (15, (.int .u64 (IntKind.u64.wrap (x_3y - 1)))), (22, (.int .u32 (g.2.1)))]) (fun g w' => y_5x = ((g.1), (g.2.1)) ∧ Hp ⟨w0, I0, []⟩ (Ad I_1b e_1d) [(g.2.2), e_1w] w' ∧ OwnS (dI .u32) 46 w' (Ad I_1b e_1d) v_15 (g.2.2) (g.1) ∧ RepS (dI .u32) w' (Ad I_1b e_1d) v_1i x_1g ∧ OwnS (dI .u32) 46 w' (Ad I_1b e_1d) v_1m e_1w x_1t) ?_ ?_
                    ·
                      apply go
                      apply go
                      refine ev0 (rn_len rfl rfl Tryz.underlying22 r_1j) ?_
                      apply go
                      refine W.loop q_5y (γ := Ent) (fun s g => [(8, (.int .u64 (IntKind.u64.wrap x_y))), (9, v_15), (10, v_1i), (11, (.int .i64 (x_1g.length : Int))), (12, v_1m), (13, (.int .i64 x_1u)), (15, (.int .u64 (IntKind.u64.wrap (x_3y - 1)))), (22, (.int .u32 (s.2.1))), (205, v_1i), (206, (.int .i64 (x_1g.length : Int))), (207, (.int .i64 (s.2.2)))]) (fun s g w' => Hp ⟨w0, I0, []⟩ (Ad I_1b e_1d) [(g), e_1w] w' ∧ OwnS (dI .u32) 46 w' (Ad I_1b e_1d) v_15 (g) (s.1) ∧ RepS (dI .u32) w' (Ad I_1b e_1d) v_1i x_1g ∧ OwnS (dI .u32) 46 w' (Ad I_1b e_1d) v_1m e_1w x_1t) e_5s (.c rfl (.c rfl (.c rfl (.c rfl (.c rfl (.c rfl (.c rfl (.c rfl (.c rfl (.c rfl (.c rfl .n))))))))))) ⟨hp, o_5u, r_1j, o_20⟩ ?_
                      rintro ⟨x_5z, x_60, x_61⟩ e_62 w_63 y_64 ⟨hp, o_65, r_1j, o_20⟩ q_66 q_67
                      unfold integer_divide_L97 at q_66
                      apply go
                      apply go
                      apply go
                      apply go
                      refine sel_of (fun hc => ?_) (fun hc => ?_)
                      ·
                        have q_66 := cond_t q_66 hc
                        apply go
                        apply go
                        apply go
                        apply go
                        apply go
                        obtain ⟨x_68, q_69, q_66⟩ := bind_some q_66
                        refine ev_index rfl rfl rfl Tryz.underlying22 T46 r_1j q_69 ?_
                        intro p_6a c_6b d_6c a_6d
                        obtain rfl : c_6b = [(.int .u32 x_68)] := d_6c
                        refine ev (rn_load rfl rfl (run_loadVar1 T46 (a_6d.2 0 _ rfl))) ?_
                        apply go
                        obtain ⟨x_6e, q_6f, q_66⟩ := bind_some q_66
                        refine ev_indexO rfl rfl rfl Tryz.underlying22 T46 o_65 q_6f ?_
                        intro g_6g c_6h h_6i d_6j l_6k
                        refine ev (rn_load rfl rfl (run_loadVar1 T46 (hp.cellE (i := 0) rfl h_6i d_6j (j := 0) rfl))) ?_
                        obtain ⟨⟨x_6l, x_6m⟩, q_6n, q_66⟩ := bind_some q_66
                        refine ev_call rfl rfl C109 (((bits_Add32_ok n) _ _  x_6e x_68 x_60 hp.imm _ q_6n).mono ?_)
                        rintro _ w_6o ⟨rfl, hc⟩
                        have hs := hp.stp hc
                        replace hp := hp.ext hc
                        replace o_65 := o_65.step hs
                        replace r_1j := r_1j.step hs
                        replace o_20 := o_20.step hs
                        obtain ⟨x_6p, q_6q, q_66⟩ := bind_some q_66
                        refine ev_indexO rfl rfl rfl Tryz.underlying22 T46 o_65 q_6q ?_
                        intro g_6r c_6s h_6t d_6u l_6v
                        refine ev_storeE hp (i := 0) rfl h_6t rfl rfl rfl T46 o_65 q_6q (x0 := x_6l) rfl ?_
                        intro e_6w w_6x hp hs o_6y
                        replace r_1j := r_1j.step hs
                        replace o_20 := o_20.step hs
                        apply go
                        exact ⟨_, (Option.some.inj q_66).symm, e_6w, (.c rfl (.c rfl (.c rfl (.c rfl (.c rfl (.c rfl (.c rfl (.c rfl (.c rfl (.c rfl (.c rfl .n))))))))))), ⟨hp, o_6y, r_1j, o_20⟩⟩
                      ·
                        have q_66 := cond_f q_66 hc
                        apply go
                        have q_6z := congrArg some (q_67 _ (Option.some.inj q_66).symm)
                        obtain rfl := Option.some.inj q_6z
                        exact ⟨(x_5z, x_60, e_62), (.c rfl (.c rfl (.c rfl (.c rfl (.c rfl (.c rfl (.c rfl (.c rfl .n)))))))), rfl, hp, o_65, r_1j, o_20⟩
                    ·
                      rintro ⟨x_70, x_71, e_72⟩ w_73 ⟨hy, hp, o_74, r_1j, o_20⟩
                      replace hy := hy.symm
                      subst hy
                      apply go
                      obtain ⟨x_75, q_76, q_5w⟩ := bind_some q_5w
                      refine ev_indexO rfl rfl rfl Tryz.underlying22 T46 o_74 q_76 ?_
                      intro g_77 c_78 h_79 d_7a l_7b
                      refine ev (rn_load rfl rfl (run_loadVar1 T46 (hp.cellE (i := 0) rfl h_79 d_7a (j := 0) rfl))) ?_
                      obtain ⟨x_7c, q_7d, q_5w⟩ := bind_some q_5w
                      refine ev_indexO rfl rfl rfl Tryz.underlying22 T46 o_74 q_7d ?_
                      intro g_7e c_7f h_7g d_7h l_7i
                      refine ev_storeE hp (i := 0) rfl h_7g rfl rfl rfl T46 o_74 q_7d (x0 := (IntKind.u32.wrap (x_75 + x_71))) rfl ?_
                      intro e_7j w_7k hp hs o_7l
                      replace r_1j := r_1j.step hs
                      replace o_20 := o_20.step hs
                      obtain rfl := Option.some.inj q_5w
                      exact ⟨((upd x_70 (IntKind.i64.wrap (x_1u + (x_1g.length : Int))) (IntKind.u32.wrap (x_75 + x_71))), (IntKind.u64.wrap (x_3y - 1)), e_7j), (.c rfl (.c rfl (.c rfl (.c rfl (.c rfl (.c rfl (.c rfl .n))))))), rfl, hp, o_7l, r_1j, o_20⟩
                  ·
                    have q_5w := cond_f q_5w hc
                    apply go
                    obtain rfl := Option.some.inj q_5w
                    exact ⟨((upd x_54 (IntKind.i64.wrap (x_1u + (x_1g.length : Int))) x_5h), x_3y, e_5s), (.c rfl (.c rfl (.c rfl (.c rfl (.c rfl (.c rfl (.c rfl .n))))))), rfl, hp, o_5u, r_1j, o_20⟩
                ·
                  rintro ⟨x_7m, x_7n, e_7o⟩ w_7p ⟨hy, hp, o_7q, r_1j, o_20⟩
                  replace hy := hy.symm
                  subst hy
                  apply go
                  refine ev0 (rn_conv rfl rfl U75 Tryz.underlying46) ?_
                  obtain ⟨x_7r, q_7s, q_24⟩ := bind_some q_24
                  refine ev_indexO rfl rfl rfl Tryz.underlying22 T46 o_20 q_7s ?_
                  intro g_7t c_7u h_7v d_7w l_7x
                  refine ev_storeE hp (i := 1) rfl h_7v rfl rfl rfl T46 o_20 q_7s (x0 := (IntKind.u32.wrap x_7n)) rfl ?_
                  intro e_7y w_7z hp hs o_80
                  replace o_7q := o_7q.step hs
                  replace r_1j := r_1j.step hs
                  obtain rfl := Option.some.inj q_24
                  exact ⟨(x_7m, (upd x_1t x_1u (IntKind.u32.wrap x_7n)), e_7o, e_7y), (.c rfl (.c rfl (.c rfl (.c rfl (.c rfl (.c rfl .n)))))), rfl, hp, o_7q, r_1j, o_80⟩
          ·
            rintro ⟨x_81, x_82, e_83, e_84⟩ w_85 ⟨hy, hp, o_86, r_1j, o_87⟩
            replace hy := hy.symm
            subst hy
            apply go
            exact ⟨_, (Option.some.inj q_21).symm, (e_83, e_84), (.c rfl (.c rfl (.c rfl (.c rfl (.c rfl (.c rfl .n)))))), ⟨hp, o_86, r_1j, o_87⟩⟩
        ·
          have q_21 := cond_f q_21 hc
          apply go
          have q_88 := congrArg some (q_22 _ (Option.some.inj q_21).symm)
          obtain rfl := Option.some.inj q_88
          exact ⟨(x_1s, x_1t, e_1v, e_1w), (.c rfl (.c rfl (.c rfl (.c rfl .n)))), rfl, hp, o_1z, o_20⟩
      ·
        rintro ⟨x_89, x_8a, e_8b, e_8c⟩ w_8d ⟨hy, hp, o_8e, o_8f⟩
        replace hy := hy.symm
        subst hy
        apply go
        apply go
        obtain ⟨x_8g, q_8h, h⟩ := bind_some h
        refine ev_make (d := (dI .u32)) (x0 := 0) hp rfl rfl rfl Tryz.underlying22 T46 (fun _ _ => rfl) (Nat.le_of_ble_eq_true rfl) q_8h ?_
        intro v_8i e_8j w_8k hp hs o_8l
        replace o_8e := o_8e.step hs
        replace o_8f := o_8f.step hs
        obtain ⟨y_8m, q_8n, h⟩ := bind_some h
        refine W.cut (γ := ((List Int) × Ent)) (fun g => [(12, v_1m), (25, v_8i)]) (fun g w' => y_8m = (g.1) ∧ Hp ⟨w0, I0, []⟩ (Ad I_1b e_1d) [e_8c, (g.2)] w' ∧ OwnS (dI .u32) 46 w' (Ad I_1b e_1d) v_1m e_8c x_8a ∧ OwnS (dI .u32) 46 w' (Ad I_1b e_1d) v_8i (g.2) (g.1)) ?_ ?_
        ·
          apply go
          apply go
          refine ev0 (x_lenO rfl rfl Tryz.underlying22 o_8l) ?_
          apply go
          have hp := hp.perm [1, 2, 0] (by decide)
          refine W.loop q_8n (γ := Ent) (fun s g => [(8, (.int .u64 (IntKind.u64.wrap x_y))), (9, v_15), (12, v_1m), (25, v_8i), (247, (.int .i64 (x_8g.length : Int))), (248, (.int .i64 (s.2)))]) (fun s g w' => Hp ⟨w0, I0, []⟩ (Ad I_1b e_1d) [e_8b, e_8c, (g)] w' ∧ OwnS (dI .u32) 46 w' (Ad I_1b e_1d) v_15 e_8b x_89 ∧ OwnS (dI .u32) 46 w' (Ad I_1b e_1d) v_1m e_8c x_8a ∧ OwnS (dI .u32) 46 w' (Ad I_1b e_1d) v_8i (g) (s.1)) e_8j (.c rfl (.c rfl (.c rfl (.c rfl (.c rfl (.c rfl .n)))))) ⟨hp, o_8e, o_8f, o_8l⟩ ?_
          rintro ⟨x_8o, x_8p⟩ e_8q w_8r y_8s ⟨hp, o_8e, o_8f, o_8t⟩ q_8u q_8v
          unfold integer_divide_L99 at q_8u
          apply go
          apply go
          apply go
          apply go
          refine sel_of (fun hc => ?_) (fun hc => ?_)
          ·
            have q_8u := cond_t q_8u hc
            apply go
            apply go
            apply go
            apply go
            apply go
            have hs := hp.stp (Ch.drew [] w_8r)
            have hp := hp.drew
            replace o_8e := o_8e.step hs
            replace o_8f := o_8f.step hs
            replace o_8t := o_8t.step hs
            refine W.tail 19 MX (by kernel_rfl) ?_
            obtain ⟨x_8w, q_8x, q_8u⟩ := bind_some q_8u
            refine evs_indexO rfl rfl rfl Tryz.underlying22 T46 o_8e q_8x ?_
            intro g_8y c_8z h_90 d_91 l_92
            refine evs (rn_load rfl rfl (run_loadVar1 T46 (hp.cellE (i := 0) rfl h_90 d_91 (j := 0) rfl))) ?_
            refine evs0 (rn_conv rfl rfl U46 Tryz.underlying75) ?_
            refine ⟨by decide, ?_⟩
            obtain ⟨x_93, q_94, q_8u⟩ := bind_some q_8u
            refine evs_indexO rfl rfl rfl Tryz.underlying22 T46 o_8e q_94 ?_
            intro g_95 c_96 h_97 d_98 l_99
            refine evs (rn_load rfl rfl (run_loadVar1 T46 (hp.cellE (i := 0) rfl h_97 d_98 (j := 0) rfl))) ?_
            refine evs0 (rn_conv rfl rfl U46 Tryz.underlying75) ?_
            obtain ⟨q_9a, _, q_8u⟩ := need_some q_8u
            refine ⟨q_9a, ?_⟩
            refine evs0 (rn_conv rfl rfl U75 Tryz.underlying46) ?_
            obtain ⟨x_9b, q_9c, q_8u⟩ := bind_some q_8u
            refine evs_indexO rfl rfl rfl Tryz.underlying22 T46 o_8t q_9c ?_
            intro g_9d c_9e h_9f d_9g l_9h
            refine ev_storeE hp (i := 2) rfl h_9f rfl rfl rfl T46 o_8t q_9c (x0 := (IntKind.u32.wrap ((ib .or .u64 (IntKind.u64.wrap ((IntKind.u64.wrap x_8w) * 2 ^ min (32 : Int).toNat (IntKind.u64).bits)) (IntKind.u64.wrap x_93)).fdiv (2 ^ min (IntKind.u64.wrap x_y).toNat (IntKind.u64).bits)))) rfl ?_
            intro e_9i w_9j hp hs o_9k
            replace o_8e := o_8e.step hs
            replace o_8f := o_8f.step hs
            apply go
            exact ⟨_, (Option.some.inj q_8u).symm, e_9i, (.c rfl (.c rfl (.c rfl (.c rfl (.c rfl (.c rfl .n)))))), ⟨hp, o_8e, o_8f, o_9k⟩⟩
          ·
            have q_8u := cond_f q_8u hc
            apply go
            have q_9l := congrArg some (q_8v _ (Option.some.inj q_8u).symm)
            obtain rfl := Option.some.inj q_9l
            have hp := hp.sel [1, 2] (by decide)
            exact ⟨(x_8o, e_8q), (.c rfl (.c rfl .n)), rfl, hp, o_8f, o_8t⟩
        ·
          rintro ⟨x_9m, e_9n⟩ w_9o ⟨hy, hp, o_8f, o_9p⟩
          replace hy := hy.symm
          subst hy
          apply go
          apply go
          apply go
          obtain rfl := Option.some.inj h
          have r_9q := o_8f.frz hp (i := 0) rfl
          obtain ⟨hp, hs⟩ := freeze_hp hp (i := 0) rfl
          replace o_9p := o_9p.step hs
          have hp := hp.sel [1] (by decide)
          have r_9r := o_9p.frz hp (i := 0) rfl
          obtain ⟨hp, hs⟩ := freeze_hp hp (i := 0) rfl
          replace r_9q := r_9q.step hs
          have hp := hp.sel [] (by decide)
          exact ⟨(Ad (Ad (Ad I_1b e_1d) e_8c) e_9n), v_1m, v_8i, rfl, hp, r_9q, r_9r⟩

end Go.Proofs.YtepadjfmcbjkmaaGreatDoor

namespace Go.Proofs.YtepadjfmcbjkmaaGreatDoor
open Go Go.Proofs.YtepadjfmcbjkmaaGreatDoor.Gw Go.RowKit
set_option linter.unusedVariables false
attribute [local irreducible] Ev EvQ EvS EvH
def integer_DivMod_S (f : Int_2 → Int_2 → Option (Int_2 × Int_2 × Int)) : Prop := ∀ (w0 : World) (I0 : Nat → Prop) (x_0 : Int_2) (v_1 : Value) (r_2 : RepS (dI .u32) w0 I0 v_1 x_0.Mag) (x_3 : Int_2) (v_4 : Value) (r_5 : RepS (dI .u32) w0 I0 v_4 x_3.Mag) (hI : ∀ g, I0 g → g < w0.heap.size) (r : (Int_2 × Int_2 × Int)), f x_0 x_3 = some r →
    Ret Tryz.prog 49 #[(.agg #[(.bool x_0.Neg), v_1]), (.agg #[(.bool x_3.Neg), v_4])] w0 fun v w1 => ∃ (I1 : Nat → Prop) (u_6 : Value) (u_7 : Value), v = (.tuple #[(.agg #[(.bool r.1.Neg), u_6]), (.agg #[(.bool r.2.1.Neg), u_7]), (.int .i64 r.2.2)]) ∧ Hp ⟨w0, I0, []⟩ I1 [] w1 ∧ RepS (dI .u32) w1 I1 u_6 r.1.Mag ∧ RepS (dI .u32) w1 I1 u_7 r.2.1.Mag
theorem integer_DivMod_ok (n : Nat) : integer_DivMod_S (integer_DivMod n) := by
  intro w0 I0 x_0 v_1 r_2 x_3 v_4 r_5 hI r h
  unfold integer_DivMod at h
  refine enter Tryz.func49 rfl (Nat.le_of_ble_eq_true rfl) ?_
  have hp : Hp ⟨w0, I0, []⟩ I0 [] w0 := Hp.start hI
  apply go
  apply go
  refine ev_boxI hp rfl rfl ?_
  intro p_6 I_7 w_8 hp hs a_9
  replace r_5 := r_5.step hs
  replace r_2 := r_2.step hs
  refine ev_boxI hp rfl rfl ?_
  intro p_a I_b w_c hp hs a_d
  replace a_9 := a_9.step hs
  replace r_2 := r_2.step hs
  replace r_5 := r_5.step hs
  refine ev_alloc hp rfl T24 ?_
  intro g_e w_f hp hs
  replace a_9 := a_9.step hs
  replace r_2 := r_2.step hs
  replace a_d := a_d.step hs
  replace r_5 := r_5.step hs
  refine ev_alloc hp rfl T24 ?_
  intro g_g w_h hp hs
  replace a_9 := a_9.step hs
  replace r_2 := r_2.step hs
  replace a_d := a_d.step hs
  replace r_5 := r_5.step hs
  apply go
  have hs := hp.stp (Ch.drew [] w_h)
  have hp := hp.drew
  replace a_9 := a_9.step hs
  replace r_2 := r_2.step hs
  replace a_d := a_d.step hs
  replace r_5 := r_5.step hs
  refine W.held [(0, true), (1, true), (3, true), (4, true), (2, false), (5, false), (6, true), (7, true)] (Stp I_b w_h.drew I_b) MX (by kernel_rfl) (Stp.refl _ _) ?_
  have hz := Stp.refl I_b w_h.drew
  refine evh0 (rn_field rfl rfl FO24_1) ?_
  refine evh (fun w' hw => rn_load rfl rfl (run_loadVar1 T22 ((a_9.step hw).2 1 _ rfl))) ?_
  refine evh0 (rn_field rfl rfl FO24_1) ?_
  refine evh (fun w' hw => rn_load rfl rfl (run_loadVar1 T22 ((a_d.step hw).2 1 _ rfl))) ?_
  obtain ⟨x_i, q_j, h⟩ := bind_some h
  refine ev_call rfl rfl C72 (((integer_trim_ok n) _ _  x_0.Mag v_1 r_2 hp.imm _ q_j).mono ?_)
  rintro _ w_k ⟨I_l, v_m, hv, hq, r_n⟩
  replace hv := hv.symm
  subst hv
  have hs := hq.st
  have hp := hp.join0 hq
  replace hz := hz.trans hs
  replace a_9 := a_9.step hs
  replace r_2 := r_2.step hs
  replace a_d := a_d.step hs
  replace r_5 := r_5.step hs
  refine ⟨Stp I_l w_k I_l, Stp.refl _ _, fun x hx => hz.held hx, ?_⟩
  have hz := Stp.refl I_l w_k
  obtain ⟨x_o, q_p, h⟩ := bind_some h
  refine ev_call rfl rfl C72 (((integer_trim_ok n) _ _  x_3.Mag v_4 r_5 hp.imm _ q_p).mono ?_)
  rintro _ w_q ⟨I_r, v_s, hv, hq, r_t⟩
  replace hv := hv.symm
  subst hv
  have hs := hq.st
  have hp := hp.join0 hq
  replace hz := hz.trans hs
  replace a_9 := a_9.step hs
  replace r_2 := r_2.step hs
  replace a_d := a_d.step hs
  replace r_5 := r_5.step hs
  replace r_n := r_n.step hs
  refine ⟨Stp I_r w_q I_r, Stp.refl _ _, fun x hx => hz.held hx, ?_⟩
  have hz := Stp.refl I_r w_q
  apply go
  apply go
  apply go
  refine ev0 (rn_len rfl rfl Tryz.underlying22 r_t) ?_
  apply go
  refine sel_of (fun hc => ?_) (fun hc => ?_)
  ·
    have h := cond_t h hc
    apply go
    apply go
    refine ev0 (fun w => rn_build (cs := [(.bool false), (.slice none 0 0)]) rfl rfl T24 PL24 rfl) ?_
    refine ev0 (fun w => rn_build (cs := [(.bool false), (.slice none 0 0)]) rfl rfl T24 PL24 rfl) ?_
    refine ev_storeA hp (i := 1) (off := 0) (vs := [(.bool false), (.slice none 0 0)]) rfl rfl rfl rfl T24 rfl (Nat.le_of_ble_eq_true rfl) (ones_of rfl) ?_
    intro w_u hp hs
    refine ev_storeA hp (i := 0) (off := 0) (vs := [(.bool false), (.slice none 0 0)]) rfl rfl rfl rfl T24 rfl (Nat.le_of_ble_eq_true rfl) (ones_of rfl) ?_
    intro w_v hp hs
    apply go
    obtain rfl := Option.some.inj h
    refine ⟨_, run_loadVarA T24 rfl (hp.at_ (i := 1) rfl), ?_⟩
    refine ⟨_, run_loadVarA T24 rfl (hp.at_ (i := 0) rfl), ?_⟩
    have hp := hp.sel [] (by decide)
    exact ⟨I_r, .slice none 0 0, .slice none 0 0, rfl, hp, RepS.nil _ _ _, RepS.nil _ _ _⟩
  ·
    have h := cond_f h hc
    apply go
    apply go
    apply go
    obtain ⟨⟨x_w, x_x⟩, q_y, h⟩ := bind_some h
    refine ev_call rfl rfl C82 (((integer_divide_ok n) _ _  x_i v_m r_n x_o v_s r_t hp.imm _ q_y).mono ?_)
    rintro _ w_z ⟨I_10, v_11, v_12, hv, hq, r_13, r_14⟩
    replace hv := hv.symm
    subst hv
    have hs := hq.st
    have hp := hp.join0 hq
    replace a_9 := a_9.step hs
    replace r_2 := r_2.step hs
    replace a_d := a_d.step hs
    replace r_5 := r_5.step hs
    replace r_t := r_t.step hs
    obtain ⟨y_15, q_16, h⟩ := bind_some h
    refine W.cut (γ := (Bool × (List Int) × Bool × (List Int) × Nat × Value × Nat × Value × (Nat → Prop))) (fun g => [(3, (.pointer (some (p_a)))), (4, (.pointer (some ⟨g_e, 0, none⟩))), (5, (.pointer (some ⟨g_g, 0, none⟩))), (8, v_s), (11, (.pointer (some ⟨(g.2.2.2.2.1), 0, none⟩))), (12, (.pointer (some ⟨(g.2.2.2.2.2.2.1), 0, none⟩)))]) (fun g w' => y_15 = ((g.1), (g.2.1), (g.2.2.1), (g.2.2.2.1)) ∧ Hp ⟨w0, I0, []⟩ (g.2.2.2.2.2.2.2.2) [some (g_e, [(.bool false), (.slice none 0 0)], 24), some (g_g, [(.bool false), (.slice none 0 0)], 24), some ((g.2.2.2.2.1), [(.bool (g.1)), (g.2.2.2.2.2.1)], 24), some ((g.2.2.2.2.2.2.1), [(.bool (g.2.2.1)), (g.2.2.2.2.2.2.2.1)], 24)] w' ∧ RepS (dI .u32) w' (g.2.2.2.2.2.2.2.2) v_4 x_3.Mag ∧ At w' (g.2.2.2.2.2.2.2.2) p_a [(.bool x_3.Neg), v_4] ∧ RepS (dI .u32) w' (g.2.2.2.2.2.2.2.2) v_s x_o ∧ RepS (dI .u32) w' (g.2.2.2.2.2.2.2.2) (g.2.2.2.2.2.1) (g.2.1) ∧ RepS (dI .u32) w' (g.2.2.2.2.2.2.2.2) (g.2.2.2.2.2.2.2.1) (g.2.2.2.1)) ?_ ?_
    ·
      have hs := hp.stp (Ch.drew [] w_z)
      have hp := hp.drew
      replace a_9 := a_9.step hs
      replace r_2 := r_2.step hs
      replace a_d := a_d.step hs
      replace r_5 := r_5.step hs
      replace r_t := r_t.step hs
      replace r_13 := r_13.step hs
      replace r_14 := r_14.step hs
      refine W.heldG (.q 0 (.q 1 (.q 2 (.q 3 (.q 4 (.q 5 (.q 7 (.q 8 (.q 9 (.l 6 (.l 10 (.l 11 (.l 12 (.l 13 (.l 14 .done .no) .no) .no) (.l 12 (.l 11 (.l 13 (.l 14 .done .no) .no) .no) .no)) (.l 11 (.l 10 (.l 12 (.l 13 (.l 14 .done .no) .no) .no) (.l 12 (.l 10 (.l 13 (.l 14 .done .no) .no) .no) .no)) (.l 12 (.l 10 (.l 11 (.l 13 (.l 14 .done .no) .no) .no) (.l 11 (.l 10 (.l 13 (.l 14 .done .no) .no) .no) .no)) .no))) (.l 11 (.l 6 (.l 10 (.l 12 (.l 13 (.l 14 .done .no) .no) .no) (.l 12 (.l 10 (.l 13 (.l 14 .done .no) .no) .no) .no)) (.l 12 (.l 6 (.l 10 (.l 13 (.l 14 .done .no) .no) .no) .no) .no)) (.l 12 (.l 6 (.l 10 (.l 11 (.l 13 (.l 14 .done .no) .no) .no) (.l 11 (.l 10 (.l 13 (.l 14 .done .no) .no) .no) .no)) (.l 11 (.l 6 (.l 10 (.l 13 (.l 14 .done .no) .no) .no) .no) .no)) .no)))))))))))) (SK (Stp I_10 w_z.drew I_10) [] []) MX (by kernel_rfl) ⟨Stp.refl _ _, kp_nil⟩ ?_
      have hz := Stp.refl I_10 w_z.drew
      refine ⟨SK.same (by kernel_rfl), ?_⟩
      refine evh0 (rn_field rfl rfl FO24_0) ?_
      refine ⟨SK.same (by kernel_rfl), ?_⟩
      refine evh (fun w' hw => rn_load rfl rfl (run_loadVar1 T4 ((a_9.step (S0.si hw)).2 0 _ rfl))) ?_
      refine ⟨SK.same (by kernel_rfl), ?_⟩
      refine evh0 (rn_field rfl rfl FO24_0) ?_
      refine ⟨SK.same (by kernel_rfl), ?_⟩
      refine evh (fun w' hw => rn_load rfl rfl (run_loadVar1 T4 ((a_d.step (S0.si hw)).2 0 _ rfl))) ?_
      refine ⟨SK.same (by kernel_rfl), ?_⟩
      refine evh0 (rn_neB rfl rfl rfl Tryz.underlying4) ?_
      refine ⟨SK.same (by kernel_rfl), ?_⟩
      refine ⟨SK.same (by kernel_rfl), ?_⟩
      refine evh0 (rn_field rfl rfl FO24_0) ?_
      refine ⟨SK.same (by kernel_rfl), ?_⟩
      refine evh (fun w' hw => rn_load rfl rfl (run_loadVar1 T4 ((a_9.step (S0.si hw)).2 0 _ rfl))) ?_
      refine ⟨SK.same (by kernel_rfl), ?_⟩
      refine ⟨?_, ?_⟩
      ·
        obtain ⟨x_17, q_18, q_16⟩ := bind_some q_16
        refine ev_call rfl rfl C80 (((integer_made_ok n) _ _  (!(x_0.Neg == x_3.Neg)) x_w v_11 r_13 hp.imm _ q_18).mono ?_)
        rintro _ w_19 ⟨I_1a, v_1b, hv, hq, r_1c⟩
        replace hv := hv.symm
        subst hv
        have hs := hq.st
        have hp := hp.join0 hq
        replace hz := hz.trans hs
        replace a_d := a_d.step hs
        replace r_5 := r_5.step hs
        replace r_t := r_t.step hs
        replace r_14 := r_14.step hs
        refine ⟨SK (Stp I_1a w_19 I_1a) [] [], ⟨Stp.refl _ _, kp_nil⟩, fun L x h => ⟨hz.held h.1, h.2⟩, ?_⟩
        have hz := Stp.refl I_1a w_19
        refine ⟨?_, ?_⟩
        ·
          obtain ⟨x_1d, q_1e, q_16⟩ := bind_some q_16
          refine ev_call rfl rfl C80 (((integer_made_ok n) _ _  x_0.Neg x_x v_12 r_14 hp.imm _ q_1e).mono ?_)
          rintro _ w_1f ⟨I_1g, v_1h, hv, hq, r_1i⟩
          replace hv := hv.symm
          subst hv
          have hs := hq.st
          have hp := hp.join0 hq
          replace hz := hz.trans hs
          replace a_d := a_d.step hs
          replace r_5 := r_5.step hs
          replace r_t := r_t.step hs
          replace r_1c := r_1c.step hs
          refine ⟨SK (Stp I_1g w_1f I_1g) [] [], ⟨Stp.refl _ _, kp_nil⟩, fun L x h => ⟨hz.held h.1, h.2⟩, ?_⟩
          have hz := Stp.refl I_1g w_1f
          refine ⟨?_, ?_⟩
          ·
            refine ev_alloc hp rfl T24 ?_
            intro g_1j w_1k hp hs
            replace hz := hz.trans hs
            replace a_d := a_d.step hs
            replace r_5 := r_5.step hs
            replace r_t := r_t.step hs
            replace r_1c := r_1c.step hs
            replace r_1i := r_1i.step hs
            refine ⟨SK (Stp I_1g w_1k I_1g) [] [], ⟨Stp.refl _ _, kp_nil⟩, fun L x h => ⟨hz.held h.1, h.2⟩, ?_⟩
            have hz := Stp.refl I_1g w_1k
            refine ⟨?_, trivial⟩
            refine ev_alloc hp rfl T24 ?_
            intro g_1l w_1m hp hs
            replace hz := hz.trans hs
            replace a_d := a_d.step hs
            replace r_5 := r_5.step hs
            replace r_t := r_t.step hs
            replace r_1c := r_1c.step hs
            replace r_1i := r_1i.step hs
            refine ⟨SK (Stp I_1g w_1m I_1g) [] [], ⟨Stp.refl _ _, kp_nil⟩, fun L x h => ⟨hz.held h.1, h.2⟩, ?_⟩
            have hz := Stp.refl I_1g w_1m
            refine ⟨?_, trivial⟩
            refine ev_storeA hp (i := 1) (off := 0) (vs := [(.bool x_17.Neg), v_1b]) rfl rfl rfl rfl T24 rfl (Nat.le_of_ble_eq_true rfl) (ones_cons rfl (ones_cons r_1c.one ones_nil)) ?_
            intro w_1n hp hs
            replace hz := hz.trans hs
            replace a_d := a_d.step hs
            replace r_5 := r_5.step hs
            replace r_t := r_t.step hs
            replace r_1i := r_1i.step hs
            replace r_1c := r_1c.step hs
            refine ⟨SK (Stp I_1g w_1n I_1g) [] [], ⟨Stp.refl _ _, kp_nil⟩, fun L x h => ⟨hz.held h.1, h.2⟩, ?_⟩
            have hz := Stp.refl I_1g w_1n
            refine ⟨?_, trivial⟩
            refine ev_storeA hp (i := 0) (off := 0) (vs := [(.bool x_1d.Neg), v_1h]) rfl rfl rfl rfl T24 rfl (Nat.le_of_ble_eq_true rfl) (ones_cons rfl (ones_cons r_1i.one ones_nil)) ?_
            intro w_1o hp hs
            replace hz := hz.trans hs
            replace a_d := a_d.step hs
            replace r_5 := r_5.step hs
            replace r_t := r_t.step hs
            replace r_1i := r_1i.step hs
            replace r_1c := r_1c.step hs
            refine ⟨SK (Stp I_1g w_1o I_1g) [] [], ⟨Stp.refl _ _, kp_nil⟩, fun L x h => ⟨hz.held h.1, h.2⟩, ?_⟩
            have hz := Stp.refl I_1g w_1o
            obtain rfl := Option.some.inj q_16
            have hp := hp.perm [3, 2, 1, 0] (by decide)
            exact ⟨(x_17.Neg, x_17.Mag, x_1d.Neg, x_1d.Mag, g_1j, v_1b, g_1l, v_1h, I_1g), (.c rfl (.c rfl (.c rfl (.c rfl (.c rfl (.c rfl .n)))))), rfl, hp, r_5, a_d, r_t, r_1c, r_1i⟩
          refine ⟨?_, trivial⟩
          refine ev_alloc hp rfl T24 ?_
          intro g_1p w_1q hp hs
          replace hz := hz.trans hs
          replace a_d := a_d.step hs
          replace r_5 := r_5.step hs
          replace r_t := r_t.step hs
          replace r_1c := r_1c.step hs
          replace r_1i := r_1i.step hs
          refine ⟨SK (Stp I_1g w_1q I_1g) [] [], ⟨Stp.refl _ _, kp_nil⟩, fun L x h => ⟨hz.held h.1, h.2⟩, ?_⟩
          have hz := Stp.refl I_1g w_1q
          refine ⟨?_, trivial⟩
          refine ev_alloc hp rfl T24 ?_
          intro g_1r w_1s hp hs
          replace hz := hz.trans hs
          replace a_d := a_d.step hs
          replace r_5 := r_5.step hs
          replace r_t := r_t.step hs
          replace r_1c := r_1c.step hs
          replace r_1i := r_1i.step hs
          refine ⟨SK (Stp I_1g w_1s I_1g) [] [], ⟨Stp.refl _ _, kp_nil⟩, fun L x h => ⟨hz.held h.1, h.2⟩, ?_⟩
          have hz := Stp.refl I_1g w_1s
          refine ⟨?_, trivial⟩
          refine ev_storeA hp (i := 0) (off := 0) (vs := [(.bool x_17.Neg), v_1b]) rfl rfl rfl rfl T24 rfl (Nat.le_of_ble_eq_true rfl) (ones_cons rfl (ones_cons r_1c.one ones_nil)) ?_
          intro w_1t hp hs
          replace hz := hz.trans hs
          replace a_d := a_d.step hs
          replace r_5 := r_5.step hs
          replace r_t := r_t.step hs
          replace r_1i := r_1i.step hs
          replace r_1c := r_1c.step hs
          refine ⟨SK (Stp I_1g w_1t I_1g) [] [], ⟨Stp.refl _ _, kp_nil⟩, fun L x h => ⟨hz.held h.1, h.2⟩, ?_⟩
          have hz := Stp.refl I_1g w_1t
          refine ⟨?_, trivial⟩
          refine ev_storeA hp (i := 1) (off := 0) (vs := [(.bool x_1d.Neg), v_1h]) rfl rfl rfl rfl T24 rfl (Nat.le_of_ble_eq_true rfl) (ones_cons rfl (ones_cons r_1i.one ones_nil)) ?_
          intro w_1u hp hs
          replace hz := hz.trans hs
          replace a_d := a_d.step hs
          replace r_5 := r_5.step hs
          replace r_t := r_t.step hs
          replace r_1c := r_1c.step hs
          replace r_1i := r_1i.step hs
          refine ⟨SK (Stp I_1g w_1u I_1g) [] [], ⟨Stp.refl _ _, kp_nil⟩, fun L x h => ⟨hz.held h.1, h.2⟩, ?_⟩
          have hz := Stp.refl I_1g w_1u
          obtain rfl := Option.some.inj q_16
          have hp := hp.perm [3, 2, 0, 1] (by decide)
          exact ⟨(x_17.Neg, x_17.Mag, x_1d.Neg, x_1d.Mag, g_1r, v_1b, g_1p, v_1h, I_1g), (.c rfl (.c rfl (.c rfl (.c rfl (.c rfl (.c rfl .n)))))), rfl, hp, r_5, a_d, r_t, r_1c, r_1i⟩
        refine ⟨?_, ?_⟩
        ·
          refine ev_alloc hp rfl T24 ?_
          intro g_1v w_1w hp hs
          replace hz := hz.trans hs
          replace a_d := a_d.step hs
          replace r_5 := r_5.step hs
          replace r_t := r_t.step hs
          replace r_14 := r_14.step hs
          replace r_1c := r_1c.step hs
          refine ⟨SK (Stp I_1a w_1w I_1a) [] [], ⟨Stp.refl _ _, kp_nil⟩, fun L x h => ⟨hz.held h.1, h.2⟩, ?_⟩
          have hz := Stp.refl I_1a w_1w
          refine ⟨?_, ?_⟩
          ·
            obtain ⟨x_1x, q_1y, q_16⟩ := bind_some q_16
            refine ev_call rfl rfl C80 (((integer_made_ok n) _ _  x_0.Neg x_x v_12 r_14 hp.imm _ q_1y).mono ?_)
            rintro _ w_1z ⟨I_20, v_21, hv, hq, r_22⟩
            replace hv := hv.symm
            subst hv
            have hs := hq.st
            have hp := hp.join0 hq
            replace hz := hz.trans hs
            replace a_d := a_d.step hs
            replace r_5 := r_5.step hs
            replace r_t := r_t.step hs
            replace r_1c := r_1c.step hs
            refine ⟨SK (Stp I_20 w_1z I_20) [] [], ⟨Stp.refl _ _, kp_nil⟩, fun L x h => ⟨hz.held h.1, h.2⟩, ?_⟩
            have hz := Stp.refl I_20 w_1z
            refine ⟨?_, trivial⟩
            refine ev_alloc hp rfl T24 ?_
            intro g_23 w_24 hp hs
            replace hz := hz.trans hs
            replace a_d := a_d.step hs
            replace r_5 := r_5.step hs
            replace r_t := r_t.step hs
            replace r_1c := r_1c.step hs
            replace r_22 := r_22.step hs
            refine ⟨SK (Stp I_20 w_24 I_20) [] [], ⟨Stp.refl _ _, kp_nil⟩, fun L x h => ⟨hz.held h.1, h.2⟩, ?_⟩
            have hz := Stp.refl I_20 w_24
            refine ⟨?_, trivial⟩
            refine ev_storeA hp (i := 1) (off := 0) (vs := [(.bool x_17.Neg), v_1b]) rfl rfl rfl rfl T24 rfl (Nat.le_of_ble_eq_true rfl) (ones_cons rfl (ones_cons r_1c.one ones_nil)) ?_
            intro w_25 hp hs
            replace hz := hz.trans hs
            replace a_d := a_d.step hs
            replace r_5 := r_5.step hs
            replace r_t := r_t.step hs
            replace r_22 := r_22.step hs
            replace r_1c := r_1c.step hs
            refine ⟨SK (Stp I_20 w_25 I_20) [] [], ⟨Stp.refl _ _, kp_nil⟩, fun L x h => ⟨hz.held h.1, h.2⟩, ?_⟩
            have hz := Stp.refl I_20 w_25
            refine ⟨?_, trivial⟩
            refine ev_storeA hp (i := 0) (off := 0) (vs := [(.bool x_1x.Neg), v_21]) rfl rfl rfl rfl T24 rfl (Nat.le_of_ble_eq_true rfl) (ones_cons rfl (ones_cons r_22.one ones_nil)) ?_
            intro w_26 hp hs
            replace hz := hz.trans hs
            replace a_d := a_d.step hs
            replace r_5 := r_5.step hs
            replace r_t := r_t.step hs
            replace r_22 := r_22.step hs
            replace r_1c := r_1c.step hs
            refine ⟨SK (Stp I_20 w_26 I_20) [] [], ⟨Stp.refl _ _, kp_nil⟩, fun L x h => ⟨hz.held h.1, h.2⟩, ?_⟩
            have hz := Stp.refl I_20 w_26
            obtain rfl := Option.some.inj q_16
            have hp := hp.perm [3, 2, 1, 0] (by decide)
            exact ⟨(x_17.Neg, x_17.Mag, x_1x.Neg, x_1x.Mag, g_1v, v_1b, g_23, v_21, I_20), (.c rfl (.c rfl (.c rfl (.c rfl (.c rfl (.c rfl .n)))))), rfl, hp, r_5, a_d, r_t, r_1c, r_22⟩
          refine ⟨?_, trivial⟩
          refine ev_alloc hp rfl T24 ?_
          intro g_27 w_28 hp hs
          replace hz := hz.trans hs
          replace a_d := a_d.step hs
          replace r_5 := r_5.step hs
          replace r_t := r_t.step hs
          replace r_14 := r_14.step hs
          replace r_1c := r_1c.step hs
          refine ⟨SK (Stp I_1a w_28 I_1a) [] [], ⟨Stp.refl _ _, kp_nil⟩, fun L x h => ⟨hz.held h.1, h.2⟩, ?_⟩
          have hz := Stp.refl I_1a w_28
          refine ⟨?_, trivial⟩
          obtain ⟨x_29, q_2a, q_16⟩ := bind_some q_16
          refine ev_call rfl rfl C80 (((integer_made_ok n) _ _  x_0.Neg x_x v_12 r_14 hp.imm _ q_2a).mono ?_)
          rintro _ w_2b ⟨I_2c, v_2d, hv, hq, r_2e⟩
          replace hv := hv.symm
          subst hv
          have hs := hq.st
          have hp := hp.join0 hq
          replace hz := hz.trans hs
          replace a_d := a_d.step hs
          replace r_5 := r_5.step hs
          replace r_t := r_t.step hs
          replace r_1c := r_1c.step hs
          refine ⟨SK (Stp I_2c w_2b I_2c) [] [], ⟨Stp.refl _ _, kp_nil⟩, fun L x h => ⟨hz.held h.1, h.2⟩, ?_⟩
          have hz := Stp.refl I_2c w_2b
          refine ⟨?_, trivial⟩
          refine ev_storeA hp (i := 1) (off := 0) (vs := [(.bool x_17.Neg), v_1b]) rfl rfl rfl rfl T24 rfl (Nat.le_of_ble_eq_true rfl) (ones_cons rfl (ones_cons r_1c.one ones_nil)) ?_
          intro w_2f hp hs
          replace hz := hz.trans hs
          replace a_d := a_d.step hs
          replace r_5 := r_5.step hs
          replace r_t := r_t.step hs
          replace r_2e := r_2e.step hs
          replace r_1c := r_1c.step hs
          refine ⟨SK (Stp I_2c w_2f I_2c) [] [], ⟨Stp.refl _ _, kp_nil⟩, fun L x h => ⟨hz.held h.1, h.2⟩, ?_⟩
          have hz := Stp.refl I_2c w_2f
          refine ⟨?_, trivial⟩
          refine ev_storeA hp (i := 0) (off := 0) (vs := [(.bool x_29.Neg), v_2d]) rfl rfl rfl rfl T24 rfl (Nat.le_of_ble_eq_true rfl) (ones_cons rfl (ones_cons r_2e.one ones_nil)) ?_
          intro w_2g hp hs
          replace hz := hz.trans hs
          replace a_d := a_d.step hs
          replace r_5 := r_5.step hs
          replace r_t := r_t.step hs
          replace r_2e := r_2e.step hs
          replace r_1c := r_1c.step hs
          refine ⟨SK (Stp I_2c w_2g I_2c) [] [], ⟨Stp.refl _ _, kp_nil⟩, fun L x h => ⟨hz.held h.1, h.2⟩, ?_⟩
          have hz := Stp.refl I_2c w_2g
          obtain rfl := Option.some.inj q_16
          have hp := hp.perm [3, 2, 1, 0] (by decide)
          exact ⟨(x_17.Neg, x_17.Mag, x_29.Neg, x_29.Mag, g_1v, v_1b, g_27, v_2d, I_2c), (.c rfl (.c rfl (.c rfl (.c rfl (.c rfl (.c rfl .n)))))), rfl, hp, r_5, a_d, r_t, r_1c, r_2e⟩
        refine ⟨?_, trivial⟩
        refine ev_alloc hp rfl T24 ?_
        intro g_2h w_2i hp hs
        replace hz := hz.trans hs
        replace a_d := a_d.step hs
        replace r_5 := r_5.step hs
        replace r_t := r_t.step hs
        replace r_14 := r_14.step hs
        replace r_1c := r_1c.step hs
        refine ⟨SK (Stp I_1a w_2i I_1a) [] [], ⟨Stp.refl _ _, kp_nil⟩, fun L x h => ⟨hz.held h.1, h.2⟩, ?_⟩
        have hz := Stp.refl I_1a w_2i
        refine ⟨?_, ?_⟩
        ·
          obtain ⟨x_2j, q_2k, q_16⟩ := bind_some q_16
          refine ev_call rfl rfl C80 (((integer_made_ok n) _ _  x_0.Neg x_x v_12 r_14 hp.imm _ q_2k).mono ?_)
          rintro _ w_2l ⟨I_2m, v_2n, hv, hq, r_2o⟩
          replace hv := hv.symm
          subst hv
          have hs := hq.st
          have hp := hp.join0 hq
          replace hz := hz.trans hs
          replace a_d := a_d.step hs
          replace r_5 := r_5.step hs
          replace r_t := r_t.step hs
          replace r_1c := r_1c.step hs
          refine ⟨SK (Stp I_2m w_2l I_2m) [] [], ⟨Stp.refl _ _, kp_nil⟩, fun L x h => ⟨hz.held h.1, h.2⟩, ?_⟩
          have hz := Stp.refl I_2m w_2l
          refine ⟨?_, trivial⟩
          refine ev_alloc hp rfl T24 ?_
          intro g_2p w_2q hp hs
          replace hz := hz.trans hs
          replace a_d := a_d.step hs
          replace r_5 := r_5.step hs
          replace r_t := r_t.step hs
          replace r_1c := r_1c.step hs
          replace r_2o := r_2o.step hs
          refine ⟨SK (Stp I_2m w_2q I_2m) [] [], ⟨Stp.refl _ _, kp_nil⟩, fun L x h => ⟨hz.held h.1, h.2⟩, ?_⟩
          have hz := Stp.refl I_2m w_2q
          refine ⟨?_, trivial⟩
          refine ev_storeA hp (i := 0) (off := 0) (vs := [(.bool x_17.Neg), v_1b]) rfl rfl rfl rfl T24 rfl (Nat.le_of_ble_eq_true rfl) (ones_cons rfl (ones_cons r_1c.one ones_nil)) ?_
          intro w_2r hp hs
          replace hz := hz.trans hs
          replace a_d := a_d.step hs
          replace r_5 := r_5.step hs
          replace r_t := r_t.step hs
          replace r_2o := r_2o.step hs
          replace r_1c := r_1c.step hs
          refine ⟨SK (Stp I_2m w_2r I_2m) [] [], ⟨Stp.refl _ _, kp_nil⟩, fun L x h => ⟨hz.held h.1, h.2⟩, ?_⟩
          have hz := Stp.refl I_2m w_2r
          refine ⟨?_, trivial⟩
          refine ev_storeA hp (i := 1) (off := 0) (vs := [(.bool x_2j.Neg), v_2n]) rfl rfl rfl rfl T24 rfl (Nat.le_of_ble_eq_true rfl) (ones_cons rfl (ones_cons r_2o.one ones_nil)) ?_
          intro w_2s hp hs
          replace hz := hz.trans hs
          replace a_d := a_d.step hs
          replace r_5 := r_5.step hs
          replace r_t := r_t.step hs
          replace r_1c := r_1c.step hs
          replace r_2o := r_2o.step hs
          refine ⟨SK (Stp I_2m w_2s I_2m) [] [], ⟨Stp.refl _ _, kp_nil⟩, fun L x h => ⟨hz.held h.1, h.2⟩, ?_⟩
          have hz := Stp.refl I_2m w_2s
          obtain rfl := Option.some.inj q_16
          have hp := hp.perm [3, 2, 0, 1] (by decide)
          exact ⟨(x_17.Neg, x_17.Mag, x_2j.Neg, x_2j.Mag, g_2p, v_1b, g_2h, v_2n, I_2m), (.c rfl (.c rfl (.c rfl (.c rfl (.c rfl (.c rfl .n)))))), rfl, hp, r_5, a_d, r_t, r_1c, r_2o⟩
        refine ⟨?_, trivial⟩
        refine ev_alloc hp rfl T24 ?_
        intro g_2t w_2u hp hs
        replace hz := hz.trans hs
        replace a_d := a_d.step hs
        replace r_5 := r_5.step hs
        replace r_t := r_t.step hs
        replace r_14 := r_14.step hs
        replace r_1c := r_1c.step hs
        refine ⟨SK (Stp I_1a w_2u I_1a) [] [], ⟨Stp.refl _ _, kp_nil⟩, fun L x h => ⟨hz.held h.1, h.2⟩, ?_⟩
        have hz := Stp.refl I_1a w_2u
        refine ⟨?_, trivial⟩
        obtain ⟨x_2v, q_2w, q_16⟩ := bind_some q_16
        refine ev_call rfl rfl C80 (((integer_made_ok n) _ _  x_0.Neg x_x v_12 r_14 hp.imm _ q_2w).mono ?_)
        rintro _ w_2x ⟨I_2y, v_2z, hv, hq, r_30⟩
        replace hv := hv.symm
        subst hv
        have hs := hq.st
        have hp := hp.join0 hq
        replace hz := hz.trans hs
        replace a_d := a_d.step hs
        replace r_5 := r_5.step hs
        replace r_t := r_t.step hs
        replace r_1c := r_1c.step hs
        refine ⟨SK (Stp I_2y w_2x I_2y) [] [], ⟨Stp.refl _ _, kp_nil⟩, fun L x h => ⟨hz.held h.1, h.2⟩, ?_⟩
        have hz := Stp.refl I_2y w_2x
        refine ⟨?_, trivial⟩
        refine ev_storeA hp (i := 0) (off := 0) (vs := [(.bool x_17.Neg), v_1b]) rfl rfl rfl rfl T24 rfl (Nat.le_of_ble_eq_true rfl) (ones_cons rfl (ones_cons r_1c.one ones_nil)) ?_
        intro w_31 hp hs
        replace hz := hz.trans hs
        replace a_d := a_d.step hs
        replace r_5 := r_5.step hs
        replace r_t := r_t.step hs
        replace r_30 := r_30.step hs
        replace r_1c := r_1c.step hs
        refine ⟨SK (Stp I_2y w_31 I_2y) [] [], ⟨Stp.refl _ _, kp_nil⟩, fun L x h => ⟨hz.held h.1, h.2⟩, ?_⟩
        have hz := Stp.refl I_2y w_31
        refine ⟨?_, trivial⟩
        refine ev_storeA hp (i := 1) (off := 0) (vs := [(.bool x_2v.Neg), v_2z]) rfl rfl rfl rfl T24 rfl (Nat.le_of_ble_eq_true rfl) (ones_cons rfl (ones_cons r_30.one ones_nil)) ?_
        intro w_32 hp hs
        replace hz := hz.trans hs
        replace a_d := a_d.step hs
        replace r_5 := r_5.step hs
        replace r_t := r_t.step hs
        replace r_1c := r_1c.step hs
        replace r_30 := r_30.step hs
        refine ⟨SK (Stp I_2y w_32 I_2y) [] [], ⟨Stp.refl _ _, kp_nil⟩, fun L x h => ⟨hz.held h.1, h.2⟩, ?_⟩
        have hz := Stp.refl I_2y w_32
        obtain rfl := Option.some.inj q_16
        have hp := hp.perm [3, 2, 0, 1] (by decide)
        exact ⟨(x_17.Neg, x_17.Mag, x_2v.Neg, x_2v.Mag, g_2t, v_1b, g_2h, v_2z, I_2y), (.c rfl (.c rfl (.c rfl (.c rfl (.c rfl (.c rfl .n)))))), rfl, hp, r_5, a_d, r_t, r_1c, r_30⟩
      refine ⟨?_, ?_⟩
      ·
        refine ev_alloc hp rfl T24 ?_
        intro g_33 w_34 hp hs
        replace hz := hz.trans hs
        replace a_d := a_d.step hs
        replace r_5 := r_5.step hs
        replace r_t := r_t.step hs
        replace r_13 := r_13.step hs
        replace r_14 := r_14.step hs
        refine ⟨SK (Stp I_10 w_34 I_10) [] [], ⟨Stp.refl _ _, kp_nil⟩, fun L x h => ⟨hz.held h.1, h.2⟩, ?_⟩
        have hz := Stp.refl I_10 w_34
        refine ⟨?_, ?_⟩
        ·
          obtain ⟨x_35, q_36, q_16⟩ := bind_some q_16
          refine ev_call rfl rfl C80 (((integer_made_ok n) _ _  (!(x_0.Neg == x_3.Neg)) x_w v_11 r_13 hp.imm _ q_36).mono ?_)
          rintro _ w_37 ⟨I_38, v_39, hv, hq, r_3a⟩
          replace hv := hv.symm
          subst hv
          have hs := hq.st
          have hp := hp.join0 hq
          replace hz := hz.trans hs
          replace a_d := a_d.step hs
          replace r_5 := r_5.step hs
          replace r_t := r_t.step hs
          replace r_14 := r_14.step hs
          refine ⟨SK (Stp I_38 w_37 I_38) [] [], ⟨Stp.refl _ _, kp_nil⟩, fun L x h => ⟨hz.held h.1, h.2⟩, ?_⟩
          have hz := Stp.refl I_38 w_37
          refine ⟨?_, ?_⟩
          ·
            obtain ⟨x_3b, q_3c, q_16⟩ := bind_some q_16
            refine ev_call rfl rfl C80 (((integer_made_ok n) _ _  x_0.Neg x_x v_12 r_14 hp.imm _ q_3c).mono ?_)
            rintro _ w_3d ⟨I_3e, v_3f, hv, hq, r_3g⟩
            replace hv := hv.symm
            subst hv
            have hs := hq.st
            have hp := hp.join0 hq
            replace hz := hz.trans hs
            replace a_d := a_d.step hs
            replace r_5 := r_5.step hs
            replace r_t := r_t.step hs
            replace r_3a := r_3a.step hs
            refine ⟨SK (Stp I_3e w_3d I_3e) [] [], ⟨Stp.refl _ _, kp_nil⟩, fun L x h => ⟨hz.held h.1, h.2⟩, ?_⟩
            have hz := Stp.refl I_3e w_3d
            refine ⟨?_, trivial⟩
            refine ev_alloc hp rfl T24 ?_
            intro g_3h w_3i hp hs
            replace hz := hz.trans hs
            replace a_d := a_d.step hs
            replace r_5 := r_5.step hs
            replace r_t := r_t.step hs
            replace r_3a := r_3a.step hs
            replace r_3g := r_3g.step hs
            refine ⟨SK (Stp I_3e w_3i I_3e) [] [], ⟨Stp.refl _ _, kp_nil⟩, fun L x h => ⟨hz.held h.1, h.2⟩, ?_⟩
            have hz := Stp.refl I_3e w_3i
            refine ⟨?_, trivial⟩
            refine ev_storeA hp (i := 1) (off := 0) (vs := [(.bool x_35.Neg), v_39]) rfl rfl rfl rfl T24 rfl (Nat.le_of_ble_eq_true rfl) (ones_cons rfl (ones_cons r_3a.one ones_nil)) ?_
            intro w_3j hp hs
            replace hz := hz.trans hs
            replace a_d := a_d.step hs
            replace r_5 := r_5.step hs
            replace r_t := r_t.step hs
            replace r_3g := r_3g.step hs
            replace r_3a := r_3a.step hs
            refine ⟨SK (Stp I_3e w_3j I_3e) [] [], ⟨Stp.refl _ _, kp_nil⟩, fun L x h => ⟨hz.held h.1, h.2⟩, ?_⟩
            have hz := Stp.refl I_3e w_3j
            refine ⟨?_, trivial⟩
            refine ev_storeA hp (i := 0) (off := 0) (vs := [(.bool x_3b.Neg), v_3f]) rfl rfl rfl rfl T24 rfl (Nat.le_of_ble_eq_true rfl) (ones_cons rfl (ones_cons r_3g.one ones_nil)) ?_
            intro w_3k hp hs
            replace hz := hz.trans hs
            replace a_d := a_d.step hs
            replace r_5 := r_5.step hs
            replace r_t := r_t.step hs
            replace r_3g := r_3g.step hs
            replace r_3a := r_3a.step hs
            refine ⟨SK (Stp I_3e w_3k I_3e) [] [], ⟨Stp.refl _ _, kp_nil⟩, fun L x h => ⟨hz.held h.1, h.2⟩, ?_⟩
            have hz := Stp.refl I_3e w_3k
            obtain rfl := Option.some.inj q_16
            have hp := hp.perm [3, 2, 1, 0] (by decide)
            exact ⟨(x_35.Neg, x_35.Mag, x_3b.Neg, x_3b.Mag, g_33, v_39, g_3h, v_3f, I_3e), (.c rfl (.c rfl (.c rfl (.c rfl (.c rfl (.c rfl .n)))))), rfl, hp, r_5, a_d, r_t, r_3a, r_3g⟩
          refine ⟨?_, trivial⟩
          refine ev_alloc hp rfl T24 ?_
          intro g_3l w_3m hp hs
          replace hz := hz.trans hs
          replace a_d := a_d.step hs
          replace r_5 := r_5.step hs
          replace r_t := r_t.step hs
          replace r_14 := r_14.step hs
          replace r_3a := r_3a.step hs
          refine ⟨SK (Stp I_38 w_3m I_38) [] [], ⟨Stp.refl _ _, kp_nil⟩, fun L x h => ⟨hz.held h.1, h.2⟩, ?_⟩
          have hz := Stp.refl I_38 w_3m
          refine ⟨?_, trivial⟩
          obtain ⟨x_3n, q_3o, q_16⟩ := bind_some q_16
          refine ev_call rfl rfl C80 (((integer_made_ok n) _ _  x_0.Neg x_x v_12 r_14 hp.imm _ q_3o).mono ?_)
          rintro _ w_3p ⟨I_3q, v_3r, hv, hq, r_3s⟩
          replace hv := hv.symm
          subst hv
          have hs := hq.st
          have hp := hp.join0 hq
          replace hz := hz.trans hs
          replace a_d := a_d.step hs
          replace r_5 := r_5.step hs
          replace r_t := r_t.step hs
          replace r_3a := r_3a.step hs
          refine ⟨SK (Stp I_3q w_3p I_3q) [] [], ⟨Stp.refl _ _, kp_nil⟩, fun L x h => ⟨hz.held h.1, h.2⟩, ?_⟩
          have hz := Stp.refl I_3q w_3p
          refine ⟨?_, trivial⟩
          refine ev_storeA hp (i := 1) (off := 0) (vs := [(.bool x_35.Neg), v_39]) rfl rfl rfl rfl T24 rfl (Nat.le_of_ble_eq_true rfl) (ones_cons rfl (ones_cons r_3a.one ones_nil)) ?_
          intro w_3t hp hs
          replace hz := hz.trans hs
          replace a_d := a_d.step hs
          replace r_5 := r_5.step hs
          replace r_t := r_t.step hs
          replace r_3s := r_3s.step hs
          replace r_3a := r_3a.step hs
          refine ⟨SK (Stp I_3q w_3t I_3q) [] [], ⟨Stp.refl _ _, kp_nil⟩, fun L x h => ⟨hz.held h.1, h.2⟩, ?_⟩
          have hz := Stp.refl I_3q w_3t
          refine ⟨?_, trivial⟩
          refine ev_storeA hp (i := 0) (off := 0) (vs := [(.bool x_3n.Neg), v_3r]) rfl rfl rfl rfl T24 rfl (Nat.le_of_ble_eq_true rfl) (ones_cons rfl (ones_cons r_3s.one ones_nil)) ?_
          intro w_3u hp hs
          replace hz := hz.trans hs
          replace a_d := a_d.step hs
          replace r_5 := r_5.step hs
          replace r_t := r_t.step hs
          replace r_3s := r_3s.step hs
          replace r_3a := r_3a.step hs
          refine ⟨SK (Stp I_3q w_3u I_3q) [] [], ⟨Stp.refl _ _, kp_nil⟩, fun L x h => ⟨hz.held h.1, h.2⟩, ?_⟩
          have hz := Stp.refl I_3q w_3u
          obtain rfl := Option.some.inj q_16
          have hp := hp.perm [3, 2, 1, 0] (by decide)
          exact ⟨(x_35.Neg, x_35.Mag, x_3n.Neg, x_3n.Mag, g_33, v_39, g_3l, v_3r, I_3q), (.c rfl (.c rfl (.c rfl (.c rfl (.c rfl (.c rfl .n)))))), rfl, hp, r_5, a_d, r_t, r_3a, r_3s⟩
        refine ⟨?_, trivial⟩
        refine ev_alloc hp rfl T24 ?_
        intro g_3v w_3w hp hs
        replace hz := hz.trans hs
        replace a_d := a_d.step hs
        replace r_5 := r_5.step hs
        replace r_t := r_t.step hs
        replace r_13 := r_13.step hs
        replace r_14 := r_14.step hs
        refine ⟨SK (Stp I_10 w_3w I_10) [] [], ⟨Stp.refl _ _, kp_nil⟩, fun L x h => ⟨hz.held h.1, h.2⟩, ?_⟩
        have hz := Stp.refl I_10 w_3w
        refine ⟨?_, trivial⟩
        obtain ⟨x_3x, q_3y, q_16⟩ := bind_some q_16
        refine ev_call rfl rfl C80 (((integer_made_ok n) _ _  (!(x_0.Neg == x_3.Neg)) x_w v_11 r_13 hp.imm _ q_3y).mono ?_)
        rintro _ w_3z ⟨I_40, v_41, hv, hq, r_42⟩
        replace hv := hv.symm
        subst hv
        have hs := hq.st
        have hp := hp.join0 hq
        replace hz := hz.trans hs
        replace a_d := a_d.step hs
        replace r_5 := r_5.step hs
        replace r_t := r_t.step hs
        replace r_14 := r_14.step hs
        refine ⟨SK (Stp I_40 w_3z I_40) [] [], ⟨Stp.refl _ _, kp_nil⟩, fun L x h => ⟨hz.held h.1, h.2⟩, ?_⟩
        have hz := Stp.refl I_40 w_3z
        refine ⟨?_, trivial⟩
        obtain ⟨x_43, q_44, q_16⟩ := bind_some q_16
        refine ev_call rfl rfl C80 (((integer_made_ok n) _ _  x_0.Neg x_x v_12 r_14 hp.imm _ q_44).mono ?_)
        rintro _ w_45 ⟨I_46, v_47, hv, hq, r_48⟩
        replace hv := hv.symm
        subst hv
        have hs := hq.st
        have hp := hp.join0 hq
        replace hz := hz.trans hs
        replace a_d := a_d.step hs
        replace r_5 := r_5.step hs
        replace r_t := r_t.step hs
        replace r_42 := r_42.step hs
        refine ⟨SK (Stp I_46 w_45 I_46) [] [], ⟨Stp.refl _ _, kp_nil⟩, fun L x h => ⟨hz.held h.1, h.2⟩, ?_⟩
        have hz := Stp.refl I_46 w_45
        refine ⟨?_, trivial⟩
        refine ev_storeA hp (i := 1) (off := 0) (vs := [(.bool x_3x.Neg), v_41]) rfl rfl rfl rfl T24 rfl (Nat.le_of_ble_eq_true rfl) (ones_cons rfl (ones_cons r_42.one ones_nil)) ?_
        intro w_49 hp hs
        replace hz := hz.trans hs
        replace a_d := a_d.step hs
        replace r_5 := r_5.step hs
        replace r_t := r_t.step hs
        replace r_48 := r_48.step hs
        replace r_42 := r_42.step hs
        refine ⟨SK (Stp I_46 w_49 I_46) [] [], ⟨Stp.refl _ _, kp_nil⟩, fun L x h => ⟨hz.held h.1, h.2⟩, ?_⟩
        have hz := Stp.refl I_46 w_49
        refine ⟨?_, trivial⟩
        refine ev_storeA hp (i := 0) (off := 0) (vs := [(.bool x_43.Neg), v_47]) rfl rfl rfl rfl T24 rfl (Nat.le_of_ble_eq_true rfl) (ones_cons rfl (ones_cons r_48.one ones_nil)) ?_
        intro w_4a hp hs
        replace hz := hz.trans hs
        replace a_d := a_d.step hs
        replace r_5 := r_5.step hs
        replace r_t := r_t.step hs
        replace r_48 := r_48.step hs
        replace r_42 := r_42.step hs
        refine ⟨SK (Stp I_46 w_4a I_46) [] [], ⟨Stp.refl _ _, kp_nil⟩, fun L x h => ⟨hz.held h.1, h.2⟩, ?_⟩
        have hz := Stp.refl I_46 w_4a
        obtain rfl := Option.some.inj q_16
        have hp := hp.perm [3, 2, 1, 0] (by decide)
        exact ⟨(x_3x.Neg, x_3x.Mag, x_43.Neg, x_43.Mag, g_33, v_41, g_3v, v_47, I_46), (.c rfl (.c rfl (.c rfl (.c rfl (.c rfl (.c rfl .n)))))), rfl, hp, r_5, a_d, r_t, r_42, r_48⟩
      refine ⟨?_, trivial⟩
      refine ev_alloc hp rfl T24 ?_
      intro g_4b w_4c hp hs
      replace hz := hz.trans hs
      replace a_d := a_d.step hs
      replace r_5 := r_5.step hs
      replace r_t := r_t.step hs
      replace r_13 := r_13.step hs
      replace r_14 := r_14.step hs
      refine ⟨SK (Stp I_10 w_4c I_10) [] [], ⟨Stp.refl _ _, kp_nil⟩, fun L x h => ⟨hz.held h.1, h.2⟩, ?_⟩
      have hz := Stp.refl I_10 w_4c
      refine ⟨?_, ?_⟩
      ·
        obtain ⟨x_4d, q_4e, q_16⟩ := bind_some q_16
        refine ev_call rfl rfl C80 (((integer_made_ok n) _ _  (!(x_0.Neg == x_3.Neg)) x_w v_11 r_13 hp.imm _ q_4e).mono ?_)
        rintro _ w_4f ⟨I_4g, v_4h, hv, hq, r_4i⟩
        replace hv := hv.symm
        subst hv
        have hs := hq.st
        have hp := hp.join0 hq
        replace hz := hz.trans hs
        replace a_d := a_d.step hs
        replace r_5 := r_5.step hs
        replace r_t := r_t.step hs
        replace r_14 := r_14.step hs
        refine ⟨SK (Stp I_4g w_4f I_4g) [] [], ⟨Stp.refl _ _, kp_nil⟩, fun L x h => ⟨hz.held h.1, h.2⟩, ?_⟩
        have hz := Stp.refl I_4g w_4f
        refine ⟨?_, ?_⟩
        ·
          obtain ⟨x_4j, q_4k, q_16⟩ := bind_some q_16
          refine ev_call rfl rfl C80 (((integer_made_ok n) _ _  x_0.Neg x_x v_12 r_14 hp.imm _ q_4k).mono ?_)
          rintro _ w_4l ⟨I_4m, v_4n, hv, hq, r_4o⟩
          replace hv := hv.symm
          subst hv
          have hs := hq.st
          have hp := hp.join0 hq
          replace hz := hz.trans hs
          replace a_d := a_d.step hs
          replace r_5 := r_5.step hs
          replace r_t := r_t.step hs
          replace r_4i := r_4i.step hs
          refine ⟨SK (Stp I_4m w_4l I_4m) [] [], ⟨Stp.refl _ _, kp_nil⟩, fun L x h => ⟨hz.held h.1, h.2⟩, ?_⟩
          have hz := Stp.refl I_4m w_4l
          refine ⟨?_, trivial⟩
          refine ev_alloc hp rfl T24 ?_
          intro g_4p w_4q hp hs
          replace hz := hz.trans hs
          replace a_d := a_d.step hs
          replace r_5 := r_5.step hs
          replace r_t := r_t.step hs
          replace r_4i := r_4i.step hs
          replace r_4o := r_4o.step hs
          refine ⟨SK (Stp I_4m w_4q I_4m) [] [], ⟨Stp.refl _ _, kp_nil⟩, fun L x h => ⟨hz.held h.1, h.2⟩, ?_⟩
          have hz := Stp.refl I_4m w_4q
          refine ⟨?_, trivial⟩
          refine ev_storeA hp (i := 0) (off := 0) (vs := [(.bool x_4d.Neg), v_4h]) rfl rfl rfl rfl T24 rfl (Nat.le_of_ble_eq_true rfl) (ones_cons rfl (ones_cons r_4i.one ones_nil)) ?_
          intro w_4r hp hs
          replace hz := hz.trans hs
          replace a_d := a_d.step hs
          replace r_5 := r_5.step hs
          replace r_t := r_t.step hs
          replace r_4o := r_4o.step hs
          replace r_4i := r_4i.step hs
          refine ⟨SK (Stp I_4m w_4r I_4m) [] [], ⟨Stp.refl _ _, kp_nil⟩, fun L x h => ⟨hz.held h.1, h.2⟩, ?_⟩
          have hz := Stp.refl I_4m w_4r
          refine ⟨?_, trivial⟩
          refine ev_storeA hp (i := 1) (off := 0) (vs := [(.bool x_4j.Neg), v_4n]) rfl rfl rfl rfl T24 rfl (Nat.le_of_ble_eq_true rfl) (ones_cons rfl (ones_cons r_4o.one ones_nil)) ?_
          intro w_4s hp hs
          replace hz := hz.trans hs
          replace a_d := a_d.step hs
          replace r_5 := r_5.step hs
          replace r_t := r_t.step hs
          replace r_4i := r_4i.step hs
          replace r_4o := r_4o.step hs
          refine ⟨SK (Stp I_4m w_4s I_4m) [] [], ⟨Stp.refl _ _, kp_nil⟩, fun L x h => ⟨hz.held h.1, h.2⟩, ?_⟩
          have hz := Stp.refl I_4m w_4s
          obtain rfl := Option.some.inj q_16
          have hp := hp.perm [3, 2, 0, 1] (by decide)
          exact ⟨(x_4d.Neg, x_4d.Mag, x_4j.Neg, x_4j.Mag, g_4p, v_4h, g_4b, v_4n, I_4m), (.c rfl (.c rfl (.c rfl (.c rfl (.c rfl (.c rfl .n)))))), rfl, hp, r_5, a_d, r_t, r_4i, r_4o⟩
        refine ⟨?_, trivial⟩
        refine ev_alloc hp rfl T24 ?_
        intro g_4t w_4u hp hs
        replace hz := hz.trans hs
        replace a_d := a_d.step hs
        replace r_5 := r_5.step hs
        replace r_t := r_t.step hs
        replace r_14 := r_14.step hs
        replace r_4i := r_4i.step hs
        refine ⟨SK (Stp I_4g w_4u I_4g) [] [], ⟨Stp.refl _ _, kp_nil⟩, fun L x h => ⟨hz.held h.1, h.2⟩, ?_⟩
        have hz := Stp.refl I_4g w_4u
        refine ⟨?_, trivial⟩
        obtain ⟨x_4v, q_4w, q_16⟩ := bind_some q_16
        refine ev_call rfl rfl C80 (((integer_made_ok n) _ _  x_0.Neg x_x v_12 r_14 hp.imm _ q_4w).mono ?_)
        rintro _ w_4x ⟨I_4y, v_4z, hv, hq, r_50⟩
        replace hv := hv.symm
        subst hv
        have hs := hq.st
        have hp := hp.join0 hq
        replace hz := hz.trans hs
        replace a_d := a_d.step hs
        replace r_5 := r_5.step hs
        replace r_t := r_t.step hs
        replace r_4i := r_4i.step hs
        refine ⟨SK (Stp I_4y w_4x I_4y) [] [], ⟨Stp.refl _ _, kp_nil⟩, fun L x h => ⟨hz.held h.1, h.2⟩, ?_⟩
        have hz := Stp.refl I_4y w_4x
        refine ⟨?_, trivial⟩
        refine ev_storeA hp (i := 0) (off := 0) (vs := [(.bool x_4d.Neg), v_4h]) rfl rfl rfl rfl T24 rfl (Nat.le_of_ble_eq_true rfl) (ones_cons rfl (ones_cons r_4i.one ones_nil)) ?_
        intro w_51 hp hs
        replace hz := hz.trans hs
        replace a_d := a_d.step hs
        replace r_5 := r_5.step hs
        replace r_t := r_t.step hs
        replace r_50 := r_50.step hs
        replace r_4i := r_4i.step hs
        refine ⟨SK (Stp I_4y w_51 I_4y) [] [], ⟨Stp.refl _ _, kp_nil⟩, fun L x h => ⟨hz.held h.1, h.2⟩, ?_⟩
        have hz := Stp.refl I_4y w_51
        refine ⟨?_, trivial⟩
        refine ev_storeA hp (i := 1) (off := 0) (vs := [(.bool x_4v.Neg), v_4z]) rfl rfl rfl rfl T24 rfl (Nat.le_of_ble_eq_true rfl) (ones_cons rfl (ones_cons r_50.one ones_nil)) ?_
        intro w_52 hp hs
        replace hz := hz.trans hs
        replace a_d := a_d.step hs
        replace r_5 := r_5.step hs
        replace r_t := r_t.step hs
        replace r_4i := r_4i.step hs
        replace r_50 := r_50.step hs
        refine ⟨SK (Stp I_4y w_52 I_4y) [] [], ⟨Stp.refl _ _, kp_nil⟩, fun L x h => ⟨hz.held h.1, h.2⟩, ?_⟩
        have hz := Stp.refl I_4y w_52
        obtain rfl := Option.some.inj q_16
        have hp := hp.perm [3, 2, 0, 1] (by decide)
        exact ⟨(x_4d.Neg, x_4d.Mag, x_4v.Neg, x_4v.Mag, g_4t, v_4h, g_4b, v_4z, I_4y), (.c rfl (.c rfl (.c rfl (.c rfl (.c rfl (.c rfl .n)))))), rfl, hp, r_5, a_d, r_t, r_4i, r_50⟩
      refine ⟨?_, trivial⟩
      refine ev_alloc hp rfl T24 ?_
      intro g_53 w_54 hp hs
      replace hz := hz.trans hs
      replace a_d := a_d.step hs
      replace r_5 := r_5.step hs
      replace r_t := r_t.step hs
      replace r_13 := r_13.step hs
      replace r_14 := r_14.step hs
      refine ⟨SK (Stp I_10 w_54 I_10) [] [], ⟨Stp.refl _ _, kp_nil⟩, fun L x h => ⟨hz.held h.1, h.2⟩, ?_⟩
      have hz := Stp.refl I_10 w_54
      refine ⟨?_, trivial⟩
      obtain ⟨x_55, q_56, q_16⟩ := bind_some q_16
      refine ev_call rfl rfl C80 (((integer_made_ok n) _ _  (!(x_0.Neg == x_3.Neg)) x_w v_11 r_13 hp.imm _ q_56).mono ?_)
      rintro _ w_57 ⟨I_58, v_59, hv, hq, r_5a⟩
      replace hv := hv.symm
      subst hv
      have hs := hq.st
      have hp := hp.join0 hq
      replace hz := hz.trans hs
      replace a_d := a_d.step hs
      replace r_5 := r_5.step hs
      replace r_t := r_t.step hs
      replace r_14 := r_14.step hs
      refine ⟨SK (Stp I_58 w_57 I_58) [] [], ⟨Stp.refl _ _, kp_nil⟩, fun L x h => ⟨hz.held h.1, h.2⟩, ?_⟩
      have hz := Stp.refl I_58 w_57
      refine ⟨?_, trivial⟩
      obtain ⟨x_5b, q_5c, q_16⟩ := bind_some q_16
      refine ev_call rfl rfl C80 (((integer_made_ok n) _ _  x_0.Neg x_x v_12 r_14 hp.imm _ q_5c).mono ?_)
      rintro _ w_5d ⟨I_5e, v_5f, hv, hq, r_5g⟩
      replace hv := hv.symm
      subst hv
      have hs := hq.st
      have hp := hp.join0 hq
      replace hz := hz.trans hs
      replace a_d := a_d.step hs
      replace r_5 := r_5.step hs
      replace r_t := r_t.step hs
      replace r_5a := r_5a.step hs
      refine ⟨SK (Stp I_5e w_5d I_5e) [] [], ⟨Stp.refl _ _, kp_nil⟩, fun L x h => ⟨hz.held h.1, h.2⟩, ?_⟩
      have hz := Stp.refl I_5e w_5d
      refine ⟨?_, trivial⟩
      refine ev_storeA hp (i := 0) (off := 0) (vs := [(.bool x_55.Neg), v_59]) rfl rfl rfl rfl T24 rfl (Nat.le_of_ble_eq_true rfl) (ones_cons rfl (ones_cons r_5a.one ones_nil)) ?_
      intro w_5h hp hs
      replace hz := hz.trans hs
      replace a_d := a_d.step hs
      replace r_5 := r_5.step hs
      replace r_t := r_t.step hs
      replace r_5g := r_5g.step hs
      replace r_5a := r_5a.step hs
      refine ⟨SK (Stp I_5e w_5h I_5e) [] [], ⟨Stp.refl _ _, kp_nil⟩, fun L x h => ⟨hz.held h.1, h.2⟩, ?_⟩
      have hz := Stp.refl I_5e w_5h
      refine ⟨?_, trivial⟩
      refine ev_storeA hp (i := 1) (off := 0) (vs := [(.bool x_5b.Neg), v_5f]) rfl rfl rfl rfl T24 rfl (Nat.le_of_ble_eq_true rfl) (ones_cons rfl (ones_cons r_5g.one ones_nil)) ?_
      intro w_5i hp hs
      replace hz := hz.trans hs
      replace a_d := a_d.step hs
      replace r_5 := r_5.step hs
      replace r_t := r_t.step hs
      replace r_5a := r_5a.step hs
      replace r_5g := r_5g.step hs
      refine ⟨SK (Stp I_5e w_5i I_5e) [] [], ⟨Stp.refl _ _, kp_nil⟩, fun L x h => ⟨hz.held h.1, h.2⟩, ?_⟩
      have hz := Stp.refl I_5e w_5i
      obtain rfl := Option.some.inj q_16
      have hp := hp.perm [3, 2, 0, 1] (by decide)
      exact ⟨(x_55.Neg, x_55.Mag, x_5b.Neg, x_5b.Mag, g_53, v_59, g_4b, v_5f, I_5e), (.c rfl (.c rfl (.c rfl (.c rfl (.c rfl (.c rfl .n)))))), rfl, hp, r_5, a_d, r_t, r_5a, r_5g⟩
    ·
      rintro ⟨x_5j, x_5k, x_5l, x_5m, g_5n, v_5o, g_5p, v_5q, I_5r⟩ w_5s ⟨hy, hp, r_5, a_d, r_t, r_5t, r_5u⟩
      replace hy := hy.symm
      subst hy
      obtain ⟨y_5v, q_5w, h⟩ := bind_some h
      refine W.cut (γ := (Bool × (List Int) × Bool × (List Int) × Value × Value × (Nat → Prop))) (fun g => [(4, (.pointer (some ⟨g_e, 0, none⟩))), (5, (.pointer (some ⟨g_g, 0, none⟩))), (11, (.pointer (some ⟨g_5n, 0, none⟩))), (12, (.pointer (some ⟨g_5p, 0, none⟩)))]) (fun g w' => y_5v = ((g.1), (g.2.1), (g.2.2.1), (g.2.2.2.1)) ∧ Hp ⟨w0, I0, []⟩ (g.2.2.2.2.2.2) [some (g_e, [(.bool false), (.slice none 0 0)], 24), some (g_g, [(.bool false), (.slice none 0 0)], 24), some (g_5n, [(.bool (g.1)), (g.2.2.2.2.1)], 24), some (g_5p, [(.bool (g.2.2.1)), (g.2.2.2.2.2.1)], 24)] w' ∧ RepS (dI .u32) w' (g.2.2.2.2.2.2) (g.2.2.2.2.1) (g.2.1) ∧ RepS (dI .u32) w' (g.2.2.2.2.2.2) (g.2.2.2.2.2.1) (g.2.2.2.1)) ?_ ?_
      ·
        apply go
        apply go
        refine ev0 (rn_field rfl rfl FO24_0) ?_
        refine ev (rn_load rfl rfl (run_loadVar1 T4 (hp.cell (i := 3) (off := 0) rfl rfl))) ?_
        apply go
        refine sel_of (fun hc => ?_) (fun hc => ?_)
        ·
          have q_5w := cond_t q_5w hc
          apply go
          apply go
          refine ev (rn_load rfl rfl (run_loadVarA T24 rfl (hp.at_ (i := 3) rfl))) ?_
          obtain ⟨A_5x, m_5y, m_5z, rfl⟩ := r_t.isSl
          refine ev0 (fun w => rn_build (cs := [(.bool false), (.slice A_5x m_5y m_5z)]) rfl rfl T24 PL24 rfl) ?_
          obtain ⟨x_60, q_61, q_5w⟩ := bind_some q_5w
          refine ev_call rfl rfl C71 (((integer_Add_ok n) _ _  (Int_2.mk x_5l x_5m) v_5q r_5u (Int_2.mk false x_o) (.slice A_5x m_5y m_5z) r_t hp.imm _ q_61).mono ?_)
          rintro _ w_62 ⟨I_63, v_64, hv, hq, r_65⟩
          replace hv := hv.symm
          subst hv
          have hs := hq.st
          have hp := hp.join0 hq
          replace a_d := a_d.step hs
          replace r_5 := r_5.step hs
          replace r_5t := r_5t.step hs
          replace r_5u := r_5u.step hs
          refine ev_storeA hp (i := 3) (off := 0) (vs := [(.bool x_60.Neg), v_64]) rfl rfl rfl rfl T24 rfl (Nat.le_of_ble_eq_true rfl) (ones_cons rfl (ones_cons r_65.one ones_nil)) ?_
          intro w_66 hp hs
          replace a_d := a_d.step hs
          replace r_5 := r_5.step hs
          replace r_5t := r_5t.step hs
          replace r_65 := r_65.step hs
          apply go
          refine ev (rn_load rfl rfl (run_loadVarA T24 rfl (hp.at_ (i := 2) rfl))) ?_
          refine ev0 (rn_field rfl rfl FO24_0) ?_
          refine ev (rn_load rfl rfl (run_loadVar1 T4 (a_d.2 0 _ rfl))) ?_
          refine ev_litN (d := (dI .u32)) (xs := [1]) (cs := [(.int .u32 1)]) hp rfl rfl Tryz.underlying22 T46 (by decide) rfl rfl (Elems.cons (d := (dI .u32)) (xs := _) rfl (Elems.nil _ _ _ _)) ?_
          intro v_67 I_68 w_69 hp hs r_6a
          replace r_5t := r_5t.step hs
          replace r_65 := r_65.step hs
          obtain ⟨A_6b, m_6c, m_6d, rfl⟩ := r_6a.isSl
          refine ev0 (fun w => rn_build (cs := [(.bool (!x_3.Neg)), (.slice A_6b m_6c m_6d)]) rfl rfl T24 PL24 rfl) ?_
          obtain ⟨x_6e, q_6f, q_5w⟩ := bind_some q_5w
          refine ev_call rfl rfl C71 (((integer_Add_ok n) _ _  (Int_2.mk x_5j x_5k) v_5o r_5t (Int_2.mk (!x_3.Neg) [1]) (.slice A_6b m_6c m_6d) r_6a hp.imm _ q_6f).mono ?_)
          rintro _ w_6g ⟨I_6h, v_6i, hv, hq, r_6j⟩
          replace hv := hv.symm
          subst hv
          have hs := hq.st
          have hp := hp.join0 hq
          replace r_5t := r_5t.step hs
          replace r_65 := r_65.step hs
          refine ev_storeA hp (i := 2) (off := 0) (vs := [(.bool x_6e.Neg), v_6i]) rfl rfl rfl rfl T24 rfl (Nat.le_of_ble_eq_true rfl) (ones_cons rfl (ones_cons r_6j.one ones_nil)) ?_
          intro w_6k hp hs
          replace r_6j := r_6j.step hs
          replace r_65 := r_65.step hs
          obtain rfl := Option.some.inj q_5w
          exact ⟨(x_6e.Neg, x_6e.Mag, x_60.Neg, x_60.Mag, v_6i, v_64, I_6h), (.c rfl (.c rfl (.c rfl (.c rfl .n)))), rfl, hp, r_6j, r_65⟩
        ·
          have q_5w := cond_f q_5w hc
          apply go
          obtain rfl := Option.some.inj q_5w
          exact ⟨(x_5j, x_5k, x_5l, x_5m, v_5o, v_5q, I_5r), (.c rfl (.c rfl (.c rfl (.c rfl .n)))), rfl, hp, r_5t, r_5u⟩
      ·
        rintro ⟨x_6l, x_6m, x_6n, x_6o, v_6p, v_6q, I_6r⟩ w_6s ⟨hy, hp, r_6t, r_6u⟩
        replace hy := hy.symm
        subst hy
        apply go
        have hs := hp.stp (Ch.drew [] w_6s)
        have hp := hp.drew
        replace r_6t := r_6t.step hs
        replace r_6u := r_6u.step hs
        refine W.held [(0, true), (1, true), (2, false), (3, false), (4, true)] (fun x => Stp I_6r w_6s.drew I_6r x ∧ OwnK [(g_5n, [(.bool x_6l), v_6p], 24), (g_5p, [(.bool x_6n), v_6q], 24)] x) MX (by kernel_rfl) ⟨Stp.refl _ _, (OwnK.cons (hp.own 2 _ _ _ rfl).1 (OwnK.cons (hp.own 3 _ _ _ rfl).1 OwnK.nil))⟩ ?_
        have hz := Stp.refl I_6r w_6s.drew
        refine evh (fun w' hw => rn_load rfl rfl (run_loadVarA T24 rfl (hw.2.at_ (i := 0) rfl))) ?_
        refine evh (fun w' hw => rn_load rfl rfl (run_loadVarA T24 rfl (hw.2.at_ (i := 1) rfl))) ?_
        refine ev_storeA hp (i := 0) (off := 0) (vs := [(.bool x_6l), v_6p]) rfl rfl rfl rfl T24 rfl (Nat.le_of_ble_eq_true rfl) (ones_cons rfl (ones_cons r_6t.one ones_nil)) ?_
        intro w_6v hp hs
        replace hz := hz.trans hs
        replace r_6u := r_6u.step hs
        replace r_6t := r_6t.step hs
        refine ⟨fun x => Stp I_6r w_6v I_6r x ∧ OwnK [(g_5n, [(.bool x_6l), v_6p], 24), (g_5p, [(.bool x_6n), v_6q], 24)] x, ⟨Stp.refl _ _, (OwnK.cons (hp.own 2 _ _ _ rfl).1 (OwnK.cons (hp.own 3 _ _ _ rfl).1 OwnK.nil))⟩, fun x hx => ⟨hz.held hx.1, hx.2⟩, ?_⟩
        have hz := Stp.refl I_6r w_6v
        refine ev_storeA hp (i := 1) (off := 0) (vs := [(.bool x_6n), v_6q]) rfl rfl rfl rfl T24 rfl (Nat.le_of_ble_eq_true rfl) (ones_cons rfl (ones_cons r_6u.one ones_nil)) ?_
        intro w_6w hp hs
        replace hz := hz.trans hs
        replace r_6t := r_6t.step hs
        replace r_6u := r_6u.step hs
        refine ⟨fun x => Stp I_6r w_6w I_6r x ∧ OwnK [(g_5n, [(.bool x_6l), v_6p], 24), (g_5p, [(.bool x_6n), v_6q], 24)] x, ⟨Stp.refl _ _, (OwnK.cons (hp.own 2 _ _ _ rfl).1 (OwnK.cons (hp.own 3 _ _ _ rfl).1 OwnK.nil))⟩, fun x hx => ⟨hz.held hx.1, hx.2⟩, ?_⟩
        have hz := Stp.refl I_6r w_6w
        apply go
        obtain rfl := Option.some.inj h
        refine ⟨_, run_loadVarA T24 rfl (hp.at_ (i := 0) rfl), ?_⟩
        refine ⟨_, run_loadVarA T24 rfl (hp.at_ (i := 1) rfl), ?_⟩
        have hp := hp.sel [] (by decide)
        exact ⟨I_6r, v_6p, v_6q, rfl, hp, r_6t, r_6u⟩

end Go.Proofs.YtepadjfmcbjkmaaGreatDoor

namespace Go.Proofs.YtepadjfmcbjkmaaGreatDoor
open Go Go.Proofs.YtepadjfmcbjkmaaGreatDoor.Gw Go.RowKit
set_option linter.unusedVariables false
attribute [local irreducible] Ev EvQ EvS EvH
def integer_Of_S (f : Int → Option Int_2) : Prop := ∀ (w0 : World) (I0 : Nat → Prop) (x163 : Int) (hI : ∀ g, I0 g → g < w0.heap.size) (r : Int_2), f x163 = some r →
    Ret Tryz.prog 63 #[(.int .i64 x163)] w0 fun v w1 => ∃ (I1 : Nat → Prop) (u164 : Value), v = (.agg #[(.bool r.Neg), u164]) ∧ Hp ⟨w0, I0, []⟩ I1 [] w1 ∧ RepS (dI .u32) w1 I1 u164 r.Mag
theorem integer_Of_ok (n : Nat) : integer_Of_S (integer_Of n) := by
  intro w0 I0 x163 hI r h
  unfold integer_Of at h
  refine enter Tryz.func63 rfl (Nat.le_of_ble_eq_true rfl) ?_
  have hp : Hp ⟨w0, I0, []⟩ I0 [] w0 := Hp.start hI
  apply go
  apply go
  refine ev_alloc hp rfl T24 ?_
  intro g165 w166 hp hs
  apply go
  apply go
  refine ev0 (rn_conv rfl rfl U3 Tryz.underlying75) ?_
  obtain ⟨y168, q169, h⟩ := bind_some h
  refine W.cut (γ := Int) (fun g => [(0, (.int .i64 x163)), (2, (.pointer (some ⟨g165, 0, none⟩))), (3, (.int .u64 (g)))]) (fun g w' => y168 = (g) ∧ w166 = w') ?_ ?_
  ·
    apply go
    apply go
    apply go
    refine sel_of (fun hc => ?_) (fun hc => ?_)
    ·
      have q169 := cond_t q169 hc
      apply go
      obtain rfl := Option.some.inj q169
      exact ⟨(IntKind.u64.wrap (0 - (IntKind.u64.wrap x163))), (.c rfl (.c rfl (.c rfl .n))), rfl, rfl⟩
    ·
      have q169 := cond_f q169 hc
      apply go
      obtain rfl := Option.some.inj q169
      exact ⟨(IntKind.u64.wrap x163), (.c rfl (.c rfl (.c rfl .n))), rfl, rfl⟩
  ·
    rintro x167 _ ⟨hy, rfl⟩
    replace hy := hy.symm
    subst hy
    apply go
    apply go
    refine ev0 (rn_conv rfl rfl U75 Tryz.underlying46) ?_
    refine ⟨by decide, ?_⟩
    refine ev0 (rn_conv rfl rfl U75 Tryz.underlying46) ?_
    refine ev_litN (d := (dI .u32)) (xs := [(IntKind.u32.wrap x167), (IntKind.u32.wrap (x167.fdiv (2 ^ min (32 : Int).toNat (IntKind.u64).bits)))]) (cs := [(.int .u32 (IntKind.u32.wrap x167)), (.int .u32 (IntKind.u32.wrap (x167.fdiv (2 ^ min (32 : Int).toNat (IntKind.u64).bits))))]) hp rfl rfl Tryz.underlying22 T46 (by decide) rfl rfl (Elems.cons (d := (dI .u32)) (xs := _) rfl (Elems.cons (d := (dI .u32)) (xs := _) rfl (Elems.nil _ _ _ _))) ?_
    intro v170 I172 w171 hp hs r173
    obtain ⟨x174, q175, h⟩ := bind_some h
    refine ev_call rfl rfl C80 (((integer_made_ok n) _ _  (decide (x163 < 0)) [(IntKind.u32.wrap x167), (IntKind.u32.wrap (x167.fdiv (2 ^ min (32 : Int).toNat (IntKind.u64).bits)))] v170 r173 hp.imm _ q175).mono ?_)
    rintro _ w176 ⟨I177, v178, hv, hq, r179⟩
    replace hv := hv.symm
    subst hv
    have hs := hq.st
    have hp := hp.join0 hq
    refine ev_storeA hp (i := 0) (off := 0) (vs := [(.bool x174.Neg), v178]) rfl rfl rfl rfl T24 rfl (Nat.le_of_ble_eq_true rfl) (ones_cons rfl (ones_cons r179.one ones_nil)) ?_
    intro w180 hp hs
    replace r179 := r179.step hs
    apply go
    obtain rfl := Option.some.inj h
    refine ⟨_, run_loadVarA T24 rfl (hp.at_ (i := 0) rfl), ?_⟩
    have hp := hp.sel [] (by decide)
    exact ⟨I177, v178, rfl, hp, r179⟩

end Go.Proofs.YtepadjfmcbjkmaaGreatDoor

namespace Go.Proofs.YtepadjfmcbjkmaaGreatDoor
open Go Go.Proofs.YtepadjfmcbjkmaaGreatDoor.Gw Go.RowKit
set_option linter.unusedVariables false
attribute [local irreducible] Ev EvQ EvS EvH
def integer_Neg_S (f : Int_2 → Option Int_2) : Prop := ∀ (w0 : World) (I0 : Nat → Prop) (x212 : Int_2) (v213 : Value) (r214 : RepS (dI .u32) w0 I0 v213 x212.Mag) (hI : ∀ g, I0 g → g < w0.heap.size) (r : Int_2), f x212 = some r →
    Ret Tryz.prog 64 #[(.agg #[(.bool x212.Neg), v213])] w0 fun v w1 => ∃ (I1 : Nat → Prop) (u215 : Value), v = (.agg #[(.bool r.Neg), u215]) ∧ Hp ⟨w0, I0, []⟩ I1 [] w1 ∧ RepS (dI .u32) w1 I1 u215 r.Mag
theorem integer_Neg_ok (n : Nat) : integer_Neg_S (integer_Neg n) := by
  intro w0 I0 x212 v213 r214 hI r h
  unfold integer_Neg at h
  refine enter Tryz.func64 rfl (Nat.le_of_ble_eq_true rfl) ?_
  have hp : Hp ⟨w0, I0, []⟩ I0 [] w0 := Hp.start hI
  apply go
  apply go
  refine ev_boxI hp rfl rfl ?_
  intro p218 I219 w217 hp hs a220
  replace r214 := r214.step hs
  refine ev_alloc hp rfl T24 ?_
  intro g221 w222 hp hs
  replace a220 := a220.step hs
  replace r214 := r214.step hs
  apply go
  have hs := hp.stp (Ch.drew [] w222)
  have hp := hp.drew
  replace a220 := a220.step hs
  replace r214 := r214.step hs
  refine W.held [(0, true), (1, true), (2, true), (3, true), (4, true), (5, false), (6, false), (7, false), (8, false)] (Stp I219 w222.drew I219) MX (by kernel_rfl) (Stp.refl _ _) ?_
  have hz := Stp.refl I219 w222.drew
  refine evh0 (rn_field rfl rfl FO24_0) ?_
  refine evh (fun w' hw => rn_load rfl rfl (run_loadVar1 T4 ((a220.step hw).2 0 _ rfl))) ?_
  refine evh0 (rn_field rfl rfl FO24_1) ?_
  refine evh (fun w' hw => rn_load rfl rfl (run_loadVar1 T22 ((a220.step hw).2 1 _ rfl))) ?_
  obtain ⟨x242, q243, h⟩ := bind_some h
  refine ev_call rfl rfl C72 (((integer_trim_ok n) _ _  x212.Mag v213 r214 hp.imm _ q243).mono ?_)
  rintro _ w244 ⟨I245, v246, hv, hq, r247⟩
  replace hv := hv.symm
  subst hv
  have hs := hq.st
  have hp := hp.join0 hq
  replace hz := hz.trans hs
  refine ⟨Stp I245 w244 I245, Stp.refl _ _, fun x hx => hz.held hx, ?_⟩
  have hz := Stp.refl I245 w244
  obtain ⟨x248, q249, h⟩ := bind_some h
  refine ev_call rfl rfl C88 (((slices_Cloneuint32_uint32__ok n) _ _  x242 v246 r247 hp.imm _ q249).mono ?_)
  rintro _ w250 ⟨I251, v252, hv, hq, r253⟩
  replace hv := hv.symm
  subst hv
  have hs := hq.st
  have hp := hp.join0 hq
  replace hz := hz.trans hs
  refine ⟨Stp I251 w250 I251, Stp.refl _ _, fun x hx => hz.held hx, ?_⟩
  have hz := Stp.refl I251 w250
  obtain ⟨x254, q255, h⟩ := bind_some h
  refine ev_call rfl rfl C80 (((integer_made_ok n) _ _  (!x212.Neg) x248 v252 r253 hp.imm _ q255).mono ?_)
  rintro _ w256 ⟨I257, v258, hv, hq, r259⟩
  replace hv := hv.symm
  subst hv
  have hs := hq.st
  have hp := hp.join0 hq
  replace hz := hz.trans hs
  refine ⟨Stp I257 w256 I257, Stp.refl _ _, fun x hx => hz.held hx, ?_⟩
  have hz := Stp.refl I257 w256
  refine ev_storeA hp (i := 0) (off := 0) (vs := [(.bool x254.Neg), v258]) rfl rfl rfl rfl T24 rfl (Nat.le_of_ble_eq_true rfl) (ones_cons rfl (ones_cons r259.one ones_nil)) ?_
  intro w260 hp hs
  replace hz := hz.trans hs
  replace r259 := r259.step hs
  refine ⟨Stp I257 w260 I257, Stp.refl _ _, fun x hx => hz.held hx, ?_⟩
  have hz := Stp.refl I257 w260
  apply go
  obtain rfl := Option.some.inj h
  refine ⟨_, run_loadVarA T24 rfl (hp.at_ (i := 0) rfl), ?_⟩
  have hp := hp.sel [] (by decide)
  exact ⟨I257, v258, rfl, hp, r259⟩

end Go.Proofs.YtepadjfmcbjkmaaGreatDoor

namespace Go.Proofs.YtepadjfmcbjkmaaGreatDoor
open Go Go.Proofs.YtepadjfmcbjkmaaGreatDoor.Gw Go.RowKit
set_option linter.unusedVariables false
attribute [local irreducible] Ev EvQ EvS EvH
def integer_Abs_S (f : Int_2 → Option Int_2) : Prop := ∀ (w0 : World) (I0 : Nat → Prop) (x261 : Int_2) (v262 : Value) (r263 : RepS (dI .u32) w0 I0 v262 x261.Mag) (hI : ∀ g, I0 g → g < w0.heap.size) (r : Int_2), f x261 = some r →
    Ret Tryz.prog 89 #[(.agg #[(.bool x261.Neg), v262])] w0 fun v w1 => ∃ (I1 : Nat → Prop) (u264 : Value), v = (.agg #[(.bool r.Neg), u264]) ∧ Hp ⟨w0, I0, []⟩ I1 [] w1 ∧ RepS (dI .u32) w1 I1 u264 r.Mag
theorem integer_Abs_ok (n : Nat) : integer_Abs_S (integer_Abs n) := by
  intro w0 I0 x261 v262 r263 hI r h
  unfold integer_Abs at h
  refine enter Tryz.func89 rfl (Nat.le_of_ble_eq_true rfl) ?_
  have hp : Hp ⟨w0, I0, []⟩ I0 [] w0 := Hp.start hI
  apply go
  apply go
  refine ev_boxI hp rfl rfl ?_
  intro p267 I268 w266 hp hs a269
  replace r263 := r263.step hs
  refine ev_alloc hp rfl T24 ?_
  intro g270 w271 hp hs
  replace a269 := a269.step hs
  replace r263 := r263.step hs
  apply go
  apply go
  refine ev0 (rn_field rfl rfl FO24_1) ?_
  refine ev (rn_load rfl rfl (run_loadVar1 T22 (a269.2 1 _ rfl))) ?_
  obtain ⟨x272, q273, h⟩ := bind_some h
  refine ev_call rfl rfl C72 (((integer_trim_ok n) _ _  x261.Mag v262 r263 hp.imm _ q273).mono ?_)
  rintro _ w274 ⟨I275, v276, hv, hq, r277⟩
  replace hv := hv.symm
  subst hv
  have hs := hq.st
  have hp := hp.join0 hq
  obtain ⟨x278, q279, h⟩ := bind_some h
  refine ev_call rfl rfl C88 (((slices_Cloneuint32_uint32__ok n) _ _  x272 v276 r277 hp.imm _ q279).mono ?_)
  rintro _ w280 ⟨I281, v282, hv, hq, r283⟩
  replace hv := hv.symm
  subst hv
  have hs := hq.st
  have hp := hp.join0 hq
  obtain ⟨x284, q285, h⟩ := bind_some h
  refine ev_call rfl rfl C80 (((integer_made_ok n) _ _  false x278 v282 r283 hp.imm _ q285).mono ?_)
  rintro _ w286 ⟨I287, v288, hv, hq, r289⟩
  replace hv := hv.symm
  subst hv
  have hs := hq.st
  have hp := hp.join0 hq
  refine ev_storeA hp (i := 0) (off := 0) (vs := [(.bool x284.Neg), v288]) rfl rfl rfl rfl T24 rfl (Nat.le_of_ble_eq_true rfl) (ones_cons rfl (ones_cons r289.one ones_nil)) ?_
  intro w290 hp hs
  replace r289 := r289.step hs
  apply go
  obtain rfl := Option.some.inj h
  refine ⟨_, run_loadVarA T24 rfl (hp.at_ (i := 0) rfl), ?_⟩
  have hp := hp.sel [] (by decide)
  exact ⟨I287, v288, rfl, hp, r289⟩

end Go.Proofs.YtepadjfmcbjkmaaGreatDoor

namespace Go.Proofs.YtepadjfmcbjkmaaGreatDoor
open Go Go.Proofs.YtepadjfmcbjkmaaGreatDoor.Gw Go.RowKit
set_option linter.unusedVariables false
attribute [local irreducible] Ev EvQ EvS EvH
def integer_Gcd_S (f : Int_2 → Int_2 → Option Int_2) : Prop := ∀ (w0 : World) (I0 : Nat → Prop) (x_0 : Int_2) (v_1 : Value) (r_2 : RepS (dI .u32) w0 I0 v_1 x_0.Mag) (x_3 : Int_2) (v_4 : Value) (r_5 : RepS (dI .u32) w0 I0 v_4 x_3.Mag) (hI : ∀ g, I0 g → g < w0.heap.size) (r : Int_2), f x_0 x_3 = some r →
    Ret Tryz.prog 65 #[(.agg #[(.bool x_0.Neg), v_1]), (.agg #[(.bool x_3.Neg), v_4])] w0 fun v w1 => ∃ (I1 : Nat → Prop) (u_6 : Value), v = (.agg #[(.bool r.Neg), u_6]) ∧ Hp ⟨w0, I0, []⟩ I1 [] w1 ∧ RepS (dI .u32) w1 I1 u_6 r.Mag
theorem integer_Gcd_ok (n : Nat) : integer_Gcd_S (integer_Gcd n) := by
  intro w0 I0 x_0 v_1 r_2 x_3 v_4 r_5 hI r h
  unfold integer_Gcd at h
  refine enter Tryz.func65 rfl (Nat.le_of_ble_eq_true rfl) ?_
  have hp : Hp ⟨w0, I0, []⟩ I0 [] w0 := Hp.start hI
  apply go
  apply go
  refine ev_boxI hp rfl rfl ?_
  intro p_6 I_7 w_8 hp hs a_9
  replace r_5 := r_5.step hs
  replace r_2 := r_2.step hs
  refine ev_boxI hp rfl rfl ?_
  intro p_a I_b w_c hp hs a_d
  replace a_9 := a_9.step hs
  replace r_2 := r_2.step hs
  replace r_5 := r_5.step hs
  refine ev_alloc hp rfl T24 ?_
  intro g_e w_f hp hs
  replace a_9 := a_9.step hs
  replace r_2 := r_2.step hs
  replace a_d := a_d.step hs
  replace r_5 := r_5.step hs
  obtain ⟨y_g, q_h, h⟩ := bind_some h
  refine W.cut (γ := (Bool × (List Int) × Bool × (List Int) × Nat × Value × Nat × Value × (Nat → Prop))) (fun g => [(4, (.pointer (some ⟨g_e, 0, none⟩))), (5, (.pointer (some ⟨(g.2.2.2.2.1), 0, none⟩))), (6, (.pointer (some ⟨(g.2.2.2.2.2.2.1), 0, none⟩)))]) (fun g w' => y_g = ((g.1), (g.2.1), (g.2.2.1), (g.2.2.2.1)) ∧ Hp ⟨w0, I0, []⟩ (g.2.2.2.2.2.2.2.2) [some (g_e, [(.bool false), (.slice none 0 0)], 24), some ((g.2.2.2.2.1), [(.bool (g.1)), (g.2.2.2.2.2.1)], 24), some ((g.2.2.2.2.2.2.1), [(.bool (g.2.2.1)), (g.2.2.2.2.2.2.2.1)], 24)] w' ∧ RepS (dI .u32) w' (g.2.2.2.2.2.2.2.2) (g.2.2.2.2.2.1) (g.2.1) ∧ RepS (dI .u32) w' (g.2.2.2.2.2.2.2.2) (g.2.2.2.2.2.2.2.1) (g.2.2.2.1)) ?_ ?_
  ·
    have hs := hp.stp (Ch.drew [] w_f)
    have hp := hp.drew
    replace a_9 := a_9.step hs
    replace r_2 := r_2.step hs
    replace a_d := a_d.step hs
    replace r_5 := r_5.step hs
    refine W.heldG (.q 0 (.q 2 (.l 1 (.l 3 (.l 4 (.l 5 (.l 6 (.l 7 .done .no) .no) .no) (.l 5 (.l 4 (.l 6 (.l 7 .done .no) .no) .no) .no)) (.l 4 (.l 3 (.l 5 (.l 6 (.l 7 .done .no) .no) .no) (.l 5 (.l 3 (.l 6 (.l 7 .done .no) .no) .no) .no)) (.l 5 (.l 3 (.l 4 (.l 6 (.l 7 .done .no) .no) .no) (.l 4 (.l 3 (.l 6 (.l 7 .done .no) .no) .no) .no)) .no))) (.l 4 (.l 1 (.l 3 (.l 5 (.l 6 (.l 7 .done .no) .no) .no) (.l 5 (.l 3 (.l 6 (.l 7 .done .no) .no) .no) .no)) (.l 5 (.l 1 (.l 3 (.l 6 (.l 7 .done .no) .no) .no) .no) .no)) (.l 5 (.l 1 (.l 3 (.l 4 (.l 6 (.l 7 .done .no) .no) .no) (.l 4 (.l 3 (.l 6 (.l 7 .done .no) .no) .no) .no)) (.l 4 (.l 1 (.l 3 (.l 6 (.l 7 .done .no) .no) .no) .no) .no)) .no))))) (SK (Stp I_b w_f.drew I_b) [] []) MX (by kernel_rfl) ⟨Stp.refl _ _, kp_nil⟩ ?_
    have hz := Stp.refl I_b w_f.drew
    refine ⟨SK.same (by kernel_rfl), ?_⟩
    refine evh (fun w' hw => rn_load rfl rfl (run_loadVarA T24 rfl (a_9.step (S0.si hw)))) ?_
    refine ⟨SK.same (by kernel_rfl), ?_⟩
    refine evh (fun w' hw => rn_load rfl rfl (run_loadVarA T24 rfl (a_d.step (S0.si hw)))) ?_
    refine ⟨?_, ?_⟩
    ·
      obtain ⟨x_i, q_j, q_h⟩ := bind_some q_h
      refine ev_call rfl rfl C89 (((integer_Abs_ok n) _ _  (Int_2.mk x_0.Neg x_0.Mag) v_1 r_2 hp.imm _ q_j).mono ?_)
      rintro _ w_k ⟨I_l, v_m, hv, hq, r_n⟩
      replace hv := hv.symm
      subst hv
      have hs := hq.st
      have hp := hp.join0 hq
      replace hz := hz.trans hs
      replace r_5 := r_5.step hs
      refine ⟨SK (Stp I_l w_k I_l) [] [], ⟨Stp.refl _ _, kp_nil⟩, fun L x h => ⟨hz.held h.1, h.2⟩, ?_⟩
      have hz := Stp.refl I_l w_k
      refine ⟨?_, ?_⟩
      ·
        obtain ⟨x_o, q_p, q_h⟩ := bind_some q_h
        refine ev_call rfl rfl C89 (((integer_Abs_ok n) _ _  (Int_2.mk x_3.Neg x_3.Mag) v_4 r_5 hp.imm _ q_p).mono ?_)
        rintro _ w_q ⟨I_r, v_s, hv, hq, r_t⟩
        replace hv := hv.symm
        subst hv
        have hs := hq.st
        have hp := hp.join0 hq
        replace hz := hz.trans hs
        replace r_n := r_n.step hs
        refine ⟨SK (Stp I_r w_q I_r) [] [], ⟨Stp.refl _ _, kp_nil⟩, fun L x h => ⟨hz.held h.1, h.2⟩, ?_⟩
        have hz := Stp.refl I_r w_q
        refine ⟨?_, ?_⟩
        ·
          refine ev_alloc hp rfl T24 ?_
          intro g_u w_v hp hs
          replace hz := hz.trans hs
          replace r_n := r_n.step hs
          replace r_t := r_t.step hs
          refine ⟨SK (Stp I_r w_v I_r) [] [], ⟨Stp.refl _ _, kp_nil⟩, fun L x h => ⟨hz.held h.1, h.2⟩, ?_⟩
          have hz := Stp.refl I_r w_v
          refine ⟨?_, trivial⟩
          refine ev_alloc hp rfl T24 ?_
          intro g_w w_x hp hs
          replace hz := hz.trans hs
          replace r_n := r_n.step hs
          replace r_t := r_t.step hs
          refine ⟨SK (Stp I_r w_x I_r) [] [], ⟨Stp.refl _ _, kp_nil⟩, fun L x h => ⟨hz.held h.1, h.2⟩, ?_⟩
          have hz := Stp.refl I_r w_x
          refine ⟨?_, trivial⟩
          refine ev_storeA hp (i := 1) (off := 0) (vs := [(.bool x_i.Neg), v_m]) rfl rfl rfl rfl T24 rfl (Nat.le_of_ble_eq_true rfl) (ones_cons rfl (ones_cons r_n.one ones_nil)) ?_
          intro w_y hp hs
          replace hz := hz.trans hs
          replace r_t := r_t.step hs
          replace r_n := r_n.step hs
          refine ⟨SK (Stp I_r w_y I_r) [] [], ⟨Stp.refl _ _, kp_nil⟩, fun L x h => ⟨hz.held h.1, h.2⟩, ?_⟩
          have hz := Stp.refl I_r w_y
          refine ⟨?_, trivial⟩
          refine ev_storeA hp (i := 0) (off := 0) (vs := [(.bool x_o.Neg), v_s]) rfl rfl rfl rfl T24 rfl (Nat.le_of_ble_eq_true rfl) (ones_cons rfl (ones_cons r_t.one ones_nil)) ?_
          intro w_z hp hs
          replace hz := hz.trans hs
          replace r_t := r_t.step hs
          replace r_n := r_n.step hs
          refine ⟨SK (Stp I_r w_z I_r) [] [], ⟨Stp.refl _ _, kp_nil⟩, fun L x h => ⟨hz.held h.1, h.2⟩, ?_⟩
          have hz := Stp.refl I_r w_z
          obtain rfl := Option.some.inj q_h
          have hp := hp.perm [2, 1, 0] (by decide)
          exact ⟨(x_i.Neg, x_i.Mag, x_o.Neg, x_o.Mag, g_u, v_m, g_w, v_s, I_r), (.c rfl (.c rfl (.c rfl .n))), rfl, hp, r_n, r_t⟩
        refine ⟨?_, trivial⟩
        refine ev_alloc hp rfl T24 ?_
        intro g_10 w_11 hp hs
        replace hz := hz.trans hs
        replace r_n := r_n.step hs
        replace r_t := r_t.step hs
        refine ⟨SK (Stp I_r w_11 I_r) [] [], ⟨Stp.refl _ _, kp_nil⟩, fun L x h => ⟨hz.held h.1, h.2⟩, ?_⟩
        have hz := Stp.refl I_r w_11
        refine ⟨?_, trivial⟩
        refine ev_alloc hp rfl T24 ?_
        intro g_12 w_13 hp hs
        replace hz := hz.trans hs
        replace r_n := r_n.step hs
        replace r_t := r_t.step hs
        refine ⟨SK (Stp I_r w_13 I_r) [] [], ⟨Stp.refl _ _, kp_nil⟩, fun L x h => ⟨hz.held h.1, h.2⟩, ?_⟩
        have hz := Stp.refl I_r w_13
        refine ⟨?_, trivial⟩
        refine ev_storeA hp (i := 0) (off := 0) (vs := [(.bool x_i.Neg), v_m]) rfl rfl rfl rfl T24 rfl (Nat.le_of_ble_eq_true rfl) (ones_cons rfl (ones_cons r_n.one ones_nil)) ?_
        intro w_14 hp hs
        replace hz := hz.trans hs
        replace r_t := r_t.step hs
        replace r_n := r_n.step hs
        refine ⟨SK (Stp I_r w_14 I_r) [] [], ⟨Stp.refl _ _, kp_nil⟩, fun L x h => ⟨hz.held h.1, h.2⟩, ?_⟩
        have hz := Stp.refl I_r w_14
        refine ⟨?_, trivial⟩
        refine ev_storeA hp (i := 1) (off := 0) (vs := [(.bool x_o.Neg), v_s]) rfl rfl rfl rfl T24 rfl (Nat.le_of_ble_eq_true rfl) (ones_cons rfl (ones_cons r_t.one ones_nil)) ?_
        intro w_15 hp hs
        replace hz := hz.trans hs
        replace r_n := r_n.step hs
        replace r_t := r_t.step hs
        refine ⟨SK (Stp I_r w_15 I_r) [] [], ⟨Stp.refl _ _, kp_nil⟩, fun L x h => ⟨hz.held h.1, h.2⟩, ?_⟩
        have hz := Stp.refl I_r w_15
        obtain rfl := Option.some.inj q_h
        have hp := hp.perm [2, 0, 1] (by decide)
        exact ⟨(x_i.Neg, x_i.Mag, x_o.Neg, x_o.Mag, g_12, v_m, g_10, v_s, I_r), (.c rfl (.c rfl (.c rfl .n))), rfl, hp, r_n, r_t⟩
      refine ⟨?_, ?_⟩
      ·
        refine ev_alloc hp rfl T24 ?_
        intro g_16 w_17 hp hs
        replace hz := hz.trans hs
        replace r_5 := r_5.step hs
        replace r_n := r_n.step hs
        refine ⟨SK (Stp I_l w_17 I_l) [] [], ⟨Stp.refl _ _, kp_nil⟩, fun L x h => ⟨hz.held h.1, h.2⟩, ?_⟩
        have hz := Stp.refl I_l w_17
        refine ⟨?_, ?_⟩
        ·
          obtain ⟨x_18, q_19, q_h⟩ := bind_some q_h
          refine ev_call rfl rfl C89 (((integer_Abs_ok n) _ _  (Int_2.mk x_3.Neg x_3.Mag) v_4 r_5 hp.imm _ q_19).mono ?_)
          rintro _ w_1a ⟨I_1b, v_1c, hv, hq, r_1d⟩
          replace hv := hv.symm
          subst hv
          have hs := hq.st
          have hp := hp.join0 hq
          replace hz := hz.trans hs
          replace r_n := r_n.step hs
          refine ⟨SK (Stp I_1b w_1a I_1b) [] [], ⟨Stp.refl _ _, kp_nil⟩, fun L x h => ⟨hz.held h.1, h.2⟩, ?_⟩
          have hz := Stp.refl I_1b w_1a
          refine ⟨?_, trivial⟩
          refine ev_alloc hp rfl T24 ?_
          intro g_1e w_1f hp hs
          replace hz := hz.trans hs
          replace r_n := r_n.step hs
          replace r_1d := r_1d.step hs
          refine ⟨SK (Stp I_1b w_1f I_1b) [] [], ⟨Stp.refl _ _, kp_nil⟩, fun L x h => ⟨hz.held h.1, h.2⟩, ?_⟩
          have hz := Stp.refl I_1b w_1f
          refine ⟨?_, trivial⟩
          refine ev_storeA hp (i := 1) (off := 0) (vs := [(.bool x_i.Neg), v_m]) rfl rfl rfl rfl T24 rfl (Nat.le_of_ble_eq_true rfl) (ones_cons rfl (ones_cons r_n.one ones_nil)) ?_
          intro w_1g hp hs
          replace hz := hz.trans hs
          replace r_1d := r_1d.step hs
          replace r_n := r_n.step hs
          refine ⟨SK (Stp I_1b w_1g I_1b) [] [], ⟨Stp.refl _ _, kp_nil⟩, fun L x h => ⟨hz.held h.1, h.2⟩, ?_⟩
          have hz := Stp.refl I_1b w_1g
          refine ⟨?_, trivial⟩
          refine ev_storeA hp (i := 0) (off := 0) (vs := [(.bool x_18.Neg), v_1c]) rfl rfl rfl rfl T24 rfl (Nat.le_of_ble_eq_true rfl) (ones_cons rfl (ones_cons r_1d.one ones_nil)) ?_
          intro w_1h hp hs
          replace hz := hz.trans hs
          replace r_1d := r_1d.step hs
          replace r_n := r_n.step hs
          refine ⟨SK (Stp I_1b w_1h I_1b) [] [], ⟨Stp.refl _ _, kp_nil⟩, fun L x h => ⟨hz.held h.1, h.2⟩, ?_⟩
          have hz := Stp.refl I_1b w_1h
          obtain rfl := Option.some.inj q_h
          have hp := hp.perm [2, 1, 0] (by decide)
          exact ⟨(x_i.Neg, x_i.Mag, x_18.Neg, x_18.Mag, g_16, v_m, g_1e, v_1c, I_1b), (.c rfl (.c rfl (.c rfl .n))), rfl, hp, r_n, r_1d⟩
        refine ⟨?_, trivial⟩
        refine ev_alloc hp rfl T24 ?_
        intro g_1i w_1j hp hs
        replace hz := hz.trans hs
        replace r_5 := r_5.step hs
        replace r_n := r_n.step hs
        refine ⟨SK (Stp I_l w_1j I_l) [] [], ⟨Stp.refl _ _, kp_nil⟩, fun L x h => ⟨hz.held h.1, h.2⟩, ?_⟩
        have hz := Stp.refl I_l w_1j
        refine ⟨?_, trivial⟩
        obtain ⟨x_1k, q_1l, q_h⟩ := bind_some q_h
        refine ev_call rfl rfl C89 (((integer_Abs_ok n) _ _  (Int_2.mk x_3.Neg x_3.Mag) v_4 r_5 hp.imm _ q_1l).mono ?_)
        rintro _ w_1m ⟨I_1n, v_1o, hv, hq, r_1p⟩
        replace hv := hv.symm
        subst hv
        have hs := hq.st
        have hp := hp.join0 hq
        replace hz := hz.trans hs
        replace r_n := r_n.step hs
        refine ⟨SK (Stp I_1n w_1m I_1n) [] [], ⟨Stp.refl _ _, kp_nil⟩, fun L x h => ⟨hz.held h.1, h.2⟩, ?_⟩
        have hz := Stp.refl I_1n w_1m
        refine ⟨?_, trivial⟩
        refine ev_storeA hp (i := 1) (off := 0) (vs := [(.bool x_i.Neg), v_m]) rfl rfl rfl rfl T24 rfl (Nat.le_of_ble_eq_true rfl) (ones_cons rfl (ones_cons r_n.one ones_nil)) ?_
        intro w_1q hp hs
        replace hz := hz.trans hs
        replace r_1p := r_1p.step hs
        replace r_n := r_n.step hs
        refine ⟨SK (Stp I_1n w_1q I_1n) [] [], ⟨Stp.refl _ _, kp_nil⟩, fun L x h => ⟨hz.held h.1, h.2⟩, ?_⟩
        have hz := Stp.refl I_1n w_1q
        refine ⟨?_, trivial⟩
        refine ev_storeA hp (i := 0) (off := 0) (vs := [(.bool x_1k.Neg), v_1o]) rfl rfl rfl rfl T24 rfl (Nat.le_of_ble_eq_true rfl) (ones_cons rfl (ones_cons r_1p.one ones_nil)) ?_
        intro w_1r hp hs
        replace hz := hz.trans hs
        replace r_1p := r_1p.step hs
        replace r_n := r_n.step hs
        refine ⟨SK (Stp I_1n w_1r I_1n) [] [], ⟨Stp.refl _ _, kp_nil⟩, fun L x h => ⟨hz.held h.1, h.2⟩, ?_⟩
        have hz := Stp.refl I_1n w_1r
        obtain rfl := Option.some.inj q_h
        have hp := hp.perm [2, 1, 0] (by decide)
        exact ⟨(x_i.Neg, x_i.Mag, x_1k.Neg, x_1k.Mag, g_16, v_m, g_1i, v_1o, I_1n), (.c rfl (.c rfl (.c rfl .n))), rfl, hp, r_n, r_1p⟩
      refine ⟨?_, trivial⟩
      refine ev_alloc hp rfl T24 ?_
      intro g_1s w_1t hp hs
      replace hz := hz.trans hs
      replace r_5 := r_5.step hs
      replace r_n := r_n.step hs
      refine ⟨SK (Stp I_l w_1t I_l) [] [], ⟨Stp.refl _ _, kp_nil⟩, fun L x h => ⟨hz.held h.1, h.2⟩, ?_⟩
      have hz := Stp.refl I_l w_1t
      refine ⟨?_, ?_⟩
      ·
        obtain ⟨x_1u, q_1v, q_h⟩ := bind_some q_h
        refine ev_call rfl rfl C89 (((integer_Abs_ok n) _ _  (Int_2.mk x_3.Neg x_3.Mag) v_4 r_5 hp.imm _ q_1v).mono ?_)
        rintro _ w_1w ⟨I_1x, v_1y, hv, hq, r_1z⟩
        replace hv := hv.symm
        subst hv
        have hs := hq.st
        have hp := hp.join0 hq
        replace hz := hz.trans hs
        replace r_n := r_n.step hs
        refine ⟨SK (Stp I_1x w_1w I_1x) [] [], ⟨Stp.refl _ _, kp_nil⟩, fun L x h => ⟨hz.held h.1, h.2⟩, ?_⟩
        have hz := Stp.refl I_1x w_1w
        refine ⟨?_, trivial⟩
        refine ev_alloc hp rfl T24 ?_
        intro g_20 w_21 hp hs
        replace hz := hz.trans hs
        replace r_n := r_n.step hs
        replace r_1z := r_1z.step hs
        refine ⟨SK (Stp I_1x w_21 I_1x) [] [], ⟨Stp.refl _ _, kp_nil⟩, fun L x h => ⟨hz.held h.1, h.2⟩, ?_⟩
        have hz := Stp.refl I_1x w_21
        refine ⟨?_, trivial⟩
        refine ev_storeA hp (i := 0) (off := 0) (vs := [(.bool x_i.Neg), v_m]) rfl rfl rfl rfl T24 rfl (Nat.le_of_ble_eq_true rfl) (ones_cons rfl (ones_cons r_n.one ones_nil)) ?_
        intro w_22 hp hs
        replace hz := hz.trans hs
        replace r_1z := r_1z.step hs
        replace r_n := r_n.step hs
        refine ⟨SK (Stp I_1x w_22 I_1x) [] [], ⟨Stp.refl _ _, kp_nil⟩, fun L x h => ⟨hz.held h.1, h.2⟩, ?_⟩
        have hz := Stp.refl I_1x w_22
        refine ⟨?_, trivial⟩
        refine ev_storeA hp (i := 1) (off := 0) (vs := [(.bool x_1u.Neg), v_1y]) rfl rfl rfl rfl T24 rfl (Nat.le_of_ble_eq_true rfl) (ones_cons rfl (ones_cons r_1z.one ones_nil)) ?_
        intro w_23 hp hs
        replace hz := hz.trans hs
        replace r_n := r_n.step hs
        replace r_1z := r_1z.step hs
        refine ⟨SK (Stp I_1x w_23 I_1x) [] [], ⟨Stp.refl _ _, kp_nil⟩, fun L x h => ⟨hz.held h.1, h.2⟩, ?_⟩
        have hz := Stp.refl I_1x w_23
        obtain rfl := Option.some.inj q_h
        have hp := hp.perm [2, 0, 1] (by decide)
        exact ⟨(x_i.Neg, x_i.Mag, x_1u.Neg, x_1u.Mag, g_20, v_m, g_1s, v_1y, I_1x), (.c rfl (.c rfl (.c rfl .n))), rfl, hp, r_n, r_1z⟩
      refine ⟨?_, trivial⟩
      refine ev_alloc hp rfl T24 ?_
      intro g_24 w_25 hp hs
      replace hz := hz.trans hs
      replace r_5 := r_5.step hs
      replace r_n := r_n.step hs
      refine ⟨SK (Stp I_l w_25 I_l) [] [], ⟨Stp.refl _ _, kp_nil⟩, fun L x h => ⟨hz.held h.1, h.2⟩, ?_⟩
      have hz := Stp.refl I_l w_25
      refine ⟨?_, trivial⟩
      obtain ⟨x_26, q_27, q_h⟩ := bind_some q_h
      refine ev_call rfl rfl C89 (((integer_Abs_ok n) _ _  (Int_2.mk x_3.Neg x_3.Mag) v_4 r_5 hp.imm _ q_27).mono ?_)
      rintro _ w_28 ⟨I_29, v_2a, hv, hq, r_2b⟩
      replace hv := hv.symm
      subst hv
      have hs := hq.st
      have hp := hp.join0 hq
      replace hz := hz.trans hs
      replace r_n := r_n.step hs
      refine ⟨SK (Stp I_29 w_28 I_29) [] [], ⟨Stp.refl _ _, kp_nil⟩, fun L x h => ⟨hz.held h.1, h.2⟩, ?_⟩
      have hz := Stp.refl I_29 w_28
      refine ⟨?_, trivial⟩
      refine ev_storeA hp (i := 0) (off := 0) (vs := [(.bool x_i.Neg), v_m]) rfl rfl rfl rfl T24 rfl (Nat.le_of_ble_eq_true rfl) (ones_cons rfl (ones_cons r_n.one ones_nil)) ?_
      intro w_2c hp hs
      replace hz := hz.trans hs
      replace r_2b := r_2b.step hs
      replace r_n := r_n.step hs
      refine ⟨SK (Stp I_29 w_2c I_29) [] [], ⟨Stp.refl _ _, kp_nil⟩, fun L x h => ⟨hz.held h.1, h.2⟩, ?_⟩
      have hz := Stp.refl I_29 w_2c
      refine ⟨?_, trivial⟩
      refine ev_storeA hp (i := 1) (off := 0) (vs := [(.bool x_26.Neg), v_2a]) rfl rfl rfl rfl T24 rfl (Nat.le_of_ble_eq_true rfl) (ones_cons rfl (ones_cons r_2b.one ones_nil)) ?_
      intro w_2d hp hs
      replace hz := hz.trans hs
      replace r_n := r_n.step hs
      replace r_2b := r_2b.step hs
      refine ⟨SK (Stp I_29 w_2d I_29) [] [], ⟨Stp.refl _ _, kp_nil⟩, fun L x h => ⟨hz.held h.1, h.2⟩, ?_⟩
      have hz := Stp.refl I_29 w_2d
      obtain rfl := Option.some.inj q_h
      have hp := hp.perm [2, 0, 1] (by decide)
      exact ⟨(x_i.Neg, x_i.Mag, x_26.Neg, x_26.Mag, g_24, v_m, g_1s, v_2a, I_29), (.c rfl (.c rfl (.c rfl .n))), rfl, hp, r_n, r_2b⟩
    refine ⟨?_, ?_⟩
    ·
      refine ev_alloc hp rfl T24 ?_
      intro g_2e w_2f hp hs
      replace hz := hz.trans hs
      replace r_2 := r_2.step hs
      replace r_5 := r_5.step hs
      refine ⟨SK (Stp I_b w_2f I_b) [] [], ⟨Stp.refl _ _, kp_nil⟩, fun L x h => ⟨hz.held h.1, h.2⟩, ?_⟩
      have hz := Stp.refl I_b w_2f
      refine ⟨?_, ?_⟩
      ·
        obtain ⟨x_2g, q_2h, q_h⟩ := bind_some q_h
        refine ev_call rfl rfl C89 (((integer_Abs_ok n) _ _  (Int_2.mk x_0.Neg x_0.Mag) v_1 r_2 hp.imm _ q_2h).mono ?_)
        rintro _ w_2i ⟨I_2j, v_2k, hv, hq, r_2l⟩
        replace hv := hv.symm
        subst hv
        have hs := hq.st
        have hp := hp.join0 hq
        replace hz := hz.trans hs
        replace r_5 := r_5.step hs
        refine ⟨SK (Stp I_2j w_2i I_2j) [] [], ⟨Stp.refl _ _, kp_nil⟩, fun L x h => ⟨hz.held h.1, h.2⟩, ?_⟩
        have hz := Stp.refl I_2j w_2i
        refine ⟨?_, ?_⟩
        ·
          obtain ⟨x_2m, q_2n, q_h⟩ := bind_some q_h
          refine ev_call rfl rfl C89 (((integer_Abs_ok n) _ _  (Int_2.mk x_3.Neg x_3.Mag) v_4 r_5 hp.imm _ q_2n).mono ?_)
          rintro _ w_2o ⟨I_2p, v_2q, hv, hq, r_2r⟩
          replace hv := hv.symm
          subst hv
          have hs := hq.st
          have hp := hp.join0 hq
          replace hz := hz.trans hs
          replace r_2l := r_2l.step hs
          refine ⟨SK (Stp I_2p w_2o I_2p) [] [], ⟨Stp.refl _ _, kp_nil⟩, fun L x h => ⟨hz.held h.1, h.2⟩, ?_⟩
          have hz := Stp.refl I_2p w_2o
          refine ⟨?_, trivial⟩
          refine ev_alloc hp rfl T24 ?_
          intro g_2s w_2t hp hs
          replace hz := hz.trans hs
          replace r_2l := r_2l.step hs
          replace r_2r := r_2r.step hs
          refine ⟨SK (Stp I_2p w_2t I_2p) [] [], ⟨Stp.refl _ _, kp_nil⟩, fun L x h => ⟨hz.held h.1, h.2⟩, ?_⟩
          have hz := Stp.refl I_2p w_2t
          refine ⟨?_, trivial⟩
          refine ev_storeA hp (i := 1) (off := 0) (vs := [(.bool x_2g.Neg), v_2k]) rfl rfl rfl rfl T24 rfl (Nat.le_of_ble_eq_true rfl) (ones_cons rfl (ones_cons r_2l.one ones_nil)) ?_
          intro w_2u hp hs
          replace hz := hz.trans hs
          replace r_2r := r_2r.step hs
          replace r_2l := r_2l.step hs
          refine ⟨SK (Stp I_2p w_2u I_2p) [] [], ⟨Stp.refl _ _, kp_nil⟩, fun L x h => ⟨hz.held h.1, h.2⟩, ?_⟩
          have hz := Stp.refl I_2p w_2u
          refine ⟨?_, trivial⟩
          refine ev_storeA hp (i := 0) (off := 0) (vs := [(.bool x_2m.Neg), v_2q]) rfl rfl rfl rfl T24 rfl (Nat.le_of_ble_eq_true rfl) (ones_cons rfl (ones_cons r_2r.one ones_nil)) ?_
          intro w_2v hp hs
          replace hz := hz.trans hs
          replace r_2r := r_2r.step hs
          replace r_2l := r_2l.step hs
          refine ⟨SK (Stp I_2p w_2v I_2p) [] [], ⟨Stp.refl _ _, kp_nil⟩, fun L x h => ⟨hz.held h.1, h.2⟩, ?_⟩
          have hz := Stp.refl I_2p w_2v
          obtain rfl := Option.some.inj q_h
          have hp := hp.perm [2, 1, 0] (by decide)
          exact ⟨(x_2g.Neg, x_2g.Mag, x_2m.Neg, x_2m.Mag, g_2e, v_2k, g_2s, v_2q, I_2p), (.c rfl (.c rfl (.c rfl .n))), rfl, hp, r_2l, r_2r⟩
        refine ⟨?_, trivial⟩
        refine ev_alloc hp rfl T24 ?_
        intro g_2w w_2x hp hs
        replace hz := hz.trans hs
        replace r_5 := r_5.step hs
        replace r_2l := r_2l.step hs
        refine ⟨SK (Stp I_2j w_2x I_2j) [] [], ⟨Stp.refl _ _, kp_nil⟩, fun L x h => ⟨hz.held h.1, h.2⟩, ?_⟩
        have hz := Stp.refl I_2j w_2x
        refine ⟨?_, trivial⟩
        obtain ⟨x_2y, q_2z, q_h⟩ := bind_some q_h
        refine ev_call rfl rfl C89 (((integer_Abs_ok n) _ _  (Int_2.mk x_3.Neg x_3.Mag) v_4 r_5 hp.imm _ q_2z).mono ?_)
        rintro _ w_30 ⟨I_31, v_32, hv, hq, r_33⟩
        replace hv := hv.symm
        subst hv
        have hs := hq.st
        have hp := hp.join0 hq
        replace hz := hz.trans hs
        replace r_2l := r_2l.step hs
        refine ⟨SK (Stp I_31 w_30 I_31) [] [], ⟨Stp.refl _ _, kp_nil⟩, fun L x h => ⟨hz.held h.1, h.2⟩, ?_⟩
        have hz := Stp.refl I_31 w_30
        refine ⟨?_, trivial⟩
        refine ev_storeA hp (i := 1) (off := 0) (vs := [(.bool x_2g.Neg), v_2k]) rfl rfl rfl rfl T24 rfl (Nat.le_of_ble_eq_true rfl) (ones_cons rfl (ones_cons r_2l.one ones_nil)) ?_
        intro w_34 hp hs
        replace hz := hz.trans hs
        replace r_33 := r_33.step hs
        replace r_2l := r_2l.step hs
        refine ⟨SK (Stp I_31 w_34 I_31) [] [], ⟨Stp.refl _ _, kp_nil⟩, fun L x h => ⟨hz.held h.1, h.2⟩, ?_⟩
        have hz := Stp.refl I_31 w_34
        refine ⟨?_, trivial⟩
        refine ev_storeA hp (i := 0) (off := 0) (vs := [(.bool x_2y.Neg), v_32]) rfl rfl rfl rfl T24 rfl (Nat.le_of_ble_eq_true rfl) (ones_cons rfl (ones_cons r_33.one ones_nil)) ?_
        intro w_35 hp hs
        replace hz := hz.trans hs
        replace r_33 := r_33.step hs
        replace r_2l := r_2l.step hs
        refine ⟨SK (Stp I_31 w_35 I_31) [] [], ⟨Stp.refl _ _, kp_nil⟩, fun L x h => ⟨hz.held h.1, h.2⟩, ?_⟩
        have hz := Stp.refl I_31 w_35
        obtain rfl := Option.some.inj q_h
        have hp := hp.perm [2, 1, 0] (by decide)
        exact ⟨(x_2g.Neg, x_2g.Mag, x_2y.Neg, x_2y.Mag, g_2e, v_2k, g_2w, v_32, I_31), (.c rfl (.c rfl (.c rfl .n))), rfl, hp, r_2l, r_33⟩
      refine ⟨?_, trivial⟩
      refine ev_alloc hp rfl T24 ?_
      intro g_36 w_37 hp hs
      replace hz := hz.trans hs
      replace r_2 := r_2.step hs
      replace r_5 := r_5.step hs
      refine ⟨SK (Stp I_b w_37 I_b) [] [], ⟨Stp.refl _ _, kp_nil⟩, fun L x h => ⟨hz.held h.1, h.2⟩, ?_⟩
      have hz := Stp.refl I_b w_37
      refine ⟨?_, trivial⟩
      obtain ⟨x_38, q_39, q_h⟩ := bind_some q_h
      refine ev_call rfl rfl C89 (((integer_Abs_ok n) _ _  (Int_2.mk x_0.Neg x_0.Mag) v_1 r_2 hp.imm _ q_39).mono ?_)
      rintro _ w_3a ⟨I_3b, v_3c, hv, hq, r_3d⟩
      replace hv := hv.symm
      subst hv
      have hs := hq.st
      have hp := hp.join0 hq
      replace hz := hz.trans hs
      replace r_5 := r_5.step hs
      refine ⟨SK (Stp I_3b w_3a I_3b) [] [], ⟨Stp.refl _ _, kp_nil⟩, fun L x h => ⟨hz.held h.1, h.2⟩, ?_⟩
      have hz := Stp.refl I_3b w_3a
      refine ⟨?_, trivial⟩
      obtain ⟨x_3e, q_3f, q_h⟩ := bind_some q_h
      refine ev_call rfl rfl C89 (((integer_Abs_ok n) _ _  (Int_2.mk x_3.Neg x_3.Mag) v_4 r_5 hp.imm _ q_3f).mono ?_)
      rintro _ w_3g ⟨I_3h, v_3i, hv, hq, r_3j⟩
      replace hv := hv.symm
      subst hv
      have hs := hq.st
      have hp := hp.join0 hq
      replace hz := hz.trans hs
      replace r_3d := r_3d.step hs
      refine ⟨SK (Stp I_3h w_3g I_3h) [] [], ⟨Stp.refl _ _, kp_nil⟩, fun L x h => ⟨hz.held h.1, h.2⟩, ?_⟩
      have hz := Stp.refl I_3h w_3g
      refine ⟨?_, trivial⟩
      refine ev_storeA hp (i := 1) (off := 0) (vs := [(.bool x_38.Neg), v_3c]) rfl rfl rfl rfl T24 rfl (Nat.le_of_ble_eq_true rfl) (ones_cons rfl (ones_cons r_3d.one ones_nil)) ?_
      intro w_3k hp hs
      replace hz := hz.trans hs
      replace r_3j := r_3j.step hs
      replace r_3d := r_3d.step hs
      refine ⟨SK (Stp I_3h w_3k I_3h) [] [], ⟨Stp.refl _ _, kp_nil⟩, fun L x h => ⟨hz.held h.1, h.2⟩, ?_⟩
      have hz := Stp.refl I_3h w_3k
      refine ⟨?_, trivial⟩
      refine ev_storeA hp (i := 0) (off := 0) (vs := [(.bool x_3e.Neg), v_3i]) rfl rfl rfl rfl T24 rfl (Nat.le_of_ble_eq_true rfl) (ones_cons rfl (ones_cons r_3j.one ones_nil)) ?_
      intro w_3l hp hs
      replace hz := hz.trans hs
      replace r_3j := r_3j.step hs
      replace r_3d := r_3d.step hs
      refine ⟨SK (Stp I_3h w_3l I_3h) [] [], ⟨Stp.refl _ _, kp_nil⟩, fun L x h => ⟨hz.held h.1, h.2⟩, ?_⟩
      have hz := Stp.refl I_3h w_3l
      obtain rfl := Option.some.inj q_h
      have hp := hp.perm [2, 1, 0] (by decide)
      exact ⟨(x_38.Neg, x_38.Mag, x_3e.Neg, x_3e.Mag, g_2e, v_3c, g_36, v_3i, I_3h), (.c rfl (.c rfl (.c rfl .n))), rfl, hp, r_3d, r_3j⟩
    refine ⟨?_, trivial⟩
    refine ev_alloc hp rfl T24 ?_
    intro g_3m w_3n hp hs
    replace hz := hz.trans hs
    replace r_2 := r_2.step hs
    replace r_5 := r_5.step hs
    refine ⟨SK (Stp I_b w_3n I_b) [] [], ⟨Stp.refl _ _, kp_nil⟩, fun L x h => ⟨hz.held h.1, h.2⟩, ?_⟩
    have hz := Stp.refl I_b w_3n
    refine ⟨?_, ?_⟩
    ·
      obtain ⟨x_3o, q_3p, q_h⟩ := bind_some q_h
      refine ev_call rfl rfl C89 (((integer_Abs_ok n) _ _  (Int_2.mk x_0.Neg x_0.Mag) v_1 r_2 hp.imm _ q_3p).mono ?_)
      rintro _ w_3q ⟨I_3r, v_3s, hv, hq, r_3t⟩
      replace hv := hv.symm
      subst hv
      have hs := hq.st
      have hp := hp.join0 hq
      replace hz := hz.trans hs
      replace r_5 := r_5.step hs
      refine ⟨SK (Stp I_3r w_3q I_3r) [] [], ⟨Stp.refl _ _, kp_nil⟩, fun L x h => ⟨hz.held h.1, h.2⟩, ?_⟩
      have hz := Stp.refl I_3r w_3q
      refine ⟨?_, ?_⟩
      ·
        obtain ⟨x_3u, q_3v, q_h⟩ := bind_some q_h
        refine ev_call rfl rfl C89 (((integer_Abs_ok n) _ _  (Int_2.mk x_3.Neg x_3.Mag) v_4 r_5 hp.imm _ q_3v).mono ?_)
        rintro _ w_3w ⟨I_3x, v_3y, hv, hq, r_3z⟩
        replace hv := hv.symm
        subst hv
        have hs := hq.st
        have hp := hp.join0 hq
        replace hz := hz.trans hs
        replace r_3t := r_3t.step hs
        refine ⟨SK (Stp I_3x w_3w I_3x) [] [], ⟨Stp.refl _ _, kp_nil⟩, fun L x h => ⟨hz.held h.1, h.2⟩, ?_⟩
        have hz := Stp.refl I_3x w_3w
        refine ⟨?_, trivial⟩
        refine ev_alloc hp rfl T24 ?_
        intro g_40 w_41 hp hs
        replace hz := hz.trans hs
        replace r_3t := r_3t.step hs
        replace r_3z := r_3z.step hs
        refine ⟨SK (Stp I_3x w_41 I_3x) [] [], ⟨Stp.refl _ _, kp_nil⟩, fun L x h => ⟨hz.held h.1, h.2⟩, ?_⟩
        have hz := Stp.refl I_3x w_41
        refine ⟨?_, trivial⟩
        refine ev_storeA hp (i := 0) (off := 0) (vs := [(.bool x_3o.Neg), v_3s]) rfl rfl rfl rfl T24 rfl (Nat.le_of_ble_eq_true rfl) (ones_cons rfl (ones_cons r_3t.one ones_nil)) ?_
        intro w_42 hp hs
        replace hz := hz.trans hs
        replace r_3z := r_3z.step hs
        replace r_3t := r_3t.step hs
        refine ⟨SK (Stp I_3x w_42 I_3x) [] [], ⟨Stp.refl _ _, kp_nil⟩, fun L x h => ⟨hz.held h.1, h.2⟩, ?_⟩
        have hz := Stp.refl I_3x w_42
        refine ⟨?_, trivial⟩
        refine ev_storeA hp (i := 1) (off := 0) (vs := [(.bool x_3u.Neg), v_3y]) rfl rfl rfl rfl T24 rfl (Nat.le_of_ble_eq_true rfl) (ones_cons rfl (ones_cons r_3z.one ones_nil)) ?_
        intro w_43 hp hs
        replace hz := hz.trans hs
        replace r_3t := r_3t.step hs
        replace r_3z := r_3z.step hs
        refine ⟨SK (Stp I_3x w_43 I_3x) [] [], ⟨Stp.refl _ _, kp_nil⟩, fun L x h => ⟨hz.held h.1, h.2⟩, ?_⟩
        have hz := Stp.refl I_3x w_43
        obtain rfl := Option.some.inj q_h
        have hp := hp.perm [2, 0, 1] (by decide)
        exact ⟨(x_3o.Neg, x_3o.Mag, x_3u.Neg, x_3u.Mag, g_40, v_3s, g_3m, v_3y, I_3x), (.c rfl (.c rfl (.c rfl .n))), rfl, hp, r_3t, r_3z⟩
      refine ⟨?_, trivial⟩
      refine ev_alloc hp rfl T24 ?_
      intro g_44 w_45 hp hs
      replace hz := hz.trans hs
      replace r_5 := r_5.step hs
      replace r_3t := r_3t.step hs
      refine ⟨SK (Stp I_3r w_45 I_3r) [] [], ⟨Stp.refl _ _, kp_nil⟩, fun L x h => ⟨hz.held h.1, h.2⟩, ?_⟩
      have hz := Stp.refl I_3r w_45
      refine ⟨?_, trivial⟩
      obtain ⟨x_46, q_47, q_h⟩ := bind_some q_h
      refine ev_call rfl rfl C89 (((integer_Abs_ok n) _ _  (Int_2.mk x_3.Neg x_3.Mag) v_4 r_5 hp.imm _ q_47).mono ?_)
      rintro _ w_48 ⟨I_49, v_4a, hv, hq, r_4b⟩
      replace hv := hv.symm
      subst hv
      have hs := hq.st
      have hp := hp.join0 hq
      replace hz := hz.trans hs
      replace r_3t := r_3t.step hs
      refine ⟨SK (Stp I_49 w_48 I_49) [] [], ⟨Stp.refl _ _, kp_nil⟩, fun L x h => ⟨hz.held h.1, h.2⟩, ?_⟩
      have hz := Stp.refl I_49 w_48
      refine ⟨?_, trivial⟩
      refine ev_storeA hp (i := 0) (off := 0) (vs := [(.bool x_3o.Neg), v_3s]) rfl rfl rfl rfl T24 rfl (Nat.le_of_ble_eq_true rfl) (ones_cons rfl (ones_cons r_3t.one ones_nil)) ?_
      intro w_4c hp hs
      replace hz := hz.trans hs
      replace r_4b := r_4b.step hs
      replace r_3t := r_3t.step hs
      refine ⟨SK (Stp I_49 w_4c I_49) [] [], ⟨Stp.refl _ _, kp_nil⟩, fun L x h => ⟨hz.held h.1, h.2⟩, ?_⟩
      have hz := Stp.refl I_49 w_4c
      refine ⟨?_, trivial⟩
      refine ev_storeA hp (i := 1) (off := 0) (vs := [(.bool x_46.Neg), v_4a]) rfl rfl rfl rfl T24 rfl (Nat.le_of_ble_eq_true rfl) (ones_cons rfl (ones_cons r_4b.one ones_nil)) ?_
      intro w_4d hp hs
      replace hz := hz.trans hs
      replace r_3t := r_3t.step hs
      replace r_4b := r_4b.step hs
      refine ⟨SK (Stp I_49 w_4d I_49) [] [], ⟨Stp.refl _ _, kp_nil⟩, fun L x h => ⟨hz.held h.1, h.2⟩, ?_⟩
      have hz := Stp.refl I_49 w_4d
      obtain rfl := Option.some.inj q_h
      have hp := hp.perm [2, 0, 1] (by decide)
      exact ⟨(x_3o.Neg, x_3o.Mag, x_46.Neg, x_46.Mag, g_44, v_3s, g_3m, v_4a, I_49), (.c rfl (.c rfl (.c rfl .n))), rfl, hp, r_3t, r_4b⟩
    refine ⟨?_, trivial⟩
    refine ev_alloc hp rfl T24 ?_
    intro g_4e w_4f hp hs
    replace hz := hz.trans hs
    replace r_2 := r_2.step hs
    replace r_5 := r_5.step hs
    refine ⟨SK (Stp I_b w_4f I_b) [] [], ⟨Stp.refl _ _, kp_nil⟩, fun L x h => ⟨hz.held h.1, h.2⟩, ?_⟩
    have hz := Stp.refl I_b w_4f
    refine ⟨?_, trivial⟩
    obtain ⟨x_4g, q_4h, q_h⟩ := bind_some q_h
    refine ev_call rfl rfl C89 (((integer_Abs_ok n) _ _  (Int_2.mk x_0.Neg x_0.Mag) v_1 r_2 hp.imm _ q_4h).mono ?_)
    rintro _ w_4i ⟨I_4j, v_4k, hv, hq, r_4l⟩
    replace hv := hv.symm
    subst hv
    have hs := hq.st
    have hp := hp.join0 hq
    replace hz := hz.trans hs
    replace r_5 := r_5.step hs
    refine ⟨SK (Stp I_4j w_4i I_4j) [] [], ⟨Stp.refl _ _, kp_nil⟩, fun L x h => ⟨hz.held h.1, h.2⟩, ?_⟩
    have hz := Stp.refl I_4j w_4i
    refine ⟨?_, trivial⟩
    obtain ⟨x_4m, q_4n, q_h⟩ := bind_some q_h
    refine ev_call rfl rfl C89 (((integer_Abs_ok n) _ _  (Int_2.mk x_3.Neg x_3.Mag) v_4 r_5 hp.imm _ q_4n).mono ?_)
    rintro _ w_4o ⟨I_4p, v_4q, hv, hq, r_4r⟩
    replace hv := hv.symm
    subst hv
    have hs := hq.st
    have hp := hp.join0 hq
    replace hz := hz.trans hs
    replace r_4l := r_4l.step hs
    refine ⟨SK (Stp I_4p w_4o I_4p) [] [], ⟨Stp.refl _ _, kp_nil⟩, fun L x h => ⟨hz.held h.1, h.2⟩, ?_⟩
    have hz := Stp.refl I_4p w_4o
    refine ⟨?_, trivial⟩
    refine ev_storeA hp (i := 0) (off := 0) (vs := [(.bool x_4g.Neg), v_4k]) rfl rfl rfl rfl T24 rfl (Nat.le_of_ble_eq_true rfl) (ones_cons rfl (ones_cons r_4l.one ones_nil)) ?_
    intro w_4s hp hs
    replace hz := hz.trans hs
    replace r_4r := r_4r.step hs
    replace r_4l := r_4l.step hs
    refine ⟨SK (Stp I_4p w_4s I_4p) [] [], ⟨Stp.refl _ _, kp_nil⟩, fun L x h => ⟨hz.held h.1, h.2⟩, ?_⟩
    have hz := Stp.refl I_4p w_4s
    refine ⟨?_, trivial⟩
    refine ev_storeA hp (i := 1) (off := 0) (vs := [(.bool x_4m.Neg), v_4q]) rfl rfl rfl rfl T24 rfl (Nat.le_of_ble_eq_true rfl) (ones_cons rfl (ones_cons r_4r.one ones_nil)) ?_
    intro w_4t hp hs
    replace hz := hz.trans hs
    replace r_4l := r_4l.step hs
    replace r_4r := r_4r.step hs
    refine ⟨SK (Stp I_4p w_4t I_4p) [] [], ⟨Stp.refl _ _, kp_nil⟩, fun L x h => ⟨hz.held h.1, h.2⟩, ?_⟩
    have hz := Stp.refl I_4p w_4t
    obtain rfl := Option.some.inj q_h
    have hp := hp.perm [2, 0, 1] (by decide)
    exact ⟨(x_4g.Neg, x_4g.Mag, x_4m.Neg, x_4m.Mag, g_4e, v_4k, g_3m, v_4q, I_4p), (.c rfl (.c rfl (.c rfl .n))), rfl, hp, r_4l, r_4r⟩
  ·
    rintro ⟨x_4u, x_4v, x_4w, x_4x, g_4y, v_4z, g_50, v_51, I_52⟩ w_53 ⟨hy, hp, r_54, r_55⟩
    replace hy := hy.symm
    subst hy
    obtain ⟨y_56, q_57, h⟩ := bind_some h
    refine W.cut (γ := (Bool × (List Int) × Value × (Nat → Prop))) (fun g => [(4, (.pointer (some ⟨g_e, 0, none⟩))), (5, (.pointer (some ⟨g_4y, 0, none⟩)))]) (fun g w' => y_56 = ((g.1), (g.2.1)) ∧ Hp ⟨w0, I0, []⟩ (g.2.2.2) [some (g_e, [(.bool false), (.slice none 0 0)], 24), some (g_4y, [(.bool (g.1)), (g.2.2.1)], 24)] w' ∧ RepS (dI .u32) w' (g.2.2.2) (g.2.2.1) (g.2.1)) ?_ ?_
    ·
      apply go
      refine W.loop q_57 (γ := (Value × Value × (Nat → Prop))) (fun s g => [(4, (.pointer (some ⟨g_e, 0, none⟩))), (5, (.pointer (some ⟨g_4y, 0, none⟩))), (6, (.pointer (some ⟨g_50, 0, none⟩)))]) (fun s g w' => Hp ⟨w0, I0, []⟩ (g.2.2) [some (g_e, [(.bool false), (.slice none 0 0)], 24), some (g_4y, [(.bool (s.1)), (g.1)], 24), some (g_50, [(.bool (s.2.2.1)), (g.2.1)], 24)] w' ∧ RepS (dI .u32) w' (g.2.2) (g.1) (s.2.1) ∧ RepS (dI .u32) w' (g.2.2) (g.2.1) (s.2.2.2)) (v_4z, v_51, I_52) (.c rfl (.c rfl (.c rfl .n))) ⟨hp, r_54, r_55⟩ ?_
      rintro ⟨x_58, x_59, x_5a, x_5b⟩ ⟨v_5c, v_5d, I_5e⟩ w_5f y_5g ⟨hp, r_5h, r_5i⟩ q_5j q_5k
      unfold integer_Gcd_L1 at q_5j
      apply go
      apply go
      apply go
      refine ev0 (rn_field rfl rfl FO24_1) ?_
      refine ev (rn_load rfl rfl (run_loadVar1 T22 (hp.cell (i := 2) (off := 1) rfl rfl))) ?_
      refine ev0 (rn_len rfl rfl Tryz.underlying22 r_5i) ?_
      apply go
      refine sel_of (fun hc => ?_) (fun hc => ?_)
      ·
        have q_5j := cond_t q_5j hc
        apply go
        apply go
        apply go
        apply go
        refine ev (rn_load rfl rfl (run_loadVarA T24 rfl (hp.at_ (i := 1) rfl))) ?_
        refine ev (rn_load rfl rfl (run_loadVarA T24 rfl (hp.at_ (i := 2) rfl))) ?_
        obtain ⟨⟨x_5l, x_5m, x_5n⟩, q_5o, q_5j⟩ := bind_some q_5j
        refine ev_call rfl rfl C49 (((integer_DivMod_ok n) _ _  (Int_2.mk x_58 x_59) v_5c r_5h (Int_2.mk x_5a x_5b) v_5d r_5i hp.imm _ q_5o).mono ?_)
        rintro _ w_5p ⟨I_5q, v_5r, v_5s, hv, hq, r_5t, r_5u⟩
        replace hv := hv.symm
        subst hv
        have hs := hq.st
        have hp := hp.join0 hq
        replace r_5h := r_5h.step hs
        replace r_5i := r_5i.step hs
        refine ev_alloc hp rfl T24 ?_
        intro g_5v w_5w hp hs
        replace r_5t := r_5t.step hs
        replace r_5u := r_5u.step hs
        replace r_5h := r_5h.step hs
        replace r_5i := r_5i.step hs
        refine ev_alloc hp rfl T24 ?_
        intro g_5x w_5y hp hs
        replace r_5t := r_5t.step hs
        replace r_5u := r_5u.step hs
        replace r_5h := r_5h.step hs
        replace r_5i := r_5i.step hs
        refine ev_storeA hp (i := 1) (off := 0) (vs := [(.bool x_5l.Neg), v_5r]) rfl rfl rfl rfl T24 rfl (Nat.le_of_ble_eq_true rfl) (ones_cons rfl (ones_cons r_5t.one ones_nil)) ?_
        intro w_5z hp hs
        replace r_5u := r_5u.step hs
        replace r_5t := r_5t.step hs
        replace r_5h := r_5h.step hs
        replace r_5i := r_5i.step hs
        refine ev_storeA hp (i := 0) (off := 0) (vs := [(.bool x_5m.Neg), v_5s]) rfl rfl rfl rfl T24 rfl (Nat.le_of_ble_eq_true rfl) (ones_cons rfl (ones_cons r_5u.one ones_nil)) ?_
        intro w_60 hp hs
        replace r_5u := r_5u.step hs
        replace r_5t := r_5t.step hs
        replace r_5h := r_5h.step hs
        replace r_5i := r_5i.step hs
        have hs := hp.stp (Ch.drew [] w_60)
        have hp := hp.drew
        replace r_5u := r_5u.step hs
        replace r_5t := r_5t.step hs
        replace r_5h := r_5h.step hs
        replace r_5i := r_5i.step hs
        refine W.held [(1, true), (0, false), (2, false), (3, false)] (fun x => Stp I_5q w_60.drew I_5q x ∧ OwnK [(g_5x, [(.bool x_5m.Neg), v_5s], 24)] x) MX (by kernel_rfl) ⟨Stp.refl _ _, (OwnK.cons (hp.own 0 _ _ _ rfl).1 OwnK.nil)⟩ ?_
        have hz := Stp.refl I_5q w_60.drew
        refine evh (fun w' hw => rn_load rfl rfl (run_loadVarA T24 rfl (hw.2.at_ (i := 0) rfl))) ?_
        refine ev (rn_load rfl rfl (run_loadVarA T24 rfl (hp.at_ (i := 4) rfl))) ?_
        refine ⟨fun x => Stp I_5q w_60.drew I_5q x ∧ OwnK [(g_5x, [(.bool x_5m.Neg), v_5s], 24)] x, ⟨Stp.refl _ _, (OwnK.cons (hp.own 0 _ _ _ rfl).1 OwnK.nil)⟩, fun x hx => ⟨hz.held hx.1, hx.2⟩, ?_⟩
        have hz := Stp.refl I_5q w_60.drew
        refine ev_storeA hp (i := 3) (off := 0) (vs := [(.bool x_5a), v_5d]) rfl rfl rfl rfl T24 rfl (Nat.le_of_ble_eq_true rfl) (ones_cons rfl (ones_cons r_5i.one ones_nil)) ?_
        intro w_61 hp hs
        replace hz := hz.trans hs
        replace r_5u := r_5u.step hs
        replace r_5t := r_5t.step hs
        replace r_5i := r_5i.step hs
        refine ⟨fun x => Stp I_5q w_61 I_5q x ∧ OwnK [(g_5x, [(.bool x_5m.Neg), v_5s], 24)] x, ⟨Stp.refl _ _, (OwnK.cons (hp.own 0 _ _ _ rfl).1 OwnK.nil)⟩, fun x hx => ⟨hz.held hx.1, hx.2⟩, ?_⟩
        have hz := Stp.refl I_5q w_61
        refine ev_storeA hp (i := 4) (off := 0) (vs := [(.bool x_5m.Neg), v_5s]) rfl rfl rfl rfl T24 rfl (Nat.le_of_ble_eq_true rfl) (ones_cons rfl (ones_cons r_5u.one ones_nil)) ?_
        intro w_62 hp hs
        replace hz := hz.trans hs
        replace r_5u := r_5u.step hs
        replace r_5t := r_5t.step hs
        replace r_5i := r_5i.step hs
        refine ⟨fun x => Stp I_5q w_62 I_5q x ∧ OwnK [(g_5x, [(.bool x_5m.Neg), v_5s], 24)] x, ⟨Stp.refl _ _, (OwnK.cons (hp.own 0 _ _ _ rfl).1 OwnK.nil)⟩, fun x hx => ⟨hz.held hx.1, hx.2⟩, ?_⟩
        have hz := Stp.refl I_5q w_62
        have hp := hp.sel [2, 3, 4] (by decide)
        exact ⟨_, (Option.some.inj q_5j).symm, (v_5d, v_5s, I_5q), (.c rfl (.c rfl (.c rfl .n))), ⟨hp, r_5i, r_5u⟩⟩
      ·
        have q_5j := cond_f q_5j hc
        apply go
        have q_63 := congrArg some (q_5k _ (Option.some.inj q_5j).symm)
        obtain rfl := Option.some.inj q_63
        have hp := hp.sel [0, 1] (by decide)
        exact ⟨(x_58, x_59, v_5c, I_5e), (.c rfl (.c rfl .n)), rfl, hp, r_5h⟩
    ·
      rintro ⟨x_64, x_65, v_66, I_67⟩ w_68 ⟨hy, hp, r_69⟩
      replace hy := hy.symm
      subst hy
      apply go
      apply go
      refine ev (rn_load rfl rfl (run_loadVarA T24 rfl (hp.at_ (i := 1) rfl))) ?_
      refine ev_storeA hp (i := 0) (off := 0) (vs := [(.bool x_64), v_66]) rfl rfl rfl rfl T24 rfl (Nat.le_of_ble_eq_true rfl) (ones_cons rfl (ones_cons r_69.one ones_nil)) ?_
      intro w_6a hp hs
      replace r_69 := r_69.step hs
      apply go
      obtain rfl := Option.some.inj h
      refine ⟨_, run_loadVarA T24 rfl (hp.at_ (i := 0) rfl), ?_⟩
      have hp := hp.sel [] (by decide)
      exact ⟨I_67, v_66, rfl, hp, r_69⟩

end Go.Proofs.YtepadjfmcbjkmaaGreatDoor

namespace Go.Proofs.YtepadjfmcbjkmaaGreatDoor
open Go Go.Proofs.YtepadjfmcbjkmaaGreatDoor.Gw Go.RowKit
set_option linter.unusedVariables false
attribute [local irreducible] Ev EvQ EvS EvH
def rational_New_S (f : Int_2 → Int_2 → Option Rational) : Prop := ∀ (w0 : World) (I0 : Nat → Prop) (x_0 : Int_2) (v_1 : Value) (r_2 : RepS (dI .u32) w0 I0 v_1 x_0.Mag) (x_3 : Int_2) (v_4 : Value) (r_5 : RepS (dI .u32) w0 I0 v_4 x_3.Mag) (hI : ∀ g, I0 g → g < w0.heap.size) (r : Rational), f x_0 x_3 = some r →
    Ret Tryz.prog 28 #[(.agg #[(.bool x_0.Neg), v_1]), (.agg #[(.bool x_3.Neg), v_4])] w0 fun v w1 => ∃ (I1 : Nat → Prop) (u_6 : Value) (u_7 : Value), v = (.agg #[(.bool r.Num.Neg), u_6, (.bool r.Den.Neg), u_7]) ∧ Hp ⟨w0, I0, []⟩ I1 [] w1 ∧ RepS (dI .u32) w1 I1 u_6 r.Num.Mag ∧ RepS (dI .u32) w1 I1 u_7 r.Den.Mag
theorem rational_New_ok (n : Nat) : rational_New_S (rational_New n) := by
  intro w0 I0 x_0 v_1 r_2 x_3 v_4 r_5 hI r h
  unfold rational_New at h
  refine enter Tryz.func28 rfl (Nat.le_of_ble_eq_true rfl) ?_
  have hp : Hp ⟨w0, I0, []⟩ I0 [] w0 := Hp.start hI
  apply go
  apply go
  refine ev_box hp rfl rfl ?_
  intro g_6 w_7 hp hs
  replace r_5 := r_5.step hs
  replace r_2 := r_2.step hs
  refine ev_box hp rfl rfl ?_
  intro g_8 w_9 hp hs
  replace r_5 := r_5.step hs
  replace r_2 := r_2.step hs
  refine ev_alloc hp rfl T26 ?_
  intro g_a w_b hp hs
  replace r_5 := r_5.step hs
  replace r_2 := r_2.step hs
  apply go
  apply go
  apply go
  refine ev (rn_load rfl rfl (run_loadVarA T24 rfl (hp.at_ (i := 1) rfl))) ?_
  obtain ⟨x_c, q_d, h⟩ := bind_some h
  refine ev_call rfl rfl C39 (((integer_Sign_ok n) _ _  (Int_2.mk x_3.Neg x_3.Mag) v_4 r_5 hp.imm _ q_d).mono ?_)
  rintro _ w_e ⟨rfl, hc⟩
  have hs := hp.stp hc
  replace hp := hp.ext hc
  replace r_5 := r_5.step hs
  replace r_2 := r_2.step hs
  apply go
  refine sel_of (fun hc => ?_) (fun hc => ?_)
  ·
    have h := cond_t h hc
    apply go
    apply go
    obtain ⟨x_f, q_g, h⟩ := bind_some h
    refine ev_call rfl rfl C63 (((integer_Of_ok n) _ _  0 hp.imm _ q_g).mono ?_)
    rintro _ w_h ⟨I_i, v_j, hv, hq, r_k⟩
    replace hv := hv.symm
    subst hv
    have hs := hq.st
    have hp := hp.join0 hq
    replace r_5 := r_5.step hs
    replace r_2 := r_2.step hs
    obtain ⟨x_l, q_m, h⟩ := bind_some h
    refine ev_call rfl rfl C63 (((integer_Of_ok n) _ _  1 hp.imm _ q_m).mono ?_)
    rintro _ w_n ⟨I_o, v_p, hv, hq, r_q⟩
    replace hv := hv.symm
    subst hv
    have hs := hq.st
    have hp := hp.join0 hq
    replace r_k := r_k.step hs
    replace r_5 := r_5.step hs
    replace r_2 := r_2.step hs
    obtain ⟨A_r, m_s, m_t, rfl⟩ := r_k.isSl
    obtain ⟨A_u, m_v, m_w, rfl⟩ := r_q.isSl
    refine ev0 (fun w => rn_build (cs := [(.bool x_f.Neg), (.slice A_r m_s m_t), (.bool x_l.Neg), (.slice A_u m_v m_w)]) rfl rfl T26 PL26 rfl) ?_
    refine ev_storeA hp (i := 0) (off := 0) (vs := [(.bool x_f.Neg), (.slice A_r m_s m_t), (.bool x_l.Neg), (.slice A_u m_v m_w)]) rfl rfl rfl rfl T26 rfl (Nat.le_of_ble_eq_true rfl) (ones_cons rfl (ones_cons r_k.one (ones_cons rfl (ones_cons r_q.one ones_nil)))) ?_
    intro w_x hp hs
    replace r_k := r_k.step hs
    replace r_q := r_q.step hs
    replace r_5 := r_5.step hs
    replace r_2 := r_2.step hs
    apply go
    obtain rfl := Option.some.inj h
    refine ⟨_, run_loadVarA T26 rfl (hp.at_ (i := 0) rfl), ?_⟩
    have hp := hp.sel [] (by decide)
    exact ⟨I_o, (.slice A_r m_s m_t), (.slice A_u m_v m_w), rfl, hp, r_k, r_q⟩
  ·
    have h := cond_f h hc
    apply go
    obtain ⟨y_y, q_z, h⟩ := bind_some h
    refine W.cut (γ := (Bool × (List Int) × Bool × (List Int) × Value × Value × (Nat → Prop))) (fun g => [(2, (.pointer (some ⟨g_6, 0, none⟩))), (3, (.pointer (some ⟨g_8, 0, none⟩))), (4, (.pointer (some ⟨g_a, 0, none⟩)))]) (fun g w' => y_y = ((g.1), (g.2.1), (g.2.2.1), (g.2.2.2.1)) ∧ Hp ⟨w0, I0, []⟩ (g.2.2.2.2.2.2) [some (g_6, [(.bool (g.1)), (g.2.2.2.2.1)], 24), some (g_8, [(.bool (g.2.2.1)), (g.2.2.2.2.2.1)], 24), some (g_a, [(.bool false), (.slice none 0 0), (.bool false), (.slice none 0 0)], 26)] w' ∧ RepS (dI .u32) w' (g.2.2.2.2.2.2) (g.2.2.2.2.1) (g.2.1) ∧ RepS (dI .u32) w' (g.2.2.2.2.2.2) (g.2.2.2.2.2.1) (g.2.2.2.1)) ?_ ?_
    ·
      apply go
      apply go
      refine ev (rn_load rfl rfl (run_loadVarA T24 rfl (hp.at_ (i := 1) rfl))) ?_
      obtain ⟨x_10, q_11, q_z⟩ := bind_some q_z
      refine ev_call rfl rfl C39 (((integer_Sign_ok n) _ _  (Int_2.mk x_3.Neg x_3.Mag) v_4 r_5 hp.imm _ q_11).mono ?_)
      rintro _ w_12 ⟨rfl, hc⟩
      have hs := hp.stp hc
      replace hp := hp.ext hc
      replace r_5 := r_5.step hs
      replace r_2 := r_2.step hs
      apply go
      refine sel_of (fun hc => ?_) (fun hc => ?_)
      ·
        have q_z := cond_t q_z hc
        have hs := hp.stp (Ch.drew [] w_12)
        have hp := hp.drew
        replace r_5 := r_5.step hs
        replace r_2 := r_2.step hs
        refine W.heldG (.q 0 (.q 2 (.l 1 (.l 3 (.l 4 (.l 5 .done .no) .no) .no) .no))) (SK (Stp I0 w_12.drew I0) [(g_6, [(.bool x_0.Neg), v_1], 24), (g_8, [(.bool x_3.Neg), v_4], 24)] [[4], [5]]) MX (by kernel_rfl) ⟨Stp.refl _ _, (kp_cons (fun _ => (hp.own 2 _ _ _ rfl).1) (kp_cons (fun _ => (hp.own 1 _ _ _ rfl).1) kp_nil))⟩ ?_
        have hz := Stp.refl I0 w_12.drew
        refine ⟨SK.same (by kernel_rfl), ?_⟩
        refine evh (fun w' hw => rn_load rfl rfl (run_loadVarA T24 rfl ((S0.keep (p := 0) hw rfl rfl (by kernel_rfl)).at_ (i := 0) rfl))) ?_
        refine ⟨SK.same (by kernel_rfl), ?_⟩
        refine evh (fun w' hw => rn_load rfl rfl (run_loadVarA T24 rfl ((S0.keep (p := 1) hw rfl rfl (by kernel_rfl)).at_ (i := 0) rfl))) ?_
        refine ⟨?_, trivial⟩
        obtain ⟨x_13, q_14, q_z⟩ := bind_some q_z
        refine ev_call rfl rfl C64 (((integer_Neg_ok n) _ _  (Int_2.mk x_0.Neg x_0.Mag) v_1 r_2 hp.imm _ q_14).mono ?_)
        rintro _ w_15 ⟨I_16, v_17, hv, hq, r_18⟩
        replace hv := hv.symm
        subst hv
        have hs := hq.st
        have hp := hp.join0 hq
        replace hz := hz.trans hs
        replace r_5 := r_5.step hs
        replace r_2 := r_2.step hs
        refine ⟨SK (Stp I_16 w_15 I_16) [(g_6, [(.bool x_0.Neg), v_1], 24), (g_8, [(.bool x_3.Neg), v_4], 24)] [[4], [5]], ⟨Stp.refl _ _, (kp_cons (fun _ => (hp.own 2 _ _ _ rfl).1) (kp_cons (fun _ => (hp.own 1 _ _ _ rfl).1) kp_nil))⟩, fun L x h => ⟨hz.held h.1, h.2⟩, ?_⟩
        have hz := Stp.refl I_16 w_15
        refine ⟨?_, trivial⟩
        obtain ⟨x_19, q_1a, q_z⟩ := bind_some q_z
        refine ev_call rfl rfl C64 (((integer_Neg_ok n) _ _  (Int_2.mk x_3.Neg x_3.Mag) v_4 r_5 hp.imm _ q_1a).mono ?_)
        rintro _ w_1b ⟨I_1c, v_1d, hv, hq, r_1e⟩
        replace hv := hv.symm
        subst hv
        have hs := hq.st
        have hp := hp.join0 hq
        replace hz := hz.trans hs
        replace r_18 := r_18.step hs
        replace r_5 := r_5.step hs
        replace r_2 := r_2.step hs
        refine ⟨SK (Stp I_1c w_1b I_1c) [(g_6, [(.bool x_0.Neg), v_1], 24), (g_8, [(.bool x_3.Neg), v_4], 24)] [[4], [5]], ⟨Stp.refl _ _, (kp_cons (fun _ => (hp.own 2 _ _ _ rfl).1) (kp_cons (fun _ => (hp.own 1 _ _ _ rfl).1) kp_nil))⟩, fun L x h => ⟨hz.held h.1, h.2⟩, ?_⟩
        have hz := Stp.refl I_1c w_1b
        refine ⟨?_, trivial⟩
        refine ev_storeA hp (i := 2) (off := 0) (vs := [(.bool x_13.Neg), v_17]) rfl rfl rfl rfl T24 rfl (Nat.le_of_ble_eq_true rfl) (ones_cons rfl (ones_cons r_18.one ones_nil)) ?_
        intro w_1f hp hs
        replace hz := hz.trans hs
        replace r_1e := r_1e.step hs
        replace r_5 := r_5.step hs
        replace r_18 := r_18.step hs
        refine ⟨SK (Stp I_1c w_1f I_1c) [(g_6, [(.bool x_0.Neg), v_1], 24), (g_8, [(.bool x_3.Neg), v_4], 24)] [[4], [5]], ⟨Stp.refl _ _, (kp_cons (kp_off (by kernel_rfl)) (kp_cons (fun _ => (hp.own 1 _ _ _ rfl).1) kp_nil))⟩, fun L x h => ⟨hz.held h.1, h.2⟩, ?_⟩
        have hz := Stp.refl I_1c w_1f
        refine ⟨?_, trivial⟩
        refine ev_storeA hp (i := 1) (off := 0) (vs := [(.bool x_19.Neg), v_1d]) rfl rfl rfl rfl T24 rfl (Nat.le_of_ble_eq_true rfl) (ones_cons rfl (ones_cons r_1e.one ones_nil)) ?_
        intro w_1g hp hs
        replace hz := hz.trans hs
        replace r_1e := r_1e.step hs
        replace r_18 := r_18.step hs
        refine ⟨SK (Stp I_1c w_1g I_1c) [(g_6, [(.bool x_0.Neg), v_1], 24), (g_8, [(.bool x_3.Neg), v_4], 24)] [[4], [5]], ⟨Stp.refl _ _, (kp_cons (kp_off (by kernel_rfl)) (kp_cons (kp_off (by kernel_rfl)) kp_nil))⟩, fun L x h => ⟨hz.held h.1, h.2⟩, ?_⟩
        have hz := Stp.refl I_1c w_1g
        obtain rfl := Option.some.inj q_z
        have hp := hp.perm [2, 1, 0] (by decide)
        exact ⟨(x_13.Neg, x_13.Mag, x_19.Neg, x_19.Mag, v_17, v_1d, I_1c), (.c rfl (.c rfl (.c rfl .n))), rfl, hp, r_18, r_1e⟩
      ·
        have q_z := cond_f q_z hc
        apply go
        obtain rfl := Option.some.inj q_z
        have hp := hp.perm [2, 1, 0] (by decide)
        exact ⟨(x_0.Neg, x_0.Mag, x_3.Neg, x_3.Mag, v_1, v_4, I0), (.c rfl (.c rfl (.c rfl .n))), rfl, hp, r_2, r_5⟩
    ·
      rintro ⟨x_1h, x_1i, x_1j, x_1k, v_1l, v_1m, I_1n⟩ w_1o ⟨hy, hp, r_1p, r_1q⟩
      replace hy := hy.symm
      subst hy
      apply go
      apply go
      refine ev (rn_load rfl rfl (run_loadVarA T24 rfl (hp.at_ (i := 0) rfl))) ?_
      refine ev (rn_load rfl rfl (run_loadVarA T24 rfl (hp.at_ (i := 1) rfl))) ?_
      obtain ⟨x_1r, q_1s, h⟩ := bind_some h
      refine ev_call rfl rfl C65 (((integer_Gcd_ok n) _ _  (Int_2.mk x_1h x_1i) v_1l r_1p (Int_2.mk x_1j x_1k) v_1m r_1q hp.imm _ q_1s).mono ?_)
      rintro _ w_1t ⟨I_1u, v_1v, hv, hq, r_1w⟩
      replace hv := hv.symm
      subst hv
      have hs := hq.st
      have hp := hp.join0 hq
      replace r_1p := r_1p.step hs
      replace r_1q := r_1q.step hs
      refine ev_alloc hp rfl T24 ?_
      intro g_1x w_1y hp hs
      replace r_1w := r_1w.step hs
      replace r_1p := r_1p.step hs
      replace r_1q := r_1q.step hs
      refine ev_storeA hp (i := 0) (off := 0) (vs := [(.bool x_1r.Neg), v_1v]) rfl rfl rfl rfl T24 rfl (Nat.le_of_ble_eq_true rfl) (ones_cons rfl (ones_cons r_1w.one ones_nil)) ?_
      intro w_1z hp hs
      replace r_1w := r_1w.step hs
      replace r_1p := r_1p.step hs
      replace r_1q := r_1q.step hs
      apply go
      apply go
      refine ev (rn_load rfl rfl (run_loadVarA T24 rfl (hp.at_ (i := 1) rfl))) ?_
      refine ev (rn_load rfl rfl (run_loadVarA T24 rfl (hp.at_ (i := 0) rfl))) ?_
      obtain ⟨⟨x_20, x_21, x_22⟩, q_23, h⟩ := bind_some h
      refine ev_call rfl rfl C49 (((integer_DivMod_ok n) _ _  (Int_2.mk x_1h x_1i) v_1l r_1p (Int_2.mk x_1r.Neg x_1r.Mag) v_1v r_1w hp.imm _ q_23).mono ?_)
      rintro _ w_24 ⟨I_25, v_26, v_27, hv, hq, r_28, r_29⟩
      replace hv := hv.symm
      subst hv
      have hs := hq.st
      have hp := hp.join0 hq
      replace r_1w := r_1w.step hs
      replace r_1p := r_1p.step hs
      replace r_1q := r_1q.step hs
      refine ev_alloc hp rfl T24 ?_
      intro g_2a w_2b hp hs
      replace r_28 := r_28.step hs
      replace r_29 := r_29.step hs
      replace r_1w := r_1w.step hs
      replace r_1p := r_1p.step hs
      replace r_1q := r_1q.step hs
      refine ev_alloc hp rfl T24 ?_
      intro g_2c w_2d hp hs
      replace r_28 := r_28.step hs
      replace r_29 := r_29.step hs
      replace r_1w := r_1w.step hs
      replace r_1p := r_1p.step hs
      replace r_1q := r_1q.step hs
      refine ev_storeA hp (i := 1) (off := 0) (vs := [(.bool x_20.Neg), v_26]) rfl rfl rfl rfl T24 rfl (Nat.le_of_ble_eq_true rfl) (ones_cons rfl (ones_cons r_28.one ones_nil)) ?_
      intro w_2e hp hs
      replace r_29 := r_29.step hs
      replace r_28 := r_28.step hs
      replace r_1w := r_1w.step hs
      replace r_1p := r_1p.step hs
      replace r_1q := r_1q.step hs
      refine ev_storeA hp (i := 0) (off := 0) (vs := [(.bool x_21.Neg), v_27]) rfl rfl rfl rfl T24 rfl (Nat.le_of_ble_eq_true rfl) (ones_cons rfl (ones_cons r_29.one ones_nil)) ?_
      intro w_2f hp hs
      replace r_29 := r_29.step hs
      replace r_28 := r_28.step hs
      replace r_1w := r_1w.step hs
      replace r_1p := r_1p.step hs
      replace r_1q := r_1q.step hs
      apply go
      apply go
      refine ev (rn_load rfl rfl (run_loadVarA T24 rfl (hp.at_ (i := 4) rfl))) ?_
      refine ev (rn_load rfl rfl (run_loadVarA T24 rfl (hp.at_ (i := 2) rfl))) ?_
      obtain ⟨⟨x_2g, x_2h, x_2i⟩, q_2j, h⟩ := bind_some h
      refine ev_call rfl rfl C49 (((integer_DivMod_ok n) _ _  (Int_2.mk x_1j x_1k) v_1m r_1q (Int_2.mk x_1r.Neg x_1r.Mag) v_1v r_1w hp.imm _ q_2j).mono ?_)
      rintro _ w_2k ⟨I_2l, v_2m, v_2n, hv, hq, r_2o, r_2p⟩
      replace hv := hv.symm
      subst hv
      have hs := hq.st
      have hp := hp.join0 hq
      replace r_29 := r_29.step hs
      replace r_28 := r_28.step hs
      replace r_1w := r_1w.step hs
      replace r_1p := r_1p.step hs
      replace r_1q := r_1q.step hs
      refine ev_alloc hp rfl T24 ?_
      intro g_2q w_2r hp hs
      replace r_2o := r_2o.step hs
      replace r_2p := r_2p.step hs
      replace r_29 := r_29.step hs
      replace r_28 := r_28.step hs
      replace r_1w := r_1w.step hs
      replace r_1p := r_1p.step hs
      replace r_1q := r_1q.step hs
      refine ev_alloc hp rfl T24 ?_
      intro g_2s w_2t hp hs
      replace r_2o := r_2o.step hs
      replace r_2p := r_2p.step hs
      replace r_29 := r_29.step hs
      replace r_28 := r_28.step hs
      replace r_1w := r_1w.step hs
      replace r_1p := r_1p.step hs
      replace r_1q := r_1q.step hs
      refine ev_storeA hp (i := 1) (off := 0) (vs := [(.bool x_2g.Neg), v_2m]) rfl rfl rfl rfl T24 rfl (Nat.le_of_ble_eq_true rfl) (ones_cons rfl (ones_cons r_2o.one ones_nil)) ?_
      intro w_2u hp hs
      replace r_2p := r_2p.step hs
      replace r_2o := r_2o.step hs
      replace r_29 := r_29.step hs
      replace r_28 := r_28.step hs
      replace r_1w := r_1w.step hs
      replace r_1p := r_1p.step hs
      replace r_1q := r_1q.step hs
      refine ev_storeA hp (i := 0) (off := 0) (vs := [(.bool x_2h.Neg), v_2n]) rfl rfl rfl rfl T24 rfl (Nat.le_of_ble_eq_true rfl) (ones_cons rfl (ones_cons r_2p.one ones_nil)) ?_
      intro w_2v hp hs
      replace r_2p := r_2p.step hs
      replace r_2o := r_2o.step hs
      replace r_29 := r_29.step hs
      replace r_28 := r_28.step hs
      replace r_1w := r_1w.step hs
      replace r_1p := r_1p.step hs
      replace r_1q := r_1q.step hs
      apply go
      apply go
      refine ev (rn_load rfl rfl (run_loadVarA T24 rfl (hp.at_ (i := 3) rfl))) ?_
      refine ev (rn_load rfl rfl (run_loadVarA T24 rfl (hp.at_ (i := 1) rfl))) ?_
      obtain ⟨A_2w, m_2x, m_2y, rfl⟩ := r_28.isSl
      obtain ⟨A_2z, m_30, m_31, rfl⟩ := r_2o.isSl
      refine ev0 (fun w => rn_build (cs := [(.bool x_20.Neg), (.slice A_2w m_2x m_2y), (.bool x_2g.Neg), (.slice A_2z m_30 m_31)]) rfl rfl T26 PL26 rfl) ?_
      refine ev_storeA hp (i := 7) (off := 0) (vs := [(.bool x_20.Neg), (.slice A_2w m_2x m_2y), (.bool x_2g.Neg), (.slice A_2z m_30 m_31)]) rfl rfl rfl rfl T26 rfl (Nat.le_of_ble_eq_true rfl) (ones_cons rfl (ones_cons r_28.one (ones_cons rfl (ones_cons r_2o.one ones_nil)))) ?_
      intro w_32 hp hs
      replace r_2p := r_2p.step hs
      replace r_2o := r_2o.step hs
      replace r_29 := r_29.step hs
      replace r_28 := r_28.step hs
      replace r_1w := r_1w.step hs
      replace r_1p := r_1p.step hs
      replace r_1q := r_1q.step hs
      apply go
      obtain rfl := Option.some.inj h
      refine ⟨_, run_loadVarA T26 rfl (hp.at_ (i := 7) rfl), ?_⟩
      have hp := hp.sel [] (by decide)
      exact ⟨I_2l, (.slice A_2w m_2x m_2y), (.slice A_2z m_30 m_31), rfl, hp, r_28, r_2o⟩

end Go.Proofs.YtepadjfmcbjkmaaGreatDoor

namespace Go.Proofs.YtepadjfmcbjkmaaGreatDoor
open Go Go.Proofs.YtepadjfmcbjkmaaGreatDoor.Gw Go.RowKit
set_option linter.unusedVariables false
attribute [local irreducible] Ev EvQ EvS EvH
def rational_Of_S (f : Int → Int → Option Rational) : Prop := ∀ (w0 : World) (I0 : Nat → Prop) (x_0 : Int) (x_1 : Int) (hI : ∀ g, I0 g → g < w0.heap.size) (r : Rational), f x_0 x_1 = some r →
    Ret Tryz.prog 29 #[(.int .i64 x_0), (.int .i64 x_1)] w0 fun v w1 => ∃ (I1 : Nat → Prop) (u_2 : Value) (u_3 : Value), v = (.agg #[(.bool r.Num.Neg), u_2, (.bool r.Den.Neg), u_3]) ∧ Hp ⟨w0, I0, []⟩ I1 [] w1 ∧ RepS (dI .u32) w1 I1 u_2 r.Num.Mag ∧ RepS (dI .u32) w1 I1 u_3 r.Den.Mag
theorem rational_Of_ok (n : Nat) : rational_Of_S (rational_Of n) := by
  intro w0 I0 x_0 x_1 hI r h
  unfold rational_Of at h
  refine enter Tryz.func29 rfl (Nat.le_of_ble_eq_true rfl) ?_
  have hp : Hp ⟨w0, I0, []⟩ I0 [] w0 := Hp.start hI
  apply go
  apply go
  refine ev_alloc hp rfl T26 ?_
  intro g_2 w_3 hp hs
  apply go
  apply go
  obtain ⟨x_4, q_5, h⟩ := bind_some h
  refine ev_call rfl rfl C63 (((integer_Of_ok n) _ _  x_0 hp.imm _ q_5).mono ?_)
  rintro _ w_6 ⟨I_7, v_8, hv, hq, r_9⟩
  replace hv := hv.symm
  subst hv
  have hs := hq.st
  have hp := hp.join0 hq
  obtain ⟨x_a, q_b, h⟩ := bind_some h
  refine ev_call rfl rfl C63 (((integer_Of_ok n) _ _  x_1 hp.imm _ q_b).mono ?_)
  rintro _ w_c ⟨I_d, v_e, hv, hq, r_f⟩
  replace hv := hv.symm
  subst hv
  have hs := hq.st
  have hp := hp.join0 hq
  replace r_9 := r_9.step hs
  obtain ⟨x_g, q_h, h⟩ := bind_some h
  refine ev_call rfl rfl C28 (((rational_New_ok n) _ _  x_4 v_8 r_9 x_a v_e r_f hp.imm _ q_h).mono ?_)
  rintro _ w_i ⟨I_j, v_k, v_l, hv, hq, r_m, r_n⟩
  replace hv := hv.symm
  subst hv
  have hs := hq.st
  have hp := hp.join0 hq
  refine ev_storeA hp (i := 0) (off := 0) (vs := [(.bool x_g.Num.Neg), v_k, (.bool x_g.Den.Neg), v_l]) rfl rfl rfl rfl T26 rfl (Nat.le_of_ble_eq_true rfl) (ones_cons rfl (ones_cons r_m.one (ones_cons rfl (ones_cons r_n.one ones_nil)))) ?_
  intro w_o hp hs
  replace r_m := r_m.step hs
  replace r_n := r_n.step hs
  apply go
  obtain rfl := Option.some.inj h
  refine ⟨_, run_loadVarA T26 rfl (hp.at_ (i := 0) rfl), ?_⟩
  have hp := hp.sel [] (by decide)
  exact ⟨I_j, v_k, v_l, rfl, hp, r_m, r_n⟩

end Go.Proofs.YtepadjfmcbjkmaaGreatDoor

namespace Go.Proofs.YtepadjfmcbjkmaaGreatDoor
open Go Go.Proofs.YtepadjfmcbjkmaaGreatDoor.Gw Go.RowKit
set_option linter.unusedVariables false
attribute [local irreducible] Ev EvQ EvS EvH
def rational_Norm_S (f : Rational → Option Rational) : Prop := ∀ (w0 : World) (I0 : Nat → Prop) (x_0 : Rational) (v_1 : Value) (r_2 : RepS (dI .u32) w0 I0 v_1 x_0.Num.Mag) (v_3 : Value) (r_4 : RepS (dI .u32) w0 I0 v_3 x_0.Den.Mag) (hI : ∀ g, I0 g → g < w0.heap.size) (r : Rational), f x_0 = some r →
    Ret Tryz.prog 38 #[(.agg #[(.bool x_0.Num.Neg), v_1, (.bool x_0.Den.Neg), v_3])] w0 fun v w1 => ∃ (I1 : Nat → Prop) (u_5 : Value) (u_6 : Value), v = (.agg #[(.bool r.Num.Neg), u_5, (.bool r.Den.Neg), u_6]) ∧ Hp ⟨w0, I0, []⟩ I1 [] w1 ∧ RepS (dI .u32) w1 I1 u_5 r.Num.Mag ∧ RepS (dI .u32) w1 I1 u_6 r.Den.Mag
theorem rational_Norm_ok (n : Nat) : rational_Norm_S (rational_Norm n) := by
  intro w0 I0 x_0 v_1 r_2 v_3 r_4 hI r h
  unfold rational_Norm at h
  refine enter Tryz.func38 rfl (Nat.le_of_ble_eq_true rfl) ?_
  have hp : Hp ⟨w0, I0, []⟩ I0 [] w0 := Hp.start hI
  apply go
  apply go
  refine ev_boxI hp rfl rfl ?_
  intro p_5 I_6 w_7 hp hs a_8
  replace r_2 := r_2.step hs
  replace r_4 := r_4.step hs
  refine ev_alloc hp rfl T26 ?_
  intro g_9 w_a hp hs
  replace a_8 := a_8.step hs
  replace r_2 := r_2.step hs
  replace r_4 := r_4.step hs
  apply go
  apply go
  refine ev0 (rn_field rfl rfl FO26_0) ?_
  refine ev (rn_load rfl rfl (run_loadVarA T24 rfl ((a_8.drop 0).take 2))) ?_
  refine ev0 (rn_field rfl rfl FO26_1) ?_
  refine ev (rn_load rfl rfl (run_loadVarA T24 rfl ((a_8.drop 2).take 2))) ?_
  obtain ⟨x_b, q_c, h⟩ := bind_some h
  refine ev_call rfl rfl C28 (((rational_New_ok n) _ _  (Int_2.mk x_0.Num.Neg x_0.Num.Mag) v_1 r_2 (Int_2.mk x_0.Den.Neg x_0.Den.Mag) v_3 r_4 hp.imm _ q_c).mono ?_)
  rintro _ w_d ⟨I_e, v_f, v_g, hv, hq, r_h, r_i⟩
  replace hv := hv.symm
  subst hv
  have hs := hq.st
  have hp := hp.join0 hq
  refine ev_storeA hp (i := 0) (off := 0) (vs := [(.bool x_b.Num.Neg), v_f, (.bool x_b.Den.Neg), v_g]) rfl rfl rfl rfl T26 rfl (Nat.le_of_ble_eq_true rfl) (ones_cons rfl (ones_cons r_h.one (ones_cons rfl (ones_cons r_i.one ones_nil)))) ?_
  intro w_j hp hs
  replace r_h := r_h.step hs
  replace r_i := r_i.step hs
  apply go
  obtain rfl := Option.some.inj h
  refine ⟨_, run_loadVarA T26 rfl (hp.at_ (i := 0) rfl), ?_⟩
  have hp := hp.sel [] (by decide)
  exact ⟨I_e, v_f, v_g, rfl, hp, r_h, r_i⟩

end Go.Proofs.YtepadjfmcbjkmaaGreatDoor

namespace Go.Proofs.YtepadjfmcbjkmaaGreatDoor
open Go Go.Proofs.YtepadjfmcbjkmaaGreatDoor.Gw Go.RowKit
set_option linter.unusedVariables false
attribute [local irreducible] Ev EvQ EvS EvH
def integer_Cmp_S (f : Int_2 → Int_2 → Option Int) : Prop := ∀ (w0 : World) (I0 : Nat → Prop) (x_0 : Int_2) (v_1 : Value) (r_2 : RepS (dI .u32) w0 I0 v_1 x_0.Mag) (x_3 : Int_2) (v_4 : Value) (r_5 : RepS (dI .u32) w0 I0 v_4 x_3.Mag) (hI : ∀ g, I0 g → g < w0.heap.size) (r : Int), f x_0 x_3 = some r →
    Ret Tryz.prog 46 #[(.agg #[(.bool x_0.Neg), v_1]), (.agg #[(.bool x_3.Neg), v_4])] w0 fun v w1 => v = (.int .i64 r) ∧ Ch [] w0 w1
theorem integer_Cmp_ok (n : Nat) : integer_Cmp_S (integer_Cmp n) := by
  intro w0 I0 x_0 v_1 r_2 x_3 v_4 r_5 hI r h
  unfold integer_Cmp at h
  refine enter Tryz.func46 rfl (Nat.le_of_ble_eq_true rfl) ?_
  have hp : Hp ⟨w0, I0, []⟩ I0 [] w0 := Hp.start hI
  apply go
  apply go
  refine ev_boxI hp rfl rfl ?_
  intro p_6 I_7 w_8 hp hs a_9
  replace r_5 := r_5.step hs
  replace r_2 := r_2.step hs
  refine ev_boxI hp rfl rfl ?_
  intro p_a I_b w_c hp hs a_d
  replace a_9 := a_9.step hs
  replace r_2 := r_2.step hs
  replace r_5 := r_5.step hs
  apply go
  refine W.quiet (fun w' => Ch [] w_c w') MX (by kernel_rfl) (Ch.drew [] w_c) ?_
  refine evq (fun w' hw => rn_load rfl rfl (run_loadVarA T24 rfl (a_9.step (hp.stp hw)))) ?_
  obtain ⟨x_e, q_f, h⟩ := bind_some h
  refine evq_call rfl rfl C39 (fun w' hw => ((integer_Sign_ok n) _ _  (Int_2.mk x_0.Neg x_0.Mag) v_1 (r_2.step (hp.stp hw)) (hp.ext hw).imm _ q_f).mono fun _ _ ⟨e, hc⟩ => ⟨e, hw.trans hc⟩) ?_
  refine evq (fun w' hw => rn_load rfl rfl (run_loadVarA T24 rfl (a_d.step (hp.stp hw)))) ?_
  obtain ⟨x_g, q_h, h⟩ := bind_some h
  refine evq_call rfl rfl C39 (fun w' hw => ((integer_Sign_ok n) _ _  (Int_2.mk x_3.Neg x_3.Mag) v_4 (r_5.step (hp.stp hw)) (hp.ext hw).imm _ q_h).mono fun _ _ ⟨e, hc⟩ => ⟨e, hw.trans hc⟩) ?_
  intro w_i hc
  have hs := hp.stp hc
  replace hp := hp.ext hc
  replace a_9 := a_9.step hs
  replace r_2 := r_2.step hs
  replace a_d := a_d.step hs
  replace r_5 := r_5.step hs
  apply go
  apply go
  apply go
  apply go
  apply go
  refine sel_of (fun hc => ?_) (fun hc => ?_)
  ·
    have h := cond_t h hc
    apply go
    apply go
    apply go
    obtain rfl := Option.some.inj h
    exact ⟨rfl, hp.ch⟩
  ·
    have h := cond_f h hc
    apply go
    apply go
    apply go
    refine sel_of (fun hc => ?_) (fun hc => ?_)
    ·
      have h := cond_t h hc
      apply go
      apply go
      apply go
      obtain rfl := Option.some.inj h
      exact ⟨rfl, hp.ch⟩
    ·
      have h := cond_f h hc
      apply go
      apply go
      have hs := hp.stp (Ch.drew [] w_i)
      have hp := hp.drew
      replace a_9 := a_9.step hs
      replace r_2 := r_2.step hs
      replace a_d := a_d.step hs
      replace r_5 := r_5.step hs
      refine W.held [(0, true), (1, true), (2, true), (4, true), (5, true), (3, false), (6, false), (7, false), (8, true), (9, true)] (Stp I_b w_i.drew I_b) MX (by kernel_rfl) (Stp.refl _ _) ?_
      have hz := Stp.refl I_b w_i.drew
      refine evh0 (rn_field rfl rfl FO24_1) ?_
      refine evh (fun w' hw => rn_load rfl rfl (run_loadVar1 T22 ((a_9.step hw).2 1 _ rfl))) ?_
      refine evh0 (rn_field rfl rfl FO24_1) ?_
      refine evh (fun w' hw => rn_load rfl rfl (run_loadVar1 T22 ((a_d.step hw).2 1 _ rfl))) ?_
      obtain ⟨x_j, q_k, h⟩ := bind_some h
      refine ev_call rfl rfl C72 (((integer_trim_ok n) _ _  x_0.Mag v_1 r_2 hp.imm _ q_k).mono ?_)
      rintro _ w_l ⟨I_m, v_n, hv, hq, r_o⟩
      replace hv := hv.symm
      subst hv
      have hs := hq.st
      have hp := hp.join0 hq
      replace hz := hz.trans hs
      replace r_5 := r_5.step hs
      refine ⟨Stp I_m w_l I_m, Stp.refl _ _, fun x hx => hz.held hx, ?_⟩
      have hz := Stp.refl I_m w_l
      obtain ⟨x_p, q_q, h⟩ := bind_some h
      refine ev_call rfl rfl C72 (((integer_trim_ok n) _ _  x_3.Mag v_4 r_5 hp.imm _ q_q).mono ?_)
      rintro _ w_r ⟨I_s, v_t, hv, hq, r_u⟩
      replace hv := hv.symm
      subst hv
      have hs := hq.st
      have hp := hp.join0 hq
      replace hz := hz.trans hs
      replace r_o := r_o.step hs
      refine ⟨Stp I_s w_r I_s, Stp.refl _ _, fun x hx => hz.held hx, ?_⟩
      have hz := Stp.refl I_s w_r
      obtain ⟨x_v, q_w, h⟩ := bind_some h
      refine ev_call rfl rfl C79 (((integer_compare_ok n) _ _  x_j v_n r_o x_p v_t r_u hp.imm _ q_w).mono ?_)
      rintro _ w_x ⟨rfl, hc⟩
      have hs := hp.stp hc
      replace hp := hp.ext hc
      replace hz := hz.trans hs
      refine ⟨Stp I_s w_x I_s, Stp.refl _ _, fun x hx => hz.held hx, ?_⟩
      have hz := Stp.refl I_s w_x
      apply go
      obtain rfl := Option.some.inj h
      exact ⟨rfl, hp.ch⟩

end Go.Proofs.YtepadjfmcbjkmaaGreatDoor

namespace Go.Proofs.YtepadjfmcbjkmaaGreatDoor
open Go Go.Proofs.YtepadjfmcbjkmaaGreatDoor.Gw Go.RowKit
set_option linter.unusedVariables false
attribute [local irreducible] Ev EvQ EvS EvH
def rational_one_S (f : Int_2 → Option Bool) : Prop := ∀ (w0 : World) (I0 : Nat → Prop) (x_0 : Int_2) (v_1 : Value) (r_2 : RepS (dI .u32) w0 I0 v_1 x_0.Mag) (hI : ∀ g, I0 g → g < w0.heap.size) (r : Bool), f x_0 = some r →
    Ret Tryz.prog 43 #[(.agg #[(.bool x_0.Neg), v_1])] w0 fun v w1 => v = (.bool r) ∧ Ch [] w0 w1
theorem rational_one_ok (n : Nat) : rational_one_S (rational_one n) := by
  intro w0 I0 x_0 v_1 r_2 hI r h
  unfold rational_one at h
  refine enter Tryz.func43 rfl (Nat.le_of_ble_eq_true rfl) ?_
  have hp : Hp ⟨w0, I0, []⟩ I0 [] w0 := Hp.start hI
  apply go
  apply go
  refine ev_boxI hp rfl rfl ?_
  intro p_3 I_4 w_5 hp hs a_6
  replace r_2 := r_2.step hs
  apply go
  have hs := hp.stp (Ch.drew [] w_5)
  have hp := hp.drew
  replace a_6 := a_6.step hs
  replace r_2 := r_2.step hs
  refine W.held [(0, true), (1, false), (2, false), (3, true), (4, true)] (Stp I_4 w_5.drew I_4) MX (by kernel_rfl) (Stp.refl _ _) ?_
  have hz := Stp.refl I_4 w_5.drew
  refine evh (fun w' hw => rn_load rfl rfl (run_loadVarA T24 rfl (a_6.step hw))) ?_
  obtain ⟨x_7, q_8, h⟩ := bind_some h
  refine ev_call rfl rfl C63 (((integer_Of_ok n) _ _  1 hp.imm _ q_8).mono ?_)
  rintro _ w_9 ⟨I_a, v_b, hv, hq, r_c⟩
  replace hv := hv.symm
  subst hv
  have hs := hq.st
  have hp := hp.join0 hq
  replace hz := hz.trans hs
  replace r_2 := r_2.step hs
  refine ⟨Stp I_a w_9 I_a, Stp.refl _ _, fun x hx => hz.held hx, ?_⟩
  have hz := Stp.refl I_a w_9
  obtain ⟨x_d, q_e, h⟩ := bind_some h
  refine ev_call rfl rfl C46 (((integer_Cmp_ok n) _ _  (Int_2.mk x_0.Neg x_0.Mag) v_1 r_2 x_7 v_b r_c hp.imm _ q_e).mono ?_)
  rintro _ w_f ⟨rfl, hc⟩
  have hs := hp.stp hc
  replace hp := hp.ext hc
  replace hz := hz.trans hs
  refine ⟨Stp I_a w_f I_a, Stp.refl _ _, fun x hx => hz.held hx, ?_⟩
  have hz := Stp.refl I_a w_f
  apply go
  obtain rfl := Option.some.inj h
  exact ⟨rfl, hp.ch⟩

end Go.Proofs.YtepadjfmcbjkmaaGreatDoor

namespace Go.Proofs.YtepadjfmcbjkmaaGreatDoor
open Go Go.Proofs.YtepadjfmcbjkmaaGreatDoor.Gw Go.RowKit
set_option linter.unusedVariables false
attribute [local irreducible] Ev EvQ EvS EvH
def strconv_FormatUint_S (f : Int → Int → Option ByteArray) : Prop := ∀ (w0 : World) (I0 : Nat → Prop) (tb : Tb w0 I0 4 .u64 pow10) (x_0 : Int) (x_1 : Int) (hI : ∀ g, I0 g → g < w0.heap.size) (r : ByteArray), f x_0 x_1 = some r →
    Ret Tryz.prog 96 #[(.int .u64 x_0), (.int .i64 x_1)] w0 fun v w1 => v = (.string r) ∧ Ch [] w0 w1

open Go.Sort in
theorem fmt_zero (w : World) (nd : Nat) (hs : nd ≤ 24) : Holds (fun (b : UInt8) => Value.int .u8 (b.toNat : Int)) (w.alloc (.cells Lib.zeros24 135)) w.heap.size 0 (Array.replicate nd (0 : UInt8)) := fun j hj => by
  have hj' : j < nd := by simpa using hj
  refine ⟨?_, World.frozen?_alloc_new _ _ _ _⟩
  rw [World.cell?_alloc_new, Lib.zeros24_at _ (by omega), getElem!_pos _ j hj]
  simp
open Go.Sort in
theorem fmt_below (w : World) (o : Obj) (dk : Array UInt8) (k : Nat) : Below w.heap.size w ((putRow (fun (b : UInt8) => Value.int .u8 (b.toNat : Int)) (w.alloc o) w.heap.size 0 dk).drewN k) := by
  have h1 : Below w.heap.size w (putRow (fun (b : UInt8) => Value.int .u8 (b.toNat : Int)) (w.alloc o) w.heap.size 0 dk) := by
    refine ⟨rfl, rfl, rfl, by rw [size_putRow]; exact (Below.alloc (Below.refl w.heap.size w) (Nat.le_refl _) o).size, fun g hg => ?_⟩
    rw [← Below.heap_alloc w o g hg]
    unfold putRow mapBlock
    dsimp only
    rw [Array.getElem?_modify, if_neg (by omega)]
  refine ⟨?_, ?_, ?_, ?_, ?_⟩
  · exact h1.os
  · exact h1.tape
  · exact h1.output
  · exact h1.size
  · exact h1.block
set_option maxHeartbeats 6400000 in
set_option maxRecDepth 100000 in
theorem fmt_big (u : Nat) (h100 : 100 ≤ u) (hu64 : u < 18446744073709551616) (w : World) (htab : Lib.TabIs Tryz.prog w "internal/strconv.uint64pow10" .u64 Lib.pow10Tab) :
    Calls Tryz.prog 125 #[.int .u64 u, .int .i64 10] w fun e w' => e = .returned (.string ⟨(Lib.decDigits u).toArray⟩) ∧ Below w.heap.size w w' := by
  have hu1 : 1 ≤ u := by omega
  have hnd20 : Lib.nDigits u ≤ 20 := by have := Lib.numDigits_eq u hu1 hu64; split at this <;> omega
  have hb3 : Lib.nDigits u ≤ 24 := by omega
  have hal : Tryz.prog.arrayLen 135 = 24 := by simp [Program.arrayLen, Tryz.underlying135]
  have hsl : ∀ W, (Instr.sliceAt 135 (.pointer (some ⟨w.heap.size, 0, none⟩)) none (some (.int .i64 (Lib.nDigits u : Int))) none).run Tryz.prog W = .ok (.slice (some ⟨w.heap.size, 0, none⟩) (Lib.nDigits u) 24) W := fun W => by
    rw [run_sliceAt_array_h W 135 ⟨w.heap.size, 0, none⟩ (by simp [Program.arrayLen, Program.elem, Tryz.underlying135]) .i64 (Lib.nDigits u : Int) (by omega) (by rw [hal]; omega)]
    go_simp
  have hH0 := fmt_zero w (Lib.nDigits u) (by omega)
  have hfmt := sh_internal_strconv_formatBase10 w.heap.size 0 24 u (Array.replicate (Lib.nDigits u) 0) (w.alloc (.cells Lib.zeros24 135)) hH0 (by rw [Array.size_replicate]; exact Lib.lt_pow_nDigits u) hu64 (by rw [Array.size_replicate]; omega)
  rw [Array.size_replicate] at hfmt
  have HH0 := Lib.hid hH0
  clear hH0 hal
  go_enter Tryz.func125, Tryz.ntmps125
  go_wp2_with (first
    | (go_at_call 150; refine (sh_internal_strconv_numDigits u hu1 hu64 _ (Lib.tabIs_alloc htab _)).mono ?_; rintro e w' ⟨rfl, rfl⟩))
  go_at_call 151
  refine hfmt.mono ?_
  rintro e w' ⟨rfl, k, v', dk, rfl, hF⟩
  have hcv : (convert 52 9 (.slice (some ⟨w.heap.size, 0, none⟩) (Lib.nDigits u) 24)).run Tryz.prog ((Go.Sort.putRow (fun (b : UInt8) => Value.int .u8 (b.toNat : Int)) (w.alloc (.cells Lib.zeros24 135)) w.heap.size 0 dk).drewN k) = .ok (.string ⟨(Lib.decDigits u).toArray⟩) ((Go.Sort.putRow (fun (b : UInt8) => Value.int .u8 (b.toNat : Int)) (w.alloc (.cells Lib.zeros24 135)) w.heap.size 0 dk).drewN k) := by
    have h := run_convert_bytes_back (P := Tryz.prog) ((Go.Sort.putRow (fun (b : UInt8) => Value.int .u8 (b.toNat : Int)) (w.alloc (.cells Lib.zeros24 135)) w.heap.size 0 dk).drewN k) 52 9 5 ⟨w.heap.size, 0, none⟩ 24 (Lib.decDigits u) Tryz.underlying52 Tryz.underlying5 Tryz.underlying9 (fun j hj => by
      rw [Lib.row_is_numeral hF j hj, Lib.add_plain, World.cell?_drewN]
      exact Go.Sort.cell?_putRow (fun (b : UInt8) => Value.int .u8 (b.toNat : Int)) _ w.heap.size 0 _ dk HH0.out (by rw [hF.size, Array.size_replicate]) j (by rw [hF.size]; rw [Lib.decDigits_length] at hj; exact hj))
    rw [Lib.decDigits_length] at h
    exact h
  go_wp2
  go_ret
  exact ⟨rfl, fmt_below w _ dk k⟩
theorem fmt_inner (u : Nat) (hu64 : u < 18446744073709551616) (w : World) (htab : Lib.TabIs Tryz.prog w "internal/strconv.uint64pow10" .u64 Lib.pow10Tab) :
    Calls Tryz.prog 125 #[.int .u64 u, .int .i64 10] w fun e w' => e = .returned (.string ⟨(Lib.decDigits u).toArray⟩) ∧ Below w.heap.size w w' := by
  by_cases h100 : u < 100
  · go_enter Tryz.func125, Tryz.ntmps125
    go_wp2_with (first
      | (go_at_call 149; refine (sh_internal_strconv_small u h100 _).mono ?_; rintro e w' ⟨rfl, rfl⟩))
    go_ret
    exact ⟨rfl, Below.refl _ _⟩
  · exact fmt_big u (by omega) hu64 w htab
theorem strconv_FormatUint_ok (n : Nat) : strconv_FormatUint_S (strconv_FormatUint n) := by
  intro w0 I0 tb x b hI r h
  obtain ⟨rfl, ⟨u, rfl, hu⟩, rfl⟩ := fmtU_some h
  have htab : Lib.TabIs Tryz.prog w0 "internal/strconv.uint64pow10" .u64 Lib.pow10Tab := tb.tab (zs := Lib.pow10Tab) (by kernel_rfl)
  apply ret_below
  go_enter Tryz.func96, Tryz.ntmps96
  go_wp2_with (first
    | (go_at_call 125; refine (fmt_inner u hu _ htab).mono ?_; rintro e w' ⟨rfl, hb⟩))
  go_ret
  exact ⟨rfl, hb⟩

end Go.Proofs.YtepadjfmcbjkmaaGreatDoor

namespace Go.Proofs.YtepadjfmcbjkmaaGreatDoor
open Go Go.Proofs.YtepadjfmcbjkmaaGreatDoor.Gw Go.RowKit
set_option linter.unusedVariables false
attribute [local irreducible] Ev EvQ EvS EvH
end Go.Proofs.YtepadjfmcbjkmaaGreatDoor

namespace Go.Proofs.YtepadjfmcbjkmaaGreatDoor
open Go Go.Proofs.YtepadjfmcbjkmaaGreatDoor.Gw Go.RowKit
set_option linter.unusedVariables false
attribute [local irreducible] Ev EvQ EvS EvH
end Go.Proofs.YtepadjfmcbjkmaaGreatDoor

namespace Go.Proofs.YtepadjfmcbjkmaaGreatDoor
open Go Go.Proofs.YtepadjfmcbjkmaaGreatDoor.Gw Go.RowKit
set_option linter.unusedVariables false
attribute [local irreducible] Ev EvQ EvS EvH
end Go.Proofs.YtepadjfmcbjkmaaGreatDoor

namespace Go.Proofs.YtepadjfmcbjkmaaGreatDoor
open Go Go.Proofs.YtepadjfmcbjkmaaGreatDoor.Gw Go.RowKit
set_option linter.unusedVariables false
attribute [local irreducible] Ev EvQ EvS EvH
def stringslite_HasPrefix_S (f : ByteArray → ByteArray → Option Bool) : Prop := ∀ (w0 : World) (I0 : Nat → Prop) (x_0 : ByteArray) (x_1 : ByteArray) (hI : ∀ g, I0 g → g < w0.heap.size) (r : Bool), f x_0 x_1 = some r →
    Ret Tryz.prog 138 #[(.string x_0), (.string x_1)] w0 fun v w1 => v = (.bool r) ∧ Ch [] w0 w1
theorem stringslite_HasPrefix_ok (n : Nat) : stringslite_HasPrefix_S (stringslite_HasPrefix n) := by
  intro w0 I0 x_0 x_1 hI r h
  unfold stringslite_HasPrefix at h
  refine enter Tryz.func138 rfl (Nat.le_of_ble_eq_true rfl) ?_
  have hp : Hp ⟨w0, I0, []⟩ I0 [] w0 := Hp.start hI
  apply go
  apply go
  obtain ⟨y_2, q_3, h⟩ := bind_some h
  refine W.cut (γ := Bool) (fun g => [(4, (.bool (g)))]) (fun g w' => y_2 = (g) ∧ w0 = w') ?_ ?_
  ·
    apply go
    refine ev0 (rn_lenS rfl rfl Tryz.underlying9) ?_
    refine ev0 (rn_lenS rfl rfl Tryz.underlying9) ?_
    refine sel_of (fun hc => ?_) (fun hc => ?_)
    ·
      have q_3 := cond_t q_3 hc
      refine ev0 (rn_lenS rfl rfl Tryz.underlying9) ?_
      obtain ⟨x_4, q_5, q_3⟩ := bind_some q_3
      refine ev0 (rn_sliceStr (kl := .i64) (kh := .i64) rfl rfl rfl rfl Tryz.underlying9 q_5) ?_
      obtain rfl := Option.some.inj q_3
      exact ⟨(x_4.toList == x_1.toList), (.c rfl .n), rfl, rfl⟩
    ·
      have q_3 := cond_f q_3 hc
      obtain rfl := Option.some.inj q_3
      exact ⟨false, (.c rfl .n), rfl, rfl⟩
  ·
    rintro x_6 _ ⟨hy, rfl⟩
    replace hy := hy.symm
    subst hy
    apply go
    obtain rfl := Option.some.inj h
    exact ⟨rfl, hp.ch⟩

end Go.Proofs.YtepadjfmcbjkmaaGreatDoor

namespace Go.Proofs.YtepadjfmcbjkmaaGreatDoor
open Go Go.Proofs.YtepadjfmcbjkmaaGreatDoor.Gw Go.RowKit
set_option linter.unusedVariables false
attribute [local irreducible] Ev EvQ EvS EvH
end Go.Proofs.YtepadjfmcbjkmaaGreatDoor

namespace Go.Proofs.YtepadjfmcbjkmaaGreatDoor
open Go Go.Proofs.YtepadjfmcbjkmaaGreatDoor.Gw Go.RowKit
set_option linter.unusedVariables false
attribute [local irreducible] Ev EvQ EvS EvH
def strings_Repeat_S (f : ByteArray → Int → Option ByteArray) : Prop := ∀ (w0 : World) (I0 : Nat → Prop) (x_0 : ByteArray) (x_1 : Int) (hI : ∀ g, I0 g → g < w0.heap.size) (r : ByteArray), f x_0 x_1 = some r →
    Ret Tryz.prog 97 #[(.string x_0), (.int .i64 x_1)] w0 fun v w1 => v = (.string r) ∧ Ch [] w0 w1

theorem strings_Repeat_ok (n : Nat) : strings_Repeat_S (strings_Repeat n) := by
  intro w0 I0 s c hI r h
  obtain ⟨⟨k, rfl, hk⟩, hs, rfl⟩ := repS_some h
  have hm : s.size * k ≤ 1000000 * 1000000 := Nat.mul_le_mul hs hk
  exact ret_below (sh_strings_Repeat s k w0 (by omega) (by omega))

end Go.Proofs.YtepadjfmcbjkmaaGreatDoor

namespace Go.Proofs.YtepadjfmcbjkmaaGreatDoor
open Go Go.Proofs.YtepadjfmcbjkmaaGreatDoor.Gw Go.RowKit
set_option linter.unusedVariables false
attribute [local irreducible] Ev EvQ EvS EvH vch
def slices_Reversestring_string__S (f : (List ByteArray) → Option (List ByteArray)) : Prop := ∀ (w0 : World) (I0 : Nat → Prop) (x_0 : (List ByteArray)) (v_1 : Value) (e_2 : Ent) (o_3 : OwnS dS 9 w0 I0 v_1 e_2 x_0) (hp : Hp ⟨w0, I0, (blk e_2)⟩ I0 [e_2] w0) (r : (List ByteArray)), f x_0 = some r →
    Ret Tryz.prog 98 #[v_1] w0 fun v w1 => ∃ (I1 : Nat → Prop) (u_4 : Ent), v = (.tuple #[]) ∧ Hp ⟨w0, I0, (blk e_2)⟩ I1 [u_4] w1 ∧ OwnS dS 9 w1 I1 v_1 u_4 r ∧ blk u_4 = blk e_2
theorem slices_Reversestring_string__ok (n : Nat) : slices_Reversestring_string__S (slices_Reversestring_string_ n) := by
  intro w0 I0 x_0 v_1 e_2 o_3 hp r h
  unfold slices_Reversestring_string_ at h
  refine enter Tryz.func98 rfl (Nat.le_of_ble_eq_true rfl) ?_
  have o17547z := o_3
  apply go
  apply go
  refine ev0 (x_lenO rfl rfl Tryz.underlying90 o_3) ?_
  apply go
  refine W.loop h (γ := Ent) (fun s g => [(0, v_1), (2, (.int .i64 (s.2.1))), (3, (.int .i64 (s.2.2)))]) (fun s g w' => Hp ⟨w0, I0, (blk e_2)⟩ I0 [(g)] w' ∧ OwnS dS 9 w' I0 v_1 (g) (s.1)) e_2 (.c rfl (.c rfl (.c rfl .n))) ⟨hp, o_3⟩ ?_
  rintro ⟨x_4, x_5, x_6⟩ e_7 w_8 y_9 ⟨hp, o_a⟩ q_b q_c
  unfold slices_Reversestring_string__L0 at q_b
  apply go
  apply go
  apply go
  apply go
  refine sel_of (fun hc => ?_) (fun hc => ?_)
  ·
    have q_b := cond_t q_b hc
    apply go
    obtain ⟨y_d, q_e, q_b⟩ := bind_some q_b
    refine W.cut (γ := ((List ByteArray) × Ent)) (fun g => [(0, v_1), (2, (.int .i64 x_5)), (3, (.int .i64 x_6))]) (fun g w' => y_d = (g.1) ∧ Hp ⟨w0, I0, (blk e_2)⟩ I0 [(g.2)] w' ∧ OwnS dS 9 w' I0 v_1 (g.2) (g.1)) ?_ ?_
    ·
      apply go
      have hs := hp.stp (Ch.drew [] w_8)
      have hp := hp.drew
      replace o_a := o_a.step hs
      refine W.heldG (.q 0 (.q 1 (.q 2 (.q 3 (.q 4 (.q 5 (.q 6 (.q 8 (.q 9 (.q 10 (.l 7 (.l 11 (.q 12 (.l 13 (.q 14 (.l 15 .done .no)) .no)) .no) (.l 11 (.l 7 (.q 12 (.l 13 (.q 14 (.l 15 .done .no)) .no)) .no) .no)))))))))))) (SK (Stp I0 w_8.drew I0) [] []) MX (by kernel_rfl) ⟨Stp.refl _ _, kp_nil⟩ ?_
      have hz := Stp.refl I0 w_8.drew
      refine ⟨SK.same (by kernel_rfl), ?_⟩
      refine ⟨SK.same (by kernel_rfl), ?_⟩
      refine ⟨SK.same (by kernel_rfl), ?_⟩
      refine ⟨SK.same (by kernel_rfl), ?_⟩
      refine ⟨SK.same (by kernel_rfl), ?_⟩
      refine ⟨SK.same (by kernel_rfl), ?_⟩
      refine ⟨SK.same (by kernel_rfl), ?_⟩
      obtain ⟨x_f, q_g, q_e⟩ := bind_some q_e
      refine evh_indexO rfl rfl rfl Tryz.underlying90 T9 o_a q_g ?_
      intro g_h c_i h_j d_k l_l
      refine ⟨SK.same (by kernel_rfl), ?_⟩
      refine ⟨SK.same (by kernel_rfl), ?_⟩
      refine ⟨SK.same (by kernel_rfl), ?_⟩
      obtain ⟨x_m, q_n, q_e⟩ := bind_some q_e
      refine evh_indexO rfl rfl rfl Tryz.underlying90 T9 o_a q_n ?_
      intro g_o c_p h_q d_r l_s
      refine ⟨?_, ?_⟩
      ·
        refine ev (rn_load rfl rfl (run_loadVar1 T9 (hp.cellE (i := 0) rfl h_j d_k (j := 0) rfl))) ?_
        refine ⟨SK (Stp I0 w_8.drew I0) [] [], ⟨Stp.refl _ _, kp_nil⟩, fun L x h => ⟨hz.held h.1, h.2⟩, ?_⟩
        have hz := Stp.refl I0 w_8.drew
        refine ⟨?_, trivial⟩
        refine ev (rn_load rfl rfl (run_loadVar1 T9 (hp.cellE (i := 0) rfl h_q d_r (j := 0) rfl))) ?_
        refine ⟨SK (Stp I0 w_8.drew I0) [] [], ⟨Stp.refl _ _, kp_nil⟩, fun L x h => ⟨hz.held h.1, h.2⟩, ?_⟩
        have hz := Stp.refl I0 w_8.drew
        refine ⟨SK.same (by kernel_rfl), ?_⟩
        obtain ⟨x_t, q_u, q_e⟩ := bind_some q_e
        refine evh_indexO rfl rfl rfl Tryz.underlying90 T9 o_a q_u ?_
        intro g_v c_w h_x d_y l_z
        refine ⟨?_, trivial⟩
        refine ev_storeE hp (i := 0) rfl h_x rfl rfl rfl T9 o_a q_u (x0 := x_f) rfl ?_
        intro e_10 w_11 hp hs o_12
        replace hz := hz.trans hs
        refine ⟨SK (Stp I0 w_11 I0) [] [], ⟨Stp.refl _ _, kp_nil⟩, fun L x h => ⟨hz.held h.1, h.2⟩, ?_⟩
        have hz := Stp.refl I0 w_11
        refine ⟨SK.same (by kernel_rfl), ?_⟩
        obtain ⟨x_13, q_14, q_e⟩ := bind_some q_e
        refine evh_indexO rfl rfl rfl Tryz.underlying90 T9 o_12 q_14 ?_
        intro g_15 c_16 h_17 d_18 l_19
        refine ⟨?_, trivial⟩
        refine ev_storeE hp (i := 0) rfl h_17 rfl rfl rfl T9 o_12 q_14 (x0 := x_m) rfl ?_
        intro e_1a w_1b hp hs o_1c
        replace hz := hz.trans hs
        refine ⟨SK (Stp I0 w_1b I0) [] [], ⟨Stp.refl _ _, kp_nil⟩, fun L x h => ⟨hz.held h.1, h.2⟩, ?_⟩
        have hz := Stp.refl I0 w_1b
        obtain rfl := Option.some.inj q_e
        exact ⟨((upd (upd x_4 x_5 x_f) x_6 x_m), e_1a), (.c rfl (.c rfl (.c rfl .n))), rfl, hp, o_1c⟩
      refine ⟨?_, trivial⟩
      refine ev (rn_load rfl rfl (run_loadVar1 T9 (hp.cellE (i := 0) rfl h_q d_r (j := 0) rfl))) ?_
      refine ⟨SK (Stp I0 w_8.drew I0) [] [], ⟨Stp.refl _ _, kp_nil⟩, fun L x h => ⟨hz.held h.1, h.2⟩, ?_⟩
      have hz := Stp.refl I0 w_8.drew
      refine ⟨?_, trivial⟩
      refine ev (rn_load rfl rfl (run_loadVar1 T9 (hp.cellE (i := 0) rfl h_j d_k (j := 0) rfl))) ?_
      refine ⟨SK (Stp I0 w_8.drew I0) [] [], ⟨Stp.refl _ _, kp_nil⟩, fun L x h => ⟨hz.held h.1, h.2⟩, ?_⟩
      have hz := Stp.refl I0 w_8.drew
      refine ⟨SK.same (by kernel_rfl), ?_⟩
      obtain ⟨x_1d, q_1e, q_e⟩ := bind_some q_e
      refine evh_indexO rfl rfl rfl Tryz.underlying90 T9 o_a q_1e ?_
      intro g_1f c_1g h_1h d_1i l_1j
      refine ⟨?_, trivial⟩
      refine ev_storeE hp (i := 0) rfl h_1h rfl rfl rfl T9 o_a q_1e (x0 := x_f) rfl ?_
      intro e_1k w_1l hp hs o_1m
      replace hz := hz.trans hs
      refine ⟨SK (Stp I0 w_1l I0) [] [], ⟨Stp.refl _ _, kp_nil⟩, fun L x h => ⟨hz.held h.1, h.2⟩, ?_⟩
      have hz := Stp.refl I0 w_1l
      refine ⟨SK.same (by kernel_rfl), ?_⟩
      obtain ⟨x_1n, q_1o, q_e⟩ := bind_some q_e
      refine evh_indexO rfl rfl rfl Tryz.underlying90 T9 o_1m q_1o ?_
      intro g_1p c_1q h_1r d_1s l_1t
      refine ⟨?_, trivial⟩
      refine ev_storeE hp (i := 0) rfl h_1r rfl rfl rfl T9 o_1m q_1o (x0 := x_m) rfl ?_
      intro e_1u w_1v hp hs o_1w
      replace hz := hz.trans hs
      refine ⟨SK (Stp I0 w_1v I0) [] [], ⟨Stp.refl _ _, kp_nil⟩, fun L x h => ⟨hz.held h.1, h.2⟩, ?_⟩
      have hz := Stp.refl I0 w_1v
      obtain rfl := Option.some.inj q_e
      exact ⟨((upd (upd x_4 x_5 x_f) x_6 x_m), e_1u), (.c rfl (.c rfl (.c rfl .n))), rfl, hp, o_1w⟩
    ·
      rintro ⟨x_1x, e_1y⟩ w_1z ⟨hy, hp, o_20⟩
      replace hy := hy.symm
      subst hy
      apply go
      exact ⟨_, (Option.some.inj q_b).symm, e_1y, (.c rfl (.c rfl (.c rfl .n))), ⟨hp, o_20⟩⟩
  ·
    have q_b := cond_f q_b hc
    apply go
    have q_21 := congrArg some (q_c _ (Option.some.inj q_b).symm)
    obtain rfl := Option.some.inj q_21
    exact ⟨I0, e_7, rfl, hp, o_a, (OwnS.blk o17547z o_a)⟩

end Go.Proofs.YtepadjfmcbjkmaaGreatDoor

namespace Go.Proofs.YtepadjfmcbjkmaaGreatDoor
open Go Go.Proofs.YtepadjfmcbjkmaaGreatDoor.Gw Go.RowKit
set_option linter.unusedVariables false
attribute [local irreducible] Ev EvQ EvS EvH
def strings_Join_S (f : (List ByteArray) → ByteArray → Option ByteArray) : Prop := ∀ (w0 : World) (I0 : Nat → Prop) (x_0 : (List ByteArray)) (v_1 : Value) (r_2 : RepS dS w0 I0 v_1 x_0) (x_3 : ByteArray) (hI : ∀ g, I0 g → g < w0.heap.size) (r : ByteArray), f x_0 x_3 = some r →
    Ret Tryz.prog 99 #[v_1, (.string x_3)] w0 fun v w1 => v = (.string r) ∧ Ch [] w0 w1

theorem strings_Join_ok (n : Nat) : strings_Join_S (strings_Join n) := by
  intro w0 I0 xs v hr sep hI r h
  obtain ⟨hN, hL, rfl⟩ := joinS_some h
  rcases Nat.eq_zero_or_pos xs.length with h0 | h0
  · obtain rfl := List.eq_nil_of_length_eq_zero h0
    obtain ⟨a, c, rfl, _, _⟩ := hr
    exact ret_same (sh_strings_Join_none a c sep w0)
  · obtain ⟨b, o, c, rfl, hc, hb, hcells⟩ := hr.strs h0
    exact ret_below (sh_strings_Join b o c xs sep w0 hcells (hI b hb) hN hc hL)

end Go.Proofs.YtepadjfmcbjkmaaGreatDoor
