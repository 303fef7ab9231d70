/-
  Each function of the program computes the plain function of its name.
-/
import Derived.Test.YtepadjfmcbjkmaaGreatDoorFactsA
import Derived.Lib.Walk
import Derived.BigCall
import Derived.BigGuard
import Derived.Test.YtepadjfmcbjkmaaGreatDoorCoreA
namespace Go.Proofs.YtepadjfmcbjkmaaGreatDoor
open Go Go.Proofs.YtepadjfmcbjkmaaGreatDoor.Gw Go.RowKit
set_option linter.unusedVariables false
attribute [local irreducible] Ev EvQ EvS EvH
def integer_trim_S (f : (List Int) → Option (List Int)) : Prop := ∀ (w0 : World) (I0 : Nat → Prop) (x1 : (List Int)) (v2 : Value) (r3 : RepS (dI .u32) w0 I0 v2 x1) (hI : ∀ g, I0 g → g < w0.heap.size) (r : (List Int)), f x1 = some r →
    Ret Tryz.prog 72 #[v2] w0 fun v w1 => ∃ (I1 : Nat → Prop) (u4 : Value), v = u4 ∧ Hp ⟨w0, I0, []⟩ I1 [] w1 ∧ RepS (dI .u32) w1 I1 u4 r
theorem integer_trim_ok (n : Nat) : integer_trim_S (integer_trim n) := by
  intro w0 I0 x1 v2 r3 hI r h
  unfold integer_trim at h
  refine enter Tryz.func72 rfl (Nat.le_of_ble_eq_true rfl) ?_
  have hp : Hp ⟨w0, I0, []⟩ I0 [] w0 := Hp.start hI
  apply go
  apply go
  obtain ⟨y75, q76, h⟩ := bind_some h
  refine W.cut (γ := ((List Int) × Value)) (fun g => [(0, (g.2))]) (fun g w' => y75 = (g.1) ∧ w0 = w' ∧ RepS (dI .u32) w' I0 (g.2) (g.1)) ?_ ?_
  ·
    apply go
    refine W.loop q76 (γ := Value) (fun s g => [(0, (g))]) (fun s g w' => w0 = w' ∧ RepS (dI .u32) w' I0 (g) (s)) v2 (.c rfl .n) ⟨rfl, r3⟩ ?_
    rintro x96 v97 _ y121 ⟨rfl, r98⟩ q122 q123
    unfold integer_trim_L1 at q122
    apply go
    obtain ⟨y131, q132, q122⟩ := bind_some q122
    refine W.cut (γ := Bool) (fun g => [(0, v97), (14, (.bool (g)))]) (fun g w' => y131 = (g) ∧ w0 = w') ?_ ?_
    ·
      apply go
      refine ev0 (rn_len rfl rfl Tryz.underlying22 r98) ?_
      refine sel_of (fun hc => ?_) (fun hc => ?_)
      ·
        have q132 := cond_t q132 hc
        refine ev0 (rn_len rfl rfl Tryz.underlying22 r98) ?_
        obtain ⟨x133, q134, q132⟩ := bind_some q132
        refine ev_index rfl rfl rfl Tryz.underlying22 T46 r98 q134 ?_
        intro p135 c136 d137 a138
        obtain rfl : c136 = [(.int .u32 x133)] := d137
        refine ev (rn_load rfl rfl (run_loadVar1 T46 (a138.2 0 _ rfl))) ?_
        obtain rfl := Option.some.inj q132
        exact ⟨(x133 == 0), (.c rfl (.c rfl .n)), rfl, rfl⟩
      ·
        have q132 := cond_f q132 hc
        obtain rfl := Option.some.inj q132
        exact ⟨false, (.c rfl (.c rfl .n)), rfl, rfl⟩
    ·
      rintro x130 _ ⟨hy, rfl⟩
      replace hy := hy.symm
      subst hy
      apply go
      refine sel_of (fun hc => ?_) (fun hc => ?_)
      ·
        have q122 := cond_t q122 hc
        apply go
        apply go
        apply go
        refine ev0 (rn_len rfl rfl Tryz.underlying22 r98) ?_
        obtain ⟨x139, q140, q122⟩ := bind_some q122
        refine ev_slice (kl := .i64) (kh := .i64) rfl rfl rfl rfl Tryz.underlying22 T46 r98 q140 ?_
        intro v141 r142
        exact ⟨_, (Option.some.inj q122).symm, v141, (.c rfl .n), ⟨rfl, r142⟩⟩
      ·
        have q122 := cond_f q122 hc
        apply go
        have q143 := congrArg some (q123 _ (Option.some.inj q122).symm)
        obtain rfl := Option.some.inj q143
        exact ⟨(x96, v97), (.c rfl .n), rfl, rfl, r98⟩
  ·
    rintro ⟨x72, v73⟩ _ ⟨hy, rfl, r74⟩
    replace hy := hy.symm
    subst hy
    apply go
    apply go
    apply go
    obtain rfl := Option.some.inj h
    exact ⟨I0, v73, rfl, hp, r74⟩

end Go.Proofs.YtepadjfmcbjkmaaGreatDoor

namespace Go.Proofs.YtepadjfmcbjkmaaGreatDoor
open Go Go.Proofs.YtepadjfmcbjkmaaGreatDoor.Gw Go.RowKit
set_option linter.unusedVariables false
attribute [local irreducible] Ev EvQ EvS EvH
def integer_Sign_S (f : Int_2 → Option Int) : Prop := ∀ (w0 : World) (I0 : Nat → Prop) (x181 : Int_2) (v182 : Value) (r183 : RepS (dI .u32) w0 I0 v182 x181.Mag) (hI : ∀ g, I0 g → g < w0.heap.size) (r : Int), f x181 = some r →
    Ret Tryz.prog 39 #[(.agg #[(.bool x181.Neg), v182])] w0 fun v w1 => v = (.int .i64 r) ∧ Ch [] w0 w1
theorem integer_Sign_ok (n : Nat) : integer_Sign_S (integer_Sign n) := by
  intro w0 I0 x181 v182 r183 hI r h
  unfold integer_Sign at h
  refine enter Tryz.func39 rfl (Nat.le_of_ble_eq_true rfl) ?_
  have hp : Hp ⟨w0, I0, []⟩ I0 [] w0 := Hp.start hI
  apply go
  apply go
  refine ev_boxI hp rfl rfl ?_
  intro p186 I187 w185 hp hs a188
  replace r183 := r183.step hs
  apply go
  apply go
  apply go
  apply go
  refine ev0 (rn_field rfl rfl FO24_1) ?_
  refine ev (rn_load rfl rfl (run_loadVar1 T22 (a188.2 1 _ rfl))) ?_
  obtain ⟨x189, q190, h⟩ := bind_some h
  refine ev_call rfl rfl C72 (((integer_trim_ok n) _ _  x181.Mag v182 r183 hp.imm _ q190).mono ?_)
  rintro _ w191 ⟨I192, v193, hv, hq, r194⟩
  replace hv := hv.symm
  subst hv
  have hs := hq.st
  have hp := hp.join0 hq
  replace a188 := a188.step hs
  replace r183 := r183.step hs
  refine ev0 (rn_len rfl rfl Tryz.underlying22 r194) ?_
  apply go
  refine sel_of (fun hc => ?_) (fun hc => ?_)
  ·
    have h := cond_t h hc
    apply go
    apply go
    apply go
    obtain rfl := Option.some.inj h
    exact ⟨rfl, hp.ch⟩
  ·
    have h := cond_f h hc
    apply go
    apply go
    refine ev0 (rn_field rfl rfl FO24_0) ?_
    refine ev (rn_load rfl rfl (run_loadVar1 T4 (a188.2 0 _ rfl))) ?_
    apply go
    refine sel_of (fun hc => ?_) (fun hc => ?_)
    ·
      have h := cond_t h hc
      apply go
      apply go
      apply go
      obtain rfl := Option.some.inj h
      exact ⟨rfl, hp.ch⟩
    ·
      have h := cond_f h hc
      apply go
      apply go
      apply go
      apply go
      obtain rfl := Option.some.inj h
      exact ⟨rfl, hp.ch⟩

end Go.Proofs.YtepadjfmcbjkmaaGreatDoor

namespace Go.Proofs.YtepadjfmcbjkmaaGreatDoor
open Go Go.Proofs.YtepadjfmcbjkmaaGreatDoor.Gw Go.RowKit
set_option linter.unusedVariables false
attribute [local irreducible] Ev EvQ EvS EvH
def integer_compare_S (f : (List Int) → (List Int) → Option Int) : Prop := ∀ (w0 : World) (I0 : Nat → Prop) (x291 : (List Int)) (v292 : Value) (r293 : RepS (dI .u32) w0 I0 v292 x291) (x294 : (List Int)) (v295 : Value) (r296 : RepS (dI .u32) w0 I0 v295 x294) (hI : ∀ g, I0 g → g < w0.heap.size) (r : Int), f x291 x294 = some r →
    Ret Tryz.prog 79 #[v292, v295] w0 fun v w1 => v = (.int .i64 r) ∧ Ch [] w0 w1
theorem integer_compare_ok (n : Nat) : integer_compare_S (integer_compare n) := by
  intro w0 I0 x291 v292 r293 x294 v295 r296 hI r h
  unfold integer_compare at h
  refine enter Tryz.func79 rfl (Nat.le_of_ble_eq_true rfl) ?_
  have hp : Hp ⟨w0, I0, []⟩ I0 [] w0 := Hp.start hI
  apply go
  apply go
  apply go
  apply go
  apply go
  refine ev0 (rn_len rfl rfl Tryz.underlying22 r293) ?_
  refine ev0 (rn_len rfl rfl Tryz.underlying22 r296) ?_
  apply go
  refine sel_of (fun hc => ?_) (fun hc => ?_)
  ·
    have h := cond_t h hc
    apply go
    apply go
    apply go
    refine ev0 (rn_len rfl rfl Tryz.underlying22 r293) ?_
    refine ev0 (rn_len rfl rfl Tryz.underlying22 r296) ?_
    apply go
    refine sel_of (fun hc => ?_) (fun hc => ?_)
    ·
      have h := cond_t h hc
      apply go
      apply go
      apply go
      obtain rfl := Option.some.inj h
      exact ⟨rfl, hp.ch⟩
    ·
      have h := cond_f h hc
      apply go
      apply go
      apply go
      apply go
      obtain rfl := Option.some.inj h
      exact ⟨rfl, hp.ch⟩
  ·
    have h := cond_f h hc
    apply go
    obtain ⟨y385, q386, h⟩ := bind_some h
    refine W.cut (γ := Unit) (fun _ => []) (fun _ w' => y385 = .go () ∧ Hp ⟨w0, I0, []⟩ I0 [] w') ?_ ?_
    ·
      apply go
      apply go
      refine ev0 (rn_len rfl rfl Tryz.underlying22 r293) ?_
      apply go
      refine W.loop q386 (γ := Unit) (fun s _ => [(0, v292), (1, v295), (5, (.int .i64 (s)))]) (fun s _ w' => Hp ⟨w0, I0, []⟩ I0 [] w' ∧ RepS (dI .u32) w' I0 v292 x291 ∧ RepS (dI .u32) w' I0 v295 x294) () (.c rfl (.c rfl (.c rfl .n))) ⟨hp, r293, r296⟩ ?_
      rintro x413 ⟨⟩ w441 y442 ⟨hp, r293, r296⟩ q443 q444
      unfold integer_compare_L1 at q443
      apply go
      apply go
      apply go
      apply go
      refine sel_of (fun hc => ?_) (fun hc => ?_)
      ·
        have q443 := cond_t q443 hc
        apply go
        apply go
        apply go
        apply go
        refine W.quiet (fun w' => Ch [] w441 w') MX (by kernel_rfl) (Ch.drew [] w441) ?_
        obtain ⟨x445, q446, q443⟩ := bind_some q443
        refine evq_index rfl rfl rfl Tryz.underlying22 T46 r293 q446 ?_
        intro p447 c448 d449 a450
        obtain rfl : c448 = [(.int .u32 x445)] := d449
        refine evq (fun w' hw => rn_load rfl rfl (run_loadVar1 T46 ((a450.step (hp.stp hw)).2 0 _ rfl))) ?_
        obtain ⟨x451, q452, q443⟩ := bind_some q443
        refine evq_index rfl rfl rfl Tryz.underlying22 T46 r296 q452 ?_
        intro p453 c454 d455 a456
        obtain rfl : c454 = [(.int .u32 x451)] := d455
        refine evq (fun w' hw => rn_load rfl rfl (run_loadVar1 T46 ((a456.step (hp.stp hw)).2 0 _ rfl))) ?_
        intro w457 hc
        have hs := hp.stp hc
        replace hp := hp.ext hc
        replace r293 := r293.step hs
        replace r296 := r296.step hs
        apply go
        refine sel_of (fun hc => ?_) (fun hc => ?_)
        ·
          have q443 := cond_t q443 hc
          apply go
          apply go
          refine W.quiet (fun w' => Ch [] w457 w') MX (by kernel_rfl) (Ch.drew [] w457) ?_
          obtain ⟨x458, q459, q443⟩ := bind_some q443
          refine evq_index rfl rfl rfl Tryz.underlying22 T46 r293 q459 ?_
          intro p460 c461 d462 a463
          obtain rfl : c461 = [(.int .u32 x458)] := d462
          refine evq (fun w' hw => rn_load rfl rfl (run_loadVar1 T46 ((a463.step (hp.stp hw)).2 0 _ rfl))) ?_
          obtain ⟨x464, q465, q443⟩ := bind_some q443
          refine evq_index rfl rfl rfl Tryz.underlying22 T46 r296 q465 ?_
          intro p466 c467 d468 a469
          obtain rfl : c467 = [(.int .u32 x464)] := d468
          refine evq (fun w' hw => rn_load rfl rfl (run_loadVar1 T46 ((a469.step (hp.stp hw)).2 0 _ rfl))) ?_
          intro w470 hc
          have hs := hp.stp hc
          replace hp := hp.ext hc
          apply go
          refine sel_of (fun hc => ?_) (fun hc => ?_)
          ·
            have q443 := cond_t q443 hc
            apply go
            apply go
            apply go
            have q471 := congrArg some (q444 _ (Option.some.inj q443).symm)
            obtain rfl := Option.some.inj q471
            obtain rfl := Option.some.inj h
            exact ⟨rfl, hp.ch⟩
          ·
            have q443 := cond_f q443 hc
            apply go
            apply go
            apply go
            apply go
            have q472 := congrArg some (q444 _ (Option.some.inj q443).symm)
            obtain rfl := Option.some.inj q472
            obtain rfl := Option.some.inj h
            exact ⟨rfl, hp.ch⟩
        ·
          have q443 := cond_f q443 hc
          apply go
          apply go
          exact ⟨_, (Option.some.inj q443).symm, (), (.c rfl (.c rfl (.c rfl .n))), ⟨hp, r293, r296⟩⟩
      ·
        have q443 := cond_f q443 hc
        apply go
        have q473 := congrArg some (q444 _ (Option.some.inj q443).symm)
        obtain rfl := Option.some.inj q473
        exact ⟨(), .n, rfl, hp⟩
    ·
      rintro ⟨⟩ w384 ⟨hy, hp⟩
      replace hy := hy.symm
      subst hy
      apply go
      apply go
      apply go
      obtain rfl := Option.some.inj h
      exact ⟨rfl, hp.ch⟩

end Go.Proofs.YtepadjfmcbjkmaaGreatDoor

namespace Go.Proofs.YtepadjfmcbjkmaaGreatDoor
open Go Go.Proofs.YtepadjfmcbjkmaaGreatDoor.Gw Go.RowKit
set_option linter.unusedVariables false
attribute [local irreducible] Ev EvQ EvS EvH
def integer_made_S (f : Bool → (List Int) → Option Int_2) : Prop := ∀ (w0 : World) (I0 : Nat → Prop) (x144 : Bool) (x145 : (List Int)) (v146 : Value) (r147 : RepS (dI .u32) w0 I0 v146 x145) (hI : ∀ g, I0 g → g < w0.heap.size) (r : Int_2), f x144 x145 = some r →
    Ret Tryz.prog 80 #[(.bool x144), v146] w0 fun v w1 => ∃ (I1 : Nat → Prop) (u148 : Value), v = (.agg #[(.bool r.Neg), u148]) ∧ Hp ⟨w0, I0, []⟩ I1 [] w1 ∧ RepS (dI .u32) w1 I1 u148 r.Mag
theorem integer_made_ok (n : Nat) : integer_made_S (integer_made n) := by
  intro w0 I0 x144 x145 v146 r147 hI r h
  unfold integer_made at h
  refine enter Tryz.func80 rfl (Nat.le_of_ble_eq_true rfl) ?_
  have hp : Hp ⟨w0, I0, []⟩ I0 [] w0 := Hp.start hI
  apply go
  apply go
  refine ev_alloc hp rfl T24 ?_
  intro g149 w150 hp hs
  replace r147 := r147.step hs
  apply go
  apply go
  obtain ⟨x151, q152, h⟩ := bind_some h
  refine ev_call rfl rfl C72 (((integer_trim_ok n) _ _  x145 v146 r147 hp.imm _ q152).mono ?_)
  rintro _ w153 ⟨I154, v155, hv, hq, r156⟩
  replace hv := hv.symm
  subst hv
  have hs := hq.st
  have hp := hp.join0 hq
  apply go
  apply go
  apply go
  refine ev0 (rn_len rfl rfl Tryz.underlying22 r156) ?_
  apply go
  refine sel_of (fun hc => ?_) (fun hc => ?_)
  ·
    have h := cond_t h hc
    apply go
    apply go
    refine ev0 (fun w => rn_build (cs := [(.bool false), (.slice none 0 0)]) rfl rfl T24 PL24 rfl) ?_
    refine ev_storeA hp (i := 0) (off := 0) (vs := [(.bool false), (.slice none 0 0)]) rfl rfl rfl rfl T24 rfl (Nat.le_of_ble_eq_true rfl) (ones_of rfl) ?_
    intro w157 hp hs
    apply go
    obtain rfl := Option.some.inj h
    refine ⟨_, run_loadVarA T24 rfl (hp.at_ (i := 0) rfl), ?_⟩
    have hp := hp.sel [] (by decide)
    exact ⟨I154, .slice none 0 0, rfl, hp, RepS.nil _ _ _⟩
  ·
    have h := cond_f h hc
    apply go
    apply go
    apply go
    obtain ⟨A158, m159, m160, rfl⟩ := r156.isSl
    refine ev0 (fun w => rn_build (cs := [(.bool x144), (.slice A158 m159 m160)]) rfl rfl T24 PL24 rfl) ?_
    refine ev_storeA hp (i := 0) (off := 0) (vs := [(.bool x144), (.slice A158 m159 m160)]) rfl rfl rfl rfl T24 rfl (Nat.le_of_ble_eq_true rfl) (ones_cons rfl (ones_cons r156.one ones_nil)) ?_
    intro w162 hp hs
    replace r156 := r156.step hs
    apply go
    obtain rfl := Option.some.inj h
    refine ⟨_, run_loadVarA T24 rfl (hp.at_ (i := 0) rfl), ?_⟩
    have hp := hp.sel [] (by decide)
    exact ⟨I154, (.slice A158 m159 m160), rfl, hp, r156⟩

end Go.Proofs.YtepadjfmcbjkmaaGreatDoor

namespace Go.Proofs.YtepadjfmcbjkmaaGreatDoor
open Go Go.Proofs.YtepadjfmcbjkmaaGreatDoor.Gw Go.RowKit
set_option linter.unusedVariables false
attribute [local irreducible] Ev EvQ EvS EvH
def bits_Add32_S (f : Int → Int → Int → Option (Int × Int)) : Prop := ∀ (w0 : World) (I0 : Nat → Prop) (x993 : Int) (x994 : Int) (x995 : Int) (hI : ∀ g, I0 g → g < w0.heap.size) (r : (Int × Int)), f x993 x994 x995 = some r →
    Ret Tryz.prog 109 #[(.int .u32 x993), (.int .u32 x994), (.int .u32 x995)] w0 fun v w1 => v = (.tuple #[(.int .u32 r.1), (.int .u32 r.2)]) ∧ Ch [] w0 w1
theorem bits_Add32_ok (n : Nat) : bits_Add32_S (bits_Add32 n) := by
  intro w0 I0 x993 x994 x995 hI r h
  unfold bits_Add32 at h
  refine enter Tryz.func109 rfl (Nat.le_of_ble_eq_true rfl) ?_
  have hp : Hp ⟨w0, I0, []⟩ I0 [] w0 := Hp.start hI
  apply go
  apply go
  apply go
  apply go
  refine ev0 (rn_conv rfl rfl U46 Tryz.underlying75) ?_
  refine ev0 (rn_conv rfl rfl U46 Tryz.underlying75) ?_
  refine ev0 (rn_conv rfl rfl U46 Tryz.underlying75) ?_
  apply go
  apply go
  refine ev0 (rn_conv rfl rfl U75 Tryz.underlying46) ?_
  apply go
  apply go
  refine ⟨by decide, ?_⟩
  refine ev0 (rn_conv rfl rfl U75 Tryz.underlying46) ?_
  apply go
  obtain rfl := Option.some.inj h
  exact ⟨rfl, hp.ch⟩

end Go.Proofs.YtepadjfmcbjkmaaGreatDoor

namespace Go.Proofs.YtepadjfmcbjkmaaGreatDoor
open Go Go.Proofs.YtepadjfmcbjkmaaGreatDoor.Gw Go.RowKit
set_option linter.unusedVariables false
attribute [local irreducible] Ev EvQ EvS EvH
def integer_plus_S (f : (List Int) → (List Int) → Option (List Int)) : Prop := ∀ (w0 : World) (I0 : Nat → Prop) (x14457 : (List Int)) (v14458 : Value) (r14459 : RepS (dI .u32) w0 I0 v14458 x14457) (x14460 : (List Int)) (v14461 : Value) (r14462 : RepS (dI .u32) w0 I0 v14461 x14460) (hI : ∀ g, I0 g → g < w0.heap.size) (r : (List Int)), f x14457 x14460 = some r →
    Ret Tryz.prog 94 #[v14458, v14461] w0 fun v w1 => ∃ (I1 : Nat → Prop) (u14463 : Value), v = u14463 ∧ Hp ⟨w0, I0, []⟩ I1 [] w1 ∧ RepS (dI .u32) w1 I1 u14463 r
theorem integer_plus_ok (n : Nat) : integer_plus_S (integer_plus n) := by
  intro w0 I0 x14457 v14458 r14459 x14460 v14461 r14462 hI r h
  unfold integer_plus at h
  refine enter Tryz.func94 rfl (Nat.le_of_ble_eq_true rfl) ?_
  have hp : Hp ⟨w0, I0, []⟩ I0 [] w0 := Hp.start hI
  apply go
  apply go
  obtain ⟨y14470, q14471, h⟩ := bind_some h
  refine W.cut (γ := ((List Int) × (List Int) × Value × Value)) (fun g => [(0, (g.2.2.1)), (1, (g.2.2.2))]) (fun g w' => y14470 = ((g.1), (g.2.1)) ∧ w0 = w' ∧ RepS (dI .u32) w' I0 (g.2.2.1) (g.1) ∧ RepS (dI .u32) w' I0 (g.2.2.2) (g.2.1)) ?_ ?_
  ·
    apply go
    apply go
    refine ev0 (rn_len rfl rfl Tryz.underlying22 r14459) ?_
    refine ev0 (rn_len rfl rfl Tryz.underlying22 r14462) ?_
    apply go
    refine sel_of (fun hc => ?_) (fun hc => ?_)
    ·
      have q14471 := cond_t q14471 hc
      apply go
      obtain rfl := Option.some.inj q14471
      exact ⟨(x14460, x14457, v14461, v14458), (.c rfl (.c rfl .n)), rfl, rfl, r14462, r14459⟩
    ·
      have q14471 := cond_f q14471 hc
      apply go
      obtain rfl := Option.some.inj q14471
      exact ⟨(x14457, x14460, v14458, v14461), (.c rfl (.c rfl .n)), rfl, rfl, r14459, r14462⟩
  ·
    rintro ⟨x14464, x14467, v14465, v14468⟩ _ ⟨hy, rfl, r14466, r14469⟩
    replace hy := hy.symm
    subst hy
    apply go
    apply go
    refine ev0 (rn_len rfl rfl Tryz.underlying22 r14466) ?_
    obtain ⟨x14472, q14473, h⟩ := bind_some h
    refine ev_makeC (d := (dI .u32)) (x0 := 0) hp rfl rfl rfl Tryz.underlying22 T46 (fun _ _ => rfl) (Nat.le_of_ble_eq_true rfl) q14473 ?_
    intro v14474 e14475 w14476 hp hs o14477
    replace r14466 := r14466.step hs
    replace r14469 := r14469.step hs
    apply go
    apply go
    obtain ⟨y14609, q14610, h⟩ := bind_some h
    refine W.cut (γ := ((List Int) × Int × Value × Ent × (Nat → Prop))) (fun g => [(5, (g.2.2.1)), (6, (.int .u32 (g.2.1)))]) (fun g w' => y14609 = ((g.1), (g.2.1)) ∧ Hp ⟨w0, I0, []⟩ (g.2.2.2.2) [(g.2.2.2.1)] w' ∧ OwnS (dI .u32) 46 w' (g.2.2.2.2) (g.2.2.1) (g.2.2.2.1) (g.1)) ?_ ?_
    ·
      apply go
      apply go
      refine ev0 (rn_len rfl rfl Tryz.underlying22 r14466) ?_
      apply go
      refine W.loop q14610 (γ := (Value × Ent × (Nat → Prop))) (fun s g => [(1, v14468), (5, (g.1)), (6, (.int .u32 (s.2.1))), (22, v14465), (23, (.int .i64 (x14464.length : Int))), (24, (.int .i64 (s.2.2)))]) (fun s g w' => Hp ⟨w0, I0, []⟩ (g.2.2) [(g.2.1)] w' ∧ RepS (dI .u32) w' (g.2.2) v14468 x14467 ∧ OwnS (dI .u32) 46 w' (g.2.2) (g.1) (g.2.1) (s.1) ∧ RepS (dI .u32) w' (g.2.2) v14465 x14464) (v14474, e14475, I0) (.c rfl (.c rfl (.c rfl (.c rfl (.c rfl (.c rfl .n)))))) ⟨hp, r14469, o14477, r14466⟩ ?_
      rintro ⟨x14646, x14650, x14651⟩ ⟨v14647, e14648, I14652⟩ w14695 y14696 ⟨hp, r14469, o14649, r14466⟩ q14697 q14698
      unfold integer_plus_L1 at q14697
      apply go
      apply go
      apply go
      apply go
      refine sel_of (fun hc => ?_) (fun hc => ?_)
      ·
        have q14697 := cond_t q14697 hc
        apply go
        apply go
        apply go
        apply go
        apply go
        obtain ⟨x14699, q14700, q14697⟩ := bind_some q14697
        refine ev_index rfl rfl rfl Tryz.underlying22 T46 r14466 q14700 ?_
        intro p14701 c14702 d14703 a14704
        obtain rfl : c14702 = [(.int .u32 x14699)] := d14703
        refine ev (rn_load rfl rfl (run_loadVar1 T46 (a14704.2 0 _ rfl))) ?_
        apply go
        apply go
        obtain ⟨y14712, q14713, q14697⟩ := bind_some q14697
        refine W.cut (γ := Int) (fun g => [(1, v14468), (5, v14647), (6, (.int .u32 x14650)), (8, (.int .u32 x14699)), (9, (.int .u32 (g))), (22, v14465), (23, (.int .i64 (x14464.length : Int))), (24, (.int .i64 x14651))]) (fun g w' => y14712 = (g) ∧ w14695 = w') ?_ ?_
        ·
          apply go
          apply go
          refine ev0 (rn_len rfl rfl Tryz.underlying22 r14469) ?_
          apply go
          refine sel_of (fun hc => ?_) (fun hc => ?_)
          ·
            have q14713 := cond_t q14713 hc
            apply go
            obtain ⟨x14714, q14715, q14713⟩ := bind_some q14713
            refine ev_index rfl rfl rfl Tryz.underlying22 T46 r14469 q14715 ?_
            intro p14716 c14717 d14718 a14719
            obtain rfl : c14717 = [(.int .u32 x14714)] := d14718
            refine ev (rn_load rfl rfl (run_loadVar1 T46 (a14719.2 0 _ rfl))) ?_
            obtain rfl := Option.some.inj q14713
            exact ⟨x14714, (.c rfl (.c rfl (.c rfl (.c rfl (.c rfl (.c rfl (.c rfl (.c rfl .n)))))))), rfl, rfl⟩
          ·
            have q14713 := cond_f q14713 hc
            apply go
            obtain rfl := Option.some.inj q14713
            exact ⟨0, (.c rfl (.c rfl (.c rfl (.c rfl (.c rfl (.c rfl (.c rfl (.c rfl .n)))))))), rfl, rfl⟩
        ·
          rintro x14711 _ ⟨hy, rfl⟩
          replace hy := hy.symm
          subst hy
          apply go
          apply go
          apply go
          apply go
          obtain ⟨⟨x14720, x14721⟩, q14722, q14697⟩ := bind_some q14697
          refine ev_call rfl rfl C109 (((bits_Add32_ok n) _ _  x14699 x14711 x14650 hp.imm _ q14722).mono ?_)
          rintro _ w14723 ⟨rfl, hc⟩
          have hs := hp.stp hc
          replace hp := hp.ext hc
          replace r14469 := r14469.step hs
          replace o14649 := o14649.step hs
          replace r14466 := r14466.step hs
          apply go
          refine ev_litN (d := (dI .u32)) (xs := [x14720]) (cs := [(.int .u32 x14720)]) hp rfl rfl Tryz.underlying22 T46 (by decide) rfl rfl (Elems.cons (d := (dI .u32)) (xs := _) rfl (Elems.nil _ _ _ _)) ?_
          intro v14724 I14726 w14725 hp hs r14727
          replace r14469 := r14469.step hs
          replace r14466 := r14466.step hs
          replace o14649 := o14649.step hs
          obtain ⟨x14728, q14729, q14697⟩ := bind_some q14697
          refine ev_append hp (i := 0) rfl rfl rfl rfl Tryz.underlying22 T46 rfl rfl o14649 r14727 q14729 ?_
          rintro v14730 e14731 w14732 hp hs o14733
          replace r14469 := r14469.step hs
          replace r14466 := r14466.step hs
          apply go
          exact ⟨_, (Option.some.inj q14697).symm, (v14730, e14731, I14726), (.c rfl (.c rfl (.c rfl (.c rfl (.c rfl (.c rfl .n)))))), ⟨hp, r14469, o14733, r14466⟩⟩
      ·
        have q14697 := cond_f q14697 hc
        apply go
        have q14734 := congrArg some (q14698 _ (Option.some.inj q14697).symm)
        obtain rfl := Option.some.inj q14734
        exact ⟨(x14646, x14650, v14647, e14648, I14652), (.c rfl (.c rfl .n)), rfl, hp, o14649⟩
    ·
      rintro ⟨x14602, x14606, v14603, e14604, I14607⟩ w14608 ⟨hy, hp, o14605⟩
      replace hy := hy.symm
      subst hy
      apply go
      apply go
      refine ev_litN (d := (dI .u32)) (xs := [x14606]) (cs := [(.int .u32 x14606)]) hp rfl rfl Tryz.underlying22 T46 (by decide) rfl rfl (Elems.cons (d := (dI .u32)) (xs := _) rfl (Elems.nil _ _ _ _)) ?_
      intro v14735 I14737 w14736 hp hs r14738
      replace o14605 := o14605.step hs
      obtain ⟨x14739, q14740, h⟩ := bind_some h
      refine ev_append hp (i := 0) rfl rfl rfl rfl Tryz.underlying22 T46 rfl rfl o14605 r14738 q14740 ?_
      rintro v14741 e14742 w14743 hp hs o14744
      apply go
      obtain rfl := Option.some.inj h
      have r14745 := o14744.frz hp (i := 0) rfl
      obtain ⟨hp, hs⟩ := freeze_hp hp (i := 0) rfl
      have hp := hp.sel [] (by decide)
      exact ⟨(Ad I14737 e14742), v14741, rfl, hp, r14745⟩

end Go.Proofs.YtepadjfmcbjkmaaGreatDoor

namespace Go.Proofs.YtepadjfmcbjkmaaGreatDoor
open Go Go.Proofs.YtepadjfmcbjkmaaGreatDoor.Gw Go.RowKit
set_option linter.unusedVariables false
attribute [local irreducible] Ev EvQ EvS EvH
def bits_Sub32_S (f : Int → Int → Int → Option (Int × Int)) : Prop := ∀ (w0 : World) (I0 : Nat → Prop) (x990 : Int) (x991 : Int) (x992 : Int) (hI : ∀ g, I0 g → g < w0.heap.size) (r : (Int × Int)), f x990 x991 x992 = some r →
    Ret Tryz.prog 108 #[(.int .u32 x990), (.int .u32 x991), (.int .u32 x992)] w0 fun v w1 => v = (.tuple #[(.int .u32 r.1), (.int .u32 r.2)]) ∧ Ch [] w0 w1
theorem bits_Sub32_ok (n : Nat) : bits_Sub32_S (bits_Sub32 n) := by
  intro w0 I0 x990 x991 x992 hI r h
  unfold bits_Sub32 at h
  refine enter Tryz.func108 rfl (Nat.le_of_ble_eq_true rfl) ?_
  have hp : Hp ⟨w0, I0, []⟩ I0 [] w0 := Hp.start hI
  apply go
  apply go
  apply go
  apply go
  apply go
  apply go
  refine ⟨by decide, ?_⟩
  apply go
  obtain rfl := Option.some.inj h
  exact ⟨rfl, hp.ch⟩

end Go.Proofs.YtepadjfmcbjkmaaGreatDoor

namespace Go.Proofs.YtepadjfmcbjkmaaGreatDoor
open Go Go.Proofs.YtepadjfmcbjkmaaGreatDoor.Gw Go.RowKit
set_option linter.unusedVariables false
attribute [local irreducible] Ev EvQ EvS EvH
def integer_minus_S (f : (List Int) → (List Int) → Option (List Int)) : Prop := ∀ (w0 : World) (I0 : Nat → Prop) (x14746 : (List Int)) (v14747 : Value) (r14748 : RepS (dI .u32) w0 I0 v14747 x14746) (x14749 : (List Int)) (v14750 : Value) (r14751 : RepS (dI .u32) w0 I0 v14750 x14749) (hI : ∀ g, I0 g → g < w0.heap.size) (r : (List Int)), f x14746 x14749 = some r →
    Ret Tryz.prog 101 #[v14747, v14750] w0 fun v w1 => ∃ (I1 : Nat → Prop) (u14752 : Value), v = u14752 ∧ Hp ⟨w0, I0, []⟩ I1 [] w1 ∧ RepS (dI .u32) w1 I1 u14752 r
theorem integer_minus_ok (n : Nat) : integer_minus_S (integer_minus n) := by
  intro w0 I0 x14746 v14747 r14748 x14749 v14750 r14751 hI r h
  unfold integer_minus at h
  refine enter Tryz.func101 rfl (Nat.le_of_ble_eq_true rfl) ?_
  have hp : Hp ⟨w0, I0, []⟩ I0 [] w0 := Hp.start hI
  apply go
  apply go
  apply go
  apply go
  refine ev0 (rn_len rfl rfl Tryz.underlying22 r14748) ?_
  obtain ⟨x14753, q14754, h⟩ := bind_some h
  refine ev_makeC (d := (dI .u32)) (x0 := 0) hp rfl rfl rfl Tryz.underlying22 T46 (fun _ _ => rfl) (Nat.le_of_ble_eq_true rfl) q14754 ?_
  intro v14755 e14756 w14757 hp hs o14758
  replace r14748 := r14748.step hs
  replace r14751 := r14751.step hs
  apply go
  apply go
  obtain ⟨y14889, q14890, h⟩ := bind_some h
  refine W.cut (γ := ((List Int) × Value × Ent × (Nat → Prop))) (fun g => [(5, (g.2.1))]) (fun g w' => y14889 = (g.1) ∧ Hp ⟨w0, I0, []⟩ (g.2.2.2) [(g.2.2.1)] w' ∧ OwnS (dI .u32) 46 w' (g.2.2.2) (g.2.1) (g.2.2.1) (g.1)) ?_ ?_
  ·
    apply go
    apply go
    refine ev0 (rn_len rfl rfl Tryz.underlying22 r14748) ?_
    apply go
    refine W.loop q14890 (γ := (Value × Ent × (Nat → Prop))) (fun s g => [(1, v14750), (5, (g.1)), (6, (.int .u32 (s.2.1))), (14, v14747), (15, (.int .i64 (x14746.length : Int))), (16, (.int .i64 (s.2.2)))]) (fun s g w' => Hp ⟨w0, I0, []⟩ (g.2.2) [(g.2.1)] w' ∧ RepS (dI .u32) w' (g.2.2) v14750 x14749 ∧ OwnS (dI .u32) 46 w' (g.2.2) (g.1) (g.2.1) (s.1) ∧ RepS (dI .u32) w' (g.2.2) v14747 x14746) (v14755, e14756, I0) (.c rfl (.c rfl (.c rfl (.c rfl (.c rfl (.c rfl .n)))))) ⟨hp, r14751, o14758, r14748⟩ ?_
    rintro ⟨x14926, x14930, x14931⟩ ⟨v14927, e14928, I14932⟩ w14975 y14976 ⟨hp, r14751, o14929, r14748⟩ q14977 q14978
    unfold integer_minus_L1 at q14977
    apply go
    apply go
    apply go
    apply go
    refine sel_of (fun hc => ?_) (fun hc => ?_)
    ·
      have q14977 := cond_t q14977 hc
      apply go
      apply go
      apply go
      apply go
      apply go
      obtain ⟨x14979, q14980, q14977⟩ := bind_some q14977
      refine ev_index rfl rfl rfl Tryz.underlying22 T46 r14748 q14980 ?_
      intro p14981 c14982 d14983 a14984
      obtain rfl : c14982 = [(.int .u32 x14979)] := d14983
      refine ev (rn_load rfl rfl (run_loadVar1 T46 (a14984.2 0 _ rfl))) ?_
      apply go
      apply go
      obtain ⟨y14992, q14993, q14977⟩ := bind_some q14977
      refine W.cut (γ := Int) (fun g => [(1, v14750), (5, v14927), (6, (.int .u32 x14930)), (8, (.int .u32 x14979)), (9, (.int .u32 (g))), (14, v14747), (15, (.int .i64 (x14746.length : Int))), (16, (.int .i64 x14931))]) (fun g w' => y14992 = (g) ∧ w14975 = w') ?_ ?_
      ·
        apply go
        apply go
        refine ev0 (rn_len rfl rfl Tryz.underlying22 r14751) ?_
        apply go
        refine sel_of (fun hc => ?_) (fun hc => ?_)
        ·
          have q14993 := cond_t q14993 hc
          apply go
          obtain ⟨x14994, q14995, q14993⟩ := bind_some q14993
          refine ev_index rfl rfl rfl Tryz.underlying22 T46 r14751 q14995 ?_
          intro p14996 c14997 d14998 a14999
          obtain rfl : c14997 = [(.int .u32 x14994)] := d14998
          refine ev (rn_load rfl rfl (run_loadVar1 T46 (a14999.2 0 _ rfl))) ?_
          obtain rfl := Option.some.inj q14993
          exact ⟨x14994, (.c rfl (.c rfl (.c rfl (.c rfl (.c rfl (.c rfl (.c rfl (.c rfl .n)))))))), rfl, rfl⟩
        ·
          have q14993 := cond_f q14993 hc
          apply go
          obtain rfl := Option.some.inj q14993
          exact ⟨0, (.c rfl (.c rfl (.c rfl (.c rfl (.c rfl (.c rfl (.c rfl (.c rfl .n)))))))), rfl, rfl⟩
      ·
        rintro x14991 _ ⟨hy, rfl⟩
        replace hy := hy.symm
        subst hy
        apply go
        apply go
        apply go
        apply go
        obtain ⟨⟨x15000, x15001⟩, q15002, q14977⟩ := bind_some q14977
        refine ev_call rfl rfl C108 (((bits_Sub32_ok n) _ _  x14979 x14991 x14930 hp.imm _ q15002).mono ?_)
        rintro _ w15003 ⟨rfl, hc⟩
        have hs := hp.stp hc
        replace hp := hp.ext hc
        replace r14751 := r14751.step hs
        replace o14929 := o14929.step hs
        replace r14748 := r14748.step hs
        apply go
        refine ev_litN (d := (dI .u32)) (xs := [x15000]) (cs := [(.int .u32 x15000)]) hp rfl rfl Tryz.underlying22 T46 (by decide) rfl rfl (Elems.cons (d := (dI .u32)) (xs := _) rfl (Elems.nil _ _ _ _)) ?_
        intro v15004 I15006 w15005 hp hs r15007
        replace r14751 := r14751.step hs
        replace r14748 := r14748.step hs
        replace o14929 := o14929.step hs
        obtain ⟨x15008, q15009, q14977⟩ := bind_some q14977
        refine ev_append hp (i := 0) rfl rfl rfl rfl Tryz.underlying22 T46 rfl rfl o14929 r15007 q15009 ?_
        rintro v15010 e15011 w15012 hp hs o15013
        replace r14751 := r14751.step hs
        replace r14748 := r14748.step hs
        apply go
        exact ⟨_, (Option.some.inj q14977).symm, (v15010, e15011, I15006), (.c rfl (.c rfl (.c rfl (.c rfl (.c rfl (.c rfl .n)))))), ⟨hp, r14751, o15013, r14748⟩⟩
    ·
      have q14977 := cond_f q14977 hc
      apply go
      have q15014 := congrArg some (q14978 _ (Option.some.inj q14977).symm)
      obtain rfl := Option.some.inj q15014
      exact ⟨(x14926, v14927, e14928, I14932), (.c rfl .n), rfl, hp, o14929⟩
  ·
    rintro ⟨x14883, v14884, e14885, I14887⟩ w14888 ⟨hy, hp, o14886⟩
    replace hy := hy.symm
    subst hy
    apply go
    apply go
    apply go
    obtain rfl := Option.some.inj h
    have r15015 := o14886.frz hp (i := 0) rfl
    obtain ⟨hp, hs⟩ := freeze_hp hp (i := 0) rfl
    have hp := hp.sel [] (by decide)
    exact ⟨(Ad I14887 e14885), v14884, rfl, hp, r15015⟩

end Go.Proofs.YtepadjfmcbjkmaaGreatDoor

namespace Go.Proofs.YtepadjfmcbjkmaaGreatDoor
open Go Go.Proofs.YtepadjfmcbjkmaaGreatDoor.Gw Go.RowKit
set_option linter.unusedVariables false
attribute [local irreducible] Ev EvQ EvS EvH
def integer_Add_S (f : Int_2 → Int_2 → Option Int_2) : Prop := ∀ (w0 : World) (I0 : Nat → Prop) (x15016 : Int_2) (v15017 : Value) (r15018 : RepS (dI .u32) w0 I0 v15017 x15016.Mag) (x15019 : Int_2) (v15020 : Value) (r15021 : RepS (dI .u32) w0 I0 v15020 x15019.Mag) (hI : ∀ g, I0 g → g < w0.heap.size) (r : Int_2), f x15016 x15019 = some r →
    Ret Tryz.prog 71 #[(.agg #[(.bool x15016.Neg), v15017]), (.agg #[(.bool x15019.Neg), v15020])] w0 fun v w1 => ∃ (I1 : Nat → Prop) (u15022 : Value), v = (.agg #[(.bool r.Neg), u15022]) ∧ Hp ⟨w0, I0, []⟩ I1 [] w1 ∧ RepS (dI .u32) w1 I1 u15022 r.Mag
theorem integer_Add_ok (n : Nat) : integer_Add_S (integer_Add n) := by
  intro w0 I0 x15016 v15017 r15018 x15019 v15020 r15021 hI r h
  unfold integer_Add at h
  refine enter Tryz.func71 rfl (Nat.le_of_ble_eq_true rfl) ?_
  have hp : Hp ⟨w0, I0, []⟩ I0 [] w0 := Hp.start hI
  apply go
  apply go
  refine ev_boxI hp rfl rfl ?_
  intro p15025 I15026 w15024 hp hs a15027
  replace r15021 := r15021.step hs
  replace r15018 := r15018.step hs
  refine ev_boxI hp rfl rfl ?_
  intro p15030 I15031 w15029 hp hs a15032
  replace a15027 := a15027.step hs
  replace r15018 := r15018.step hs
  replace r15021 := r15021.step hs
  refine ev_alloc hp rfl T24 ?_
  intro g15033 w15034 hp hs
  replace a15027 := a15027.step hs
  replace r15018 := r15018.step hs
  replace a15032 := a15032.step hs
  replace r15021 := r15021.step hs
  apply go
  have hs := hp.stp (Ch.drew [] w15034)
  have hp := hp.drew
  replace a15027 := a15027.step hs
  replace r15018 := r15018.step hs
  replace a15032 := a15032.step hs
  replace r15021 := r15021.step hs
  refine W.held [(0, true), (1, true), (3, true), (4, true), (2, false), (5, false), (6, true), (7, true)] (Stp I15031 w15034.drew I15031) MX (by kernel_rfl) (Stp.refl _ _) ?_
  have hz := Stp.refl I15031 w15034.drew
  refine evh0 (rn_field rfl rfl FO24_1) ?_
  refine evh (fun w' hw => rn_load rfl rfl (run_loadVar1 T22 ((a15027.step hw).2 1 _ rfl))) ?_
  refine evh0 (rn_field rfl rfl FO24_1) ?_
  refine evh (fun w' hw => rn_load rfl rfl (run_loadVar1 T22 ((a15032.step hw).2 1 _ rfl))) ?_
  obtain ⟨x15047, q15048, h⟩ := bind_some h
  refine ev_call rfl rfl C72 (((integer_trim_ok n) _ _  x15016.Mag v15017 r15018 hp.imm _ q15048).mono ?_)
  rintro _ w15049 ⟨I15050, v15051, hv, hq, r15052⟩
  replace hv := hv.symm
  subst hv
  have hs := hq.st
  have hp := hp.join0 hq
  replace hz := hz.trans hs
  replace a15027 := a15027.step hs
  replace r15018 := r15018.step hs
  replace a15032 := a15032.step hs
  replace r15021 := r15021.step hs
  refine ⟨Stp I15050 w15049 I15050, Stp.refl _ _, fun x hx => hz.held hx, ?_⟩
  have hz := Stp.refl I15050 w15049
  obtain ⟨x15053, q15054, h⟩ := bind_some h
  refine ev_call rfl rfl C72 (((integer_trim_ok n) _ _  x15019.Mag v15020 r15021 hp.imm _ q15054).mono ?_)
  rintro _ w15055 ⟨I15056, v15057, hv, hq, r15058⟩
  replace hv := hv.symm
  subst hv
  have hs := hq.st
  have hp := hp.join0 hq
  replace hz := hz.trans hs
  replace a15027 := a15027.step hs
  replace r15018 := r15018.step hs
  replace a15032 := a15032.step hs
  replace r15021 := r15021.step hs
  replace r15052 := r15052.step hs
  refine ⟨Stp I15056 w15055 I15056, Stp.refl _ _, fun x hx => hz.held hx, ?_⟩
  have hz := Stp.refl I15056 w15055
  apply go
  apply go
  apply go
  apply go
  refine ev0 (rn_field rfl rfl FO24_0) ?_
  refine ev (rn_load rfl rfl (run_loadVar1 T4 (a15027.2 0 _ rfl))) ?_
  refine ev0 (rn_field rfl rfl FO24_0) ?_
  refine ev (rn_load rfl rfl (run_loadVar1 T4 (a15032.2 0 _ rfl))) ?_
  refine ev0 (rn_eqB rfl rfl rfl Tryz.underlying4) ?_
  apply go
  refine sel_of (fun hc => ?_) (fun hc => ?_)
  ·
    have h := cond_t h hc
    apply go
    have hs := hp.stp (Ch.drew [] w15055)
    have hp := hp.drew
    replace a15027 := a15027.step hs
    replace r15018 := r15018.step hs
    replace r15052 := r15052.step hs
    replace r15058 := r15058.step hs
    refine W.held [(0, true), (1, true), (2, true), (3, true), (4, false), (5, false), (6, false)] (Stp I15056 w15055.drew I15056) MX (by kernel_rfl) (Stp.refl _ _) ?_
    have hz := Stp.refl I15056 w15055.drew
    refine evh0 (rn_field rfl rfl FO24_0) ?_
    refine evh (fun w' hw => rn_load rfl rfl (run_loadVar1 T4 ((a15027.step hw).2 0 _ rfl))) ?_
    obtain ⟨x15072, q15073, h⟩ := bind_some h
    refine ev_call rfl rfl C94 (((integer_plus_ok n) _ _  x15047 v15051 r15052 x15053 v15057 r15058 hp.imm _ q15073).mono ?_)
    rintro _ w15074 ⟨I15075, v15076, hv, hq, r15077⟩
    replace hv := hv.symm
    subst hv
    have hs := hq.st
    have hp := hp.join0 hq
    replace hz := hz.trans hs
    refine ⟨Stp I15075 w15074 I15075, Stp.refl _ _, fun x hx => hz.held hx, ?_⟩
    have hz := Stp.refl I15075 w15074
    obtain ⟨x15078, q15079, h⟩ := bind_some h
    refine ev_call rfl rfl C80 (((integer_made_ok n) _ _  x15016.Neg x15072 v15076 r15077 hp.imm _ q15079).mono ?_)
    rintro _ w15080 ⟨I15081, v15082, hv, hq, r15083⟩
    replace hv := hv.symm
    subst hv
    have hs := hq.st
    have hp := hp.join0 hq
    replace hz := hz.trans hs
    refine ⟨Stp I15081 w15080 I15081, Stp.refl _ _, fun x hx => hz.held hx, ?_⟩
    have hz := Stp.refl I15081 w15080
    refine ev_storeA hp (i := 0) (off := 0) (vs := [(.bool x15078.Neg), v15082]) rfl rfl rfl rfl T24 rfl (Nat.le_of_ble_eq_true rfl) (ones_cons rfl (ones_cons r15083.one ones_nil)) ?_
    intro w15084 hp hs
    replace hz := hz.trans hs
    replace r15083 := r15083.step hs
    refine ⟨Stp I15081 w15084 I15081, Stp.refl _ _, fun x hx => hz.held hx, ?_⟩
    have hz := Stp.refl I15081 w15084
    apply go
    obtain rfl := Option.some.inj h
    refine ⟨_, run_loadVarA T24 rfl (hp.at_ (i := 0) rfl), ?_⟩
    have hp := hp.sel [] (by decide)
    exact ⟨I15081, v15082, rfl, hp, r15083⟩
  ·
    have h := cond_f h hc
    apply go
    apply go
    obtain ⟨x15085, q15086, h⟩ := bind_some h
    refine ev_call rfl rfl C79 (((integer_compare_ok n) _ _  x15047 v15051 r15052 x15053 v15057 r15058 hp.imm _ q15086).mono ?_)
    rintro _ w15087 ⟨rfl, hc⟩
    have hs := hp.stp hc
    replace hp := hp.ext hc
    replace a15027 := a15027.step hs
    replace r15018 := r15018.step hs
    replace a15032 := a15032.step hs
    replace r15021 := r15021.step hs
    replace r15052 := r15052.step hs
    replace r15058 := r15058.step hs
    apply go
    refine sel_of (fun hc => ?_) (fun hc => ?_)
    ·
      have h := cond_t h hc
      apply go
      have hs := hp.stp (Ch.drew [] w15087)
      have hp := hp.drew
      replace a15027 := a15027.step hs
      replace r15018 := r15018.step hs
      replace r15052 := r15052.step hs
      replace r15058 := r15058.step hs
      refine W.held [(0, true), (1, true), (2, true), (3, true), (4, false), (5, false), (6, false)] (Stp I15056 w15087.drew I15056) MX (by kernel_rfl) (Stp.refl _ _) ?_
      have hz := Stp.refl I15056 w15087.drew
      refine evh0 (rn_field rfl rfl FO24_0) ?_
      refine evh (fun w' hw => rn_load rfl rfl (run_loadVar1 T4 ((a15027.step hw).2 0 _ rfl))) ?_
      obtain ⟨x15101, q15102, h⟩ := bind_some h
      refine ev_call rfl rfl C101 (((integer_minus_ok n) _ _  x15047 v15051 r15052 x15053 v15057 r15058 hp.imm _ q15102).mono ?_)
      rintro _ w15103 ⟨I15104, v15105, hv, hq, r15106⟩
      replace hv := hv.symm
      subst hv
      have hs := hq.st
      have hp := hp.join0 hq
      replace hz := hz.trans hs
      refine ⟨Stp I15104 w15103 I15104, Stp.refl _ _, fun x hx => hz.held hx, ?_⟩
      have hz := Stp.refl I15104 w15103
      obtain ⟨x15107, q15108, h⟩ := bind_some h
      refine ev_call rfl rfl C80 (((integer_made_ok n) _ _  x15016.Neg x15101 v15105 r15106 hp.imm _ q15108).mono ?_)
      rintro _ w15109 ⟨I15110, v15111, hv, hq, r15112⟩
      replace hv := hv.symm
      subst hv
      have hs := hq.st
      have hp := hp.join0 hq
      replace hz := hz.trans hs
      refine ⟨Stp I15110 w15109 I15110, Stp.refl _ _, fun x hx => hz.held hx, ?_⟩
      have hz := Stp.refl I15110 w15109
      refine ev_storeA hp (i := 0) (off := 0) (vs := [(.bool x15107.Neg), v15111]) rfl rfl rfl rfl T24 rfl (Nat.le_of_ble_eq_true rfl) (ones_cons rfl (ones_cons r15112.one ones_nil)) ?_
      intro w15113 hp hs
      replace hz := hz.trans hs
      replace r15112 := r15112.step hs
      refine ⟨Stp I15110 w15113 I15110, Stp.refl _ _, fun x hx => hz.held hx, ?_⟩
      have hz := Stp.refl I15110 w15113
      apply go
      obtain rfl := Option.some.inj h
      refine ⟨_, run_loadVarA T24 rfl (hp.at_ (i := 0) rfl), ?_⟩
      have hp := hp.sel [] (by decide)
      exact ⟨I15110, v15111, rfl, hp, r15112⟩
    ·
      have h := cond_f h hc
      apply go
      apply go
      have hs := hp.stp (Ch.drew [] w15087)
      have hp := hp.drew
      replace a15032 := a15032.step hs
      replace r15021 := r15021.step hs
      replace r15052 := r15052.step hs
      replace r15058 := r15058.step hs
      refine W.held [(0, true), (1, true), (2, true), (3, true), (4, false), (5, false), (6, false)] (Stp I15056 w15087.drew I15056) MX (by kernel_rfl) (Stp.refl _ _) ?_
      have hz := Stp.refl I15056 w15087.drew
      refine evh0 (rn_field rfl rfl FO24_0) ?_
      refine evh (fun w' hw => rn_load rfl rfl (run_loadVar1 T4 ((a15032.step hw).2 0 _ rfl))) ?_
      obtain ⟨x15127, q15128, h⟩ := bind_some h
      refine ev_call rfl rfl C101 (((integer_minus_ok n) _ _  x15053 v15057 r15058 x15047 v15051 r15052 hp.imm _ q15128).mono ?_)
      rintro _ w15129 ⟨I15130, v15131, hv, hq, r15132⟩
      replace hv := hv.symm
      subst hv
      have hs := hq.st
      have hp := hp.join0 hq
      replace hz := hz.trans hs
      refine ⟨Stp I15130 w15129 I15130, Stp.refl _ _, fun x hx => hz.held hx, ?_⟩
      have hz := Stp.refl I15130 w15129
      obtain ⟨x15133, q15134, h⟩ := bind_some h
      refine ev_call rfl rfl C80 (((integer_made_ok n) _ _  x15019.Neg x15127 v15131 r15132 hp.imm _ q15134).mono ?_)
      rintro _ w15135 ⟨I15136, v15137, hv, hq, r15138⟩
      replace hv := hv.symm
      subst hv
      have hs := hq.st
      have hp := hp.join0 hq
      replace hz := hz.trans hs
      refine ⟨Stp I15136 w15135 I15136, Stp.refl _ _, fun x hx => hz.held hx, ?_⟩
      have hz := Stp.refl I15136 w15135
      refine ev_storeA hp (i := 0) (off := 0) (vs := [(.bool x15133.Neg), v15137]) rfl rfl rfl rfl T24 rfl (Nat.le_of_ble_eq_true rfl) (ones_cons rfl (ones_cons r15138.one ones_nil)) ?_
      intro w15139 hp hs
      replace hz := hz.trans hs
      replace r15138 := r15138.step hs
      refine ⟨Stp I15136 w15139 I15136, Stp.refl _ _, fun x hx => hz.held hx, ?_⟩
      have hz := Stp.refl I15136 w15139
      apply go
      obtain rfl := Option.some.inj h
      refine ⟨_, run_loadVarA T24 rfl (hp.at_ (i := 0) rfl), ?_⟩
      have hp := hp.sel [] (by decide)
      exact ⟨I15136, v15137, rfl, hp, r15138⟩

end Go.Proofs.YtepadjfmcbjkmaaGreatDoor

namespace Go.Proofs.YtepadjfmcbjkmaaGreatDoor
open Go Go.Proofs.YtepadjfmcbjkmaaGreatDoor.Gw Go.RowKit
set_option linter.unusedVariables false
attribute [local irreducible] Ev EvQ EvS EvH
def slices_Cloneuint32_uint32__S (f : (List Int) → Option (List Int)) : Prop := ∀ (w0 : World) (I0 : Nat → Prop) (x195 : (List Int)) (v196 : Value) (r197 : RepS (dI .u32) w0 I0 v196 x195) (hI : ∀ g, I0 g → g < w0.heap.size) (r : (List Int)), f x195 = some r →
    Ret Tryz.prog 88 #[v196] w0 fun v w1 => ∃ (I1 : Nat → Prop) (u198 : Value), v = u198 ∧ Hp ⟨w0, I0, []⟩ I1 [] w1 ∧ RepS (dI .u32) w1 I1 u198 r
theorem slices_Cloneuint32_uint32__ok (n : Nat) : slices_Cloneuint32_uint32__S (slices_Cloneuint32_uint32_ n) := by
  intro w0 I0 x195 v196 r197 hI r h
  unfold slices_Cloneuint32_uint32_ at h
  refine enter Tryz.func88 rfl (Nat.le_of_ble_eq_true rfl) ?_
  have hp : Hp ⟨w0, I0, []⟩ I0 [] w0 := Hp.start hI
  apply go
  apply go
  apply go
  apply go
  apply go
  rcases r197.nilcase with ⟨hv, hx⟩ | ⟨n199, hv, hx⟩ | ⟨a200, n199, hv⟩
  ·
    subst hv; subst hx
    replace h : some ([] : (List Int)) = some _ := h
    refine ev0 (rn_eqNil rfl rfl rfl Tryz.underlying22) ?_
    apply go
    apply go
    apply go
    apply go
    obtain rfl := Option.some.inj h
    exact ⟨I0, .slice none 0 0, rfl, hp, RepS.nil _ _ _⟩
  ·
    subst hv; subst hx
    replace h : some ([] : (List Int)) = some _ := h
    refine ev0 (rn_eqNil rfl rfl rfl Tryz.underlying22) ?_
    apply go
    apply go
    apply go
    apply go
    obtain rfl := Option.some.inj h
    exact ⟨I0, .slice none 0 0, rfl, hp, RepS.nil _ _ _⟩
  ·
    subst hv
    refine ev0 (rn_eqNil rfl rfl rfl Tryz.underlying22) ?_
    apply go
    apply go
    apply go
    apply go
    refine ev_litON (d := (dI .u32)) (xs := ([] : List Int)) (cs := []) hp rfl rfl Tryz.underlying22 T46 (by decide) (by decide) rfl rfl (Elems.nil _ _ _ _) ?_
    intro v201 e203 w202 hp hs o204
    replace r197 := r197.step hs
    obtain ⟨x205, q206, h⟩ := bind_some h
    refine ev_append hp (i := 0) rfl rfl rfl rfl Tryz.underlying22 T46 rfl rfl o204 r197 q206 ?_
    rintro v207 e208 w209 hp hs o210
    apply go
    obtain rfl := Option.some.inj h
    have r211 := o210.frz hp (i := 0) rfl
    obtain ⟨hp, hs⟩ := freeze_hp hp (i := 0) rfl
    have hp := hp.sel [] (by decide)
    exact ⟨(Ad I0 e208), v207, rfl, hp, r211⟩

end Go.Proofs.YtepadjfmcbjkmaaGreatDoor

namespace Go.Proofs.YtepadjfmcbjkmaaGreatDoor
open Go Go.Proofs.YtepadjfmcbjkmaaGreatDoor.Gw Go.RowKit
set_option linter.unusedVariables false
attribute [local irreducible] Ev EvQ EvS EvH
def bits_Div32_S (f : Int → Int → Int → Option (Int × Int)) : Prop := ∀ (w0 : World) (I0 : Nat → Prop) (x474 : Int) (x475 : Int) (x476 : Int) (hI : ∀ g, I0 g → g < w0.heap.size) (r : (Int × Int)), f x474 x475 x476 = some r →
    Ret Tryz.prog 124 #[(.int .u32 x474), (.int .u32 x475), (.int .u32 x476)] w0 fun v w1 => v = (.tuple #[(.int .u32 r.1), (.int .u32 r.2)]) ∧ Ch [] w0 w1
theorem bits_Div32_ok (n : Nat) : bits_Div32_S (bits_Div32 n) := by
  intro w0 I0 x474 x475 x476 hI r h
  unfold bits_Div32 at h
  refine enter Tryz.func124 rfl (Nat.le_of_ble_eq_true rfl) ?_
  have hp : Hp ⟨w0, I0, []⟩ I0 [] w0 := Hp.start hI
  apply go
  apply go
  obtain ⟨y480, q481, h⟩ := bind_some h
  refine W.cut (γ := Unit) (fun _ => [(0, (.int .u32 x474)), (1, (.int .u32 x475)), (2, (.int .u32 x476))]) (fun _ w' => y480 = () ∧ w0 = w') ?_ ?_
  ·
    obtain ⟨y483, q484, q481⟩ := bind_some q481
    refine W.cut (γ := Bool) (fun g => [(0, (.int .u32 x474)), (1, (.int .u32 x475)), (2, (.int .u32 x476)), (15, (.bool (g)))]) (fun g w' => y483 = (g) ∧ w0 = w') ?_ ?_
    ·
      apply go
      refine sel_of (fun hc => ?_) (fun hc => ?_)
      ·
        have q484 := cond_t q484 hc
        obtain rfl := Option.some.inj q484
        exact ⟨(decide (x476 ≤ x474)), (.c rfl (.c rfl (.c rfl (.c rfl .n)))), rfl, rfl⟩
      ·
        have q484 := cond_f q484 hc
        obtain rfl := Option.some.inj q484
        exact ⟨false, (.c rfl (.c rfl (.c rfl (.c rfl .n)))), rfl, rfl⟩
    ·
      rintro x482 _ ⟨hy, rfl⟩
      replace hy := hy.symm
      subst hy
      apply go
      refine sel_of (fun hc => ?_) (fun hc => ?_)
      ·
        have q481 := cond_t q481 hc
        apply go
        cases q481
      ·
        have q481 := cond_f q481 hc
        apply go
        obtain rfl := Option.some.inj q481
        exact ⟨(), (.c rfl (.c rfl (.c rfl .n))), rfl, rfl⟩
  ·
    rintro ⟨⟩ _ ⟨hy, rfl⟩
    replace hy := hy.symm
    subst hy
    apply go
    apply go
    refine ev0 (rn_conv rfl rfl U46 Tryz.underlying75) ?_
    refine ⟨by decide, ?_⟩
    refine ev0 (rn_conv rfl rfl U46 Tryz.underlying75) ?_
    apply go
    refine W.quiet (fun w' => Ch [] w0 w') MX (by kernel_rfl) (Ch.drew [] w0) ?_
    refine evq0 (rn_conv rfl rfl U46 Tryz.underlying75) ?_
    obtain ⟨q485, _, h⟩ := need_some h
    refine ⟨q485, ?_⟩
    refine evq0 (rn_conv rfl rfl U75 Tryz.underlying46) ?_
    refine evq0 (rn_conv rfl rfl U46 Tryz.underlying75) ?_
    obtain ⟨q486, _, h⟩ := need_some h
    refine ⟨q486, ?_⟩
    refine evq0 (rn_conv rfl rfl U75 Tryz.underlying46) ?_
    intro w487 hc
    have hs := hp.stp hc
    replace hp := hp.ext hc
    apply go
    obtain rfl := Option.some.inj h
    exact ⟨rfl, hp.ch⟩

end Go.Proofs.YtepadjfmcbjkmaaGreatDoor

namespace Go.Proofs.YtepadjfmcbjkmaaGreatDoor
open Go Go.Proofs.YtepadjfmcbjkmaaGreatDoor.Gw Go.RowKit
set_option linter.unusedVariables false
attribute [local irreducible] Ev EvQ EvS EvH
def integer_short_S (f : (List Int) → Int → Option ((List Int) × Int)) : Prop := ∀ (w0 : World) (I0 : Nat → Prop) (x488 : (List Int)) (v489 : Value) (r490 : RepS (dI .u32) w0 I0 v489 x488) (x491 : Int) (hI : ∀ g, I0 g → g < w0.heap.size) (r : ((List Int) × Int)), f x488 x491 = some r →
    Ret Tryz.prog 95 #[v489, (.int .u32 x491)] w0 fun v w1 => ∃ (I1 : Nat → Prop) (u492 : Value), v = (.tuple #[u492, (.int .u32 r.2)]) ∧ Hp ⟨w0, I0, []⟩ I1 [] w1 ∧ RepS (dI .u32) w1 I1 u492 r.1
theorem integer_short_ok (n : Nat) : integer_short_S (integer_short n) := by
  intro w0 I0 x488 v489 r490 x491 hI r h
  unfold integer_short at h
  refine enter Tryz.func95 rfl (Nat.le_of_ble_eq_true rfl) ?_
  have hp : Hp ⟨w0, I0, []⟩ I0 [] w0 := Hp.start hI
  apply go
  apply go
  apply go
  apply go
  refine ev0 (rn_len rfl rfl Tryz.underlying22 r490) ?_
  obtain ⟨x493, q494, h⟩ := bind_some h
  refine ev_make (d := (dI .u32)) (x0 := 0) hp rfl rfl rfl Tryz.underlying22 T46 (fun _ _ => rfl) (Nat.le_of_ble_eq_true rfl) q494 ?_
  intro v495 e496 w497 hp hs o498
  replace r490 := r490.step hs
  apply go
  apply go
  obtain ⟨y591, q592, h⟩ := bind_some h
  refine W.cut (γ := ((List Int) × Int × Ent)) (fun g => [(6, v495), (7, (.int .u32 (g.2.1)))]) (fun g w' => y591 = ((g.1), (g.2.1)) ∧ Hp ⟨w0, I0, []⟩ I0 [(g.2.2)] w' ∧ OwnS (dI .u32) 46 w' I0 v495 (g.2.2) (g.1)) ?_ ?_
  ·
    apply go
    apply go
    refine ev0 (rn_len rfl rfl Tryz.underlying22 r490) ?_
    apply go
    refine W.loop q592 (γ := Ent) (fun s g => [(0, v489), (1, (.int .u32 x491)), (6, v495), (7, (.int .u32 (s.2.1))), (8, (.int .i64 (s.2.2)))]) (fun s g w' => Hp ⟨w0, I0, []⟩ I0 [(g)] w' ∧ RepS (dI .u32) w' I0 v489 x488 ∧ OwnS (dI .u32) 46 w' I0 v495 (g) (s.1)) e496 (.c rfl (.c rfl (.c rfl (.c rfl (.c rfl .n))))) ⟨hp, r490, o498⟩ ?_
    rintro ⟨x616, x620, x621⟩ e618 w651 y652 ⟨hp, r490, o619⟩ q653 q654
    unfold integer_short_L1 at q653
    apply go
    apply go
    apply go
    apply go
    refine sel_of (fun hc => ?_) (fun hc => ?_)
    ·
      have q653 := cond_t q653 hc
      apply go
      apply go
      apply go
      apply go
      obtain ⟨x655, q656, q653⟩ := bind_some q653
      refine ev_index rfl rfl rfl Tryz.underlying22 T46 r490 q656 ?_
      intro p657 c658 d659 a660
      obtain rfl : c658 = [(.int .u32 x655)] := d659
      refine ev (rn_load rfl rfl (run_loadVar1 T46 (a660.2 0 _ rfl))) ?_
      obtain ⟨⟨x661, x662⟩, q663, q653⟩ := bind_some q653
      refine ev_call rfl rfl C124 (((bits_Div32_ok n) _ _  x620 x655 x491 hp.imm _ q663).mono ?_)
      rintro _ w664 ⟨rfl, hc⟩
      have hs := hp.stp hc
      replace hp := hp.ext hc
      replace r490 := r490.step hs
      replace o619 := o619.step hs
      obtain ⟨x665, q666, q653⟩ := bind_some q653
      refine ev_indexO rfl rfl rfl Tryz.underlying22 T46 o619 q666 ?_
      intro g667 c668 h671 d669 l670
      refine ev_storeE hp (i := 0) rfl h671 rfl rfl rfl T46 o619 q666 (x0 := x661) rfl ?_
      intro e674 w673 hp hs o675
      replace r490 := r490.step hs
      apply go
      exact ⟨_, (Option.some.inj q653).symm, e674, (.c rfl (.c rfl (.c rfl (.c rfl (.c rfl .n))))), ⟨hp, r490, o675⟩⟩
    ·
      have q653 := cond_f q653 hc
      apply go
      have q678 := congrArg some (q654 _ (Option.some.inj q653).symm)
      obtain rfl := Option.some.inj q678
      exact ⟨(x616, x620, e618), (.c rfl (.c rfl .n)), rfl, hp, o619⟩
  ·
    rintro ⟨x585, x589, e587⟩ w590 ⟨hy, hp, o588⟩
    replace hy := hy.symm
    subst hy
    apply go
    apply go
    apply go
    obtain rfl := Option.some.inj h
    have r679 := o588.frz hp (i := 0) rfl
    obtain ⟨hp, hs⟩ := freeze_hp hp (i := 0) rfl
    have hp := hp.sel [] (by decide)
    exact ⟨(Ad I0 e587), v495, rfl, hp, r679⟩

end Go.Proofs.YtepadjfmcbjkmaaGreatDoor

namespace Go.Proofs.YtepadjfmcbjkmaaGreatDoor
open Go Go.Proofs.YtepadjfmcbjkmaaGreatDoor.Gw Go.RowKit
set_option linter.unusedVariables false
attribute [local irreducible] Ev EvQ EvS EvH
def bits_Len32_S (f : Int → Option Int) : Prop := ∀ (w0 : World) (I0 : Nat → Prop) (x680 : Int) (hI : ∀ g, I0 g → g < w0.heap.size) (r : Int), f x680 = some r →
    Ret Tryz.prog 132 #[(.int .u32 x680)] w0 fun v w1 => v = (.int .i64 r) ∧ Ch [] w0 w1
theorem bits_Len32_ok (n : Nat) : bits_Len32_S (bits_Len32 n) := by
  intro w0 I0 x680 hI r h
  unfold bits_Len32 at h
  refine enter Tryz.func132 rfl (Nat.le_of_ble_eq_true rfl) ?_
  have hp : Hp ⟨w0, I0, []⟩ I0 [] w0 := Hp.start hI
  apply go
  apply go
  obtain ⟨y683, q684, h⟩ := bind_some h
  refine W.cut (γ := (Int × Int)) (fun g => [(0, (.int .u32 (g.1))), (2, (.int .i64 (g.2)))]) (fun g w' => y683 = ((g.1), (g.2)) ∧ w0 = w') ?_ ?_
  ·
    apply go
    apply go
    apply go
    refine sel_of (fun hc => ?_) (fun hc => ?_)
    ·
      have q684 := cond_t q684 hc
      apply go
      apply go
      refine ⟨by decide, ?_⟩
      apply go
      obtain rfl := Option.some.inj q684
      exact ⟨((x680.fdiv (2 ^ min (16 : Int).toNat (IntKind.u32).bits)), 16), (.c rfl (.c rfl .n)), rfl, rfl⟩
    ·
      have q684 := cond_f q684 hc
      apply go
      obtain rfl := Option.some.inj q684
      exact ⟨(x680, 0), (.c rfl (.c rfl .n)), rfl, rfl⟩
  ·
    rintro ⟨x681, x682⟩ _ ⟨hy, rfl⟩
    replace hy := hy.symm
    subst hy
    obtain ⟨y687, q688, h⟩ := bind_some h
    refine W.cut (γ := (Int × Int)) (fun g => [(0, (.int .u32 (g.1))), (2, (.int .i64 (g.2)))]) (fun g w' => y687 = ((g.1), (g.2)) ∧ w0 = w') ?_ ?_
    ·
      apply go
      apply go
      apply go
      refine sel_of (fun hc => ?_) (fun hc => ?_)
      ·
        have q688 := cond_t q688 hc
        apply go
        apply go
        refine ⟨by decide, ?_⟩
        apply go
        obtain rfl := Option.some.inj q688
        exact ⟨((x681.fdiv (2 ^ min (8 : Int).toNat (IntKind.u32).bits)), (IntKind.i64.wrap (x682 + 8))), (.c rfl (.c rfl .n)), rfl, rfl⟩
      ·
        have q688 := cond_f q688 hc
        apply go
        obtain rfl := Option.some.inj q688
        exact ⟨(x681, x682), (.c rfl (.c rfl .n)), rfl, rfl⟩
    ·
      rintro ⟨x685, x686⟩ _ ⟨hy, rfl⟩
      replace hy := hy.symm
      subst hy
      apply go
      apply go
      refine ev0 (rn_conv rfl rfl U46 Tryz.underlying5) ?_
      obtain ⟨x689, q690, h⟩ := bind_some h
      refine ev0 (rn_indexS rfl rfl rfl Tryz.underlying9 q690) ?_
      refine ev0 (rn_conv rfl rfl U5 Tryz.underlying3) ?_
      apply go
      obtain rfl := Option.some.inj h
      exact ⟨rfl, hp.ch⟩

end Go.Proofs.YtepadjfmcbjkmaaGreatDoor

namespace Go.Proofs.YtepadjfmcbjkmaaGreatDoor
open Go Go.Proofs.YtepadjfmcbjkmaaGreatDoor.Gw Go.RowKit
set_option linter.unusedVariables false
attribute [local irreducible] Ev EvQ EvS EvH
def bits_LeadingZeros32_S (f : Int → Option Int) : Prop := ∀ (w0 : World) (I0 : Nat → Prop) (x691 : Int) (hI : ∀ g, I0 g → g < w0.heap.size) (r : Int), f x691 = some r →
    Ret Tryz.prog 106 #[(.int .u32 x691)] w0 fun v w1 => v = (.int .i64 r) ∧ Ch [] w0 w1
theorem bits_LeadingZeros32_ok (n : Nat) : bits_LeadingZeros32_S (bits_LeadingZeros32 n) := by
  intro w0 I0 x691 hI r h
  unfold bits_LeadingZeros32 at h
  refine enter Tryz.func106 rfl (Nat.le_of_ble_eq_true rfl) ?_
  have hp : Hp ⟨w0, I0, []⟩ I0 [] w0 := Hp.start hI
  apply go
  apply go
  apply go
  apply go
  obtain ⟨x692, q693, h⟩ := bind_some h
  refine ev_call rfl rfl C132 (((bits_Len32_ok n) _ _  x691 hp.imm _ q693).mono ?_)
  rintro _ w694 ⟨rfl, hc⟩
  have hs := hp.stp hc
  replace hp := hp.ext hc
  apply go
  obtain rfl := Option.some.inj h
  exact ⟨rfl, hp.ch⟩

end Go.Proofs.YtepadjfmcbjkmaaGreatDoor

namespace Go.Proofs.YtepadjfmcbjkmaaGreatDoor
open Go Go.Proofs.YtepadjfmcbjkmaaGreatDoor.Gw Go.RowKit
set_option linter.unusedVariables false
attribute [local irreducible] Ev EvQ EvS EvH
def integer_shifted_S (f : (List Int) → Int → Option (List Int)) : Prop := ∀ (w0 : World) (I0 : Nat → Prop) (x695 : (List Int)) (v696 : Value) (r697 : RepS (dI .u32) w0 I0 v696 x695) (x698 : Int) (hI : ∀ g, I0 g → g < w0.heap.size) (r : (List Int)), f x695 x698 = some r →
    Ret Tryz.prog 107 #[v696, (.int .u64 x698)] w0 fun v w1 => ∃ (I1 : Nat → Prop) (u699 : Value) (u700 : Ent), v = u699 ∧ Hp ⟨w0, I0, []⟩ I1 [u700] w1 ∧ OwnS (dI .u32) 46 w1 I1 u699 u700 r
theorem integer_shifted_ok (n : Nat) : integer_shifted_S (integer_shifted n) := by
  intro w0 I0 x695 v696 r697 x698 hI r h
  unfold integer_shifted at h
  refine enter Tryz.func107 rfl (Nat.le_of_ble_eq_true rfl) ?_
  have hp : Hp ⟨w0, I0, []⟩ I0 [] w0 := Hp.start hI
  apply go
  apply go
  apply go
  apply go
  refine ev0 (rn_len rfl rfl Tryz.underlying22 r697) ?_
  obtain ⟨x701, q702, h⟩ := bind_some h
  refine ev_make (d := (dI .u32)) (x0 := 0) hp rfl rfl rfl Tryz.underlying22 T46 (fun _ _ => rfl) (Nat.le_of_ble_eq_true rfl) q702 ?_
  intro v703 e704 w705 hp hs o706
  replace r697 := r697.step hs
  obtain ⟨y850, q851, h⟩ := bind_some h
  refine W.cut (γ := ((List Int) × Ent)) (fun g => [(5, v703)]) (fun g w' => y850 = (g.1) ∧ Hp ⟨w0, I0, []⟩ I0 [(g.2)] w' ∧ OwnS (dI .u32) 46 w' I0 v703 (g.2) (g.1)) ?_ ?_
  ·
    apply go
    apply go
    refine ev0 (rn_len rfl rfl Tryz.underlying22 r697) ?_
    apply go
    refine W.loop q851 (γ := Ent) (fun s g => [(1, (.int .u64 x698)), (5, v703), (13, v696), (14, (.int .i64 (x695.length : Int))), (15, (.int .i64 (s.2)))]) (fun s g w' => Hp ⟨w0, I0, []⟩ I0 [(g)] w' ∧ OwnS (dI .u32) 46 w' I0 v703 (g) (s.1) ∧ RepS (dI .u32) w' I0 v696 x695) e704 (.c rfl (.c rfl (.c rfl (.c rfl (.c rfl .n))))) ⟨hp, o706, r697⟩ ?_
    rintro ⟨x893, x897⟩ e895 w944 y945 ⟨hp, o896, r697⟩ q946 q947
    unfold integer_shifted_L1 at q946
    apply go
    apply go
    apply go
    apply go
    refine sel_of (fun hc => ?_) (fun hc => ?_)
    ·
      have q946 := cond_t q946 hc
      apply go
      apply go
      apply go
      apply go
      apply go
      obtain ⟨x948, q949, q946⟩ := bind_some q946
      refine ev_index rfl rfl rfl Tryz.underlying22 T46 r697 q949 ?_
      intro p950 c951 d952 a953
      obtain rfl : c951 = [(.int .u32 x948)] := d952
      refine ev (rn_load rfl rfl (run_loadVar1 T46 (a953.2 0 _ rfl))) ?_
      apply go
      apply go
      refine ev0 (rn_conv rfl rfl U46 Tryz.underlying75) ?_
      obtain ⟨q954, _, q946⟩ := need_some q946
      refine ⟨q954, ?_⟩
      apply go
      apply go
      obtain ⟨x955, q956, q946⟩ := bind_some q946
      refine ev_indexO rfl rfl rfl Tryz.underlying22 T46 o896 q956 ?_
      intro g957 c958 h961 d959 l960
      refine ev (rn_load rfl rfl (run_loadVar1 T46 (hp.cellE (i := 0) rfl h961 d959 (j := 0) rfl))) ?_
      refine ev0 (rn_conv rfl rfl U75 Tryz.underlying46) ?_
      obtain ⟨x963, q964, q946⟩ := bind_some q946
      refine ev_indexO rfl rfl rfl Tryz.underlying22 T46 o896 q964 ?_
      intro g965 c966 h969 d967 l968
      refine ev_storeE hp (i := 0) rfl h969 rfl rfl rfl T46 o896 q964 (x0 := (ib .or .u32 x955 (IntKind.u32.wrap (IntKind.u64.wrap ((IntKind.u64.wrap x948) * 2 ^ min x698.toNat (IntKind.u64).bits))))) rfl ?_
      intro e972 w971 hp hs o973
      replace r697 := r697.step hs
      apply go
      refine ⟨by decide, ?_⟩
      refine ev0 (rn_conv rfl rfl U75 Tryz.underlying46) ?_
      obtain ⟨x976, q977, q946⟩ := bind_some q946
      refine ev_indexO rfl rfl rfl Tryz.underlying22 T46 o973 q977 ?_
      intro g978 c979 h982 d980 l981
      refine ev_storeE hp (i := 0) rfl h982 rfl rfl rfl T46 o973 q977 (x0 := (IntKind.u32.wrap ((IntKind.u64.wrap ((IntKind.u64.wrap x948) * 2 ^ min x698.toNat (IntKind.u64).bits)).fdiv (2 ^ min (32 : Int).toNat (IntKind.u64).bits)))) rfl ?_
      intro e985 w984 hp hs o986
      replace r697 := r697.step hs
      apply go
      exact ⟨_, (Option.some.inj q946).symm, e985, (.c rfl (.c rfl (.c rfl (.c rfl (.c rfl .n))))), ⟨hp, o986, r697⟩⟩
    ·
      have q946 := cond_f q946 hc
      apply go
      have q989 := congrArg some (q947 _ (Option.some.inj q946).symm)
      obtain rfl := Option.some.inj q989
      exact ⟨(x893, e895), (.c rfl .n), rfl, hp, o896⟩
  ·
    rintro ⟨x845, e847⟩ w849 ⟨hy, hp, o848⟩
    replace hy := hy.symm
    subst hy
    apply go
    apply go
    apply go
    obtain rfl := Option.some.inj h
    exact ⟨I0, v703, e847, rfl, hp, o848⟩

end Go.Proofs.YtepadjfmcbjkmaaGreatDoor

namespace Go.Proofs.YtepadjfmcbjkmaaGreatDoor
open Go Go.Proofs.YtepadjfmcbjkmaaGreatDoor.Gw Go.RowKit
set_option linter.unusedVariables false
attribute [local irreducible] Ev EvQ EvS EvH
def integer_divide_S (f : (List Int) → (List Int) → Option ((List Int) × (List Int))) : Prop := ∀ (w0 : World) (I0 : Nat → Prop) (x996 : (List Int)) (v997 : Value) (r998 : RepS (dI .u32) w0 I0 v997 x996) (x999 : (List Int)) (v1000 : Value) (r1001 : RepS (dI .u32) w0 I0 v1000 x999) (hI : ∀ g, I0 g → g < w0.heap.size) (r : ((List Int) × (List Int))), f x996 x999 = some r →
    Ret Tryz.prog 82 #[v997, v1000] w0 fun v w1 => ∃ (I1 : Nat → Prop) (u1002 : Value) (u1003 : Value), v = (.tuple #[u1002, u1003]) ∧ Hp ⟨w0, I0, []⟩ I1 [] w1 ∧ RepS (dI .u32) w1 I1 u1002 r.1 ∧ RepS (dI .u32) w1 I1 u1003 r.2
theorem integer_divide_ok (n : Nat) : integer_divide_S (integer_divide n) := by
  intro w0 I0 x996 v997 r998 x999 v1000 r1001 hI r h
  unfold integer_divide at h
  refine enter Tryz.func82 rfl (Nat.le_of_ble_eq_true rfl) ?_
  have hp : Hp ⟨w0, I0, []⟩ I0 [] w0 := Hp.start hI
  apply go
  apply go
  apply go
  apply go
  apply go
  obtain ⟨x1004, q1005, h⟩ := bind_some h
  refine ev_call rfl rfl C79 (((integer_compare_ok n) _ _  x996 v997 r998 x999 v1000 r1001 hp.imm _ q1005).mono ?_)
  rintro _ w1006 ⟨rfl, hc⟩
  have hs := hp.stp hc
  replace hp := hp.ext hc
  replace r998 := r998.step hs
  replace r1001 := r1001.step hs
  apply go
  refine sel_of (fun hc => ?_) (fun hc => ?_)
  ·
    have h := cond_t h hc
    apply go
    apply go
    obtain ⟨x1007, q1008, h⟩ := bind_some h
    refine ev_call rfl rfl C88 (((slices_Cloneuint32_uint32__ok n) _ _  x996 v997 r998 hp.imm _ q1008).mono ?_)
    rintro _ w1009 ⟨I1010, v1011, hv, hq, r1012⟩
    replace hv := hv.symm
    subst hv
    have hs := hq.st
    have hp := hp.join0 hq
    apply go
    obtain rfl := Option.some.inj h
    exact ⟨I1010, .slice none 0 0, v1011, rfl, hp, RepS.nil _ _ _, r1012⟩
  ·
    have h := cond_f h hc
    apply go
    apply go
    apply go
    apply go
    refine ev0 (rn_len rfl rfl Tryz.underlying22 r1001) ?_
    apply go
    refine sel_of (fun hc => ?_) (fun hc => ?_)
    ·
      have h := cond_t h hc
      apply go
      apply go
      obtain ⟨x1013, q1014, h⟩ := bind_some h
      refine ev_index rfl rfl rfl Tryz.underlying22 T46 r1001 q1014 ?_
      intro p1015 c1016 d1017 a1018
      obtain rfl : c1016 = [(.int .u32 x1013)] := d1017
      refine ev (rn_load rfl rfl (run_loadVar1 T46 (a1018.2 0 _ rfl))) ?_
      obtain ⟨⟨x1019, x1020⟩, q1021, h⟩ := bind_some h
      refine ev_call rfl rfl C95 (((integer_short_ok n) _ _  x996 v997 r998 x1013 hp.imm _ q1021).mono ?_)
      rintro _ w1022 ⟨I1023, v1024, hv, hq, r1025⟩
      replace hv := hv.symm
      subst hv
      have hs := hq.st
      have hp := hp.join0 hq
      apply go
      apply go
      refine ev_litN (d := (dI .u32)) (xs := [x1020]) (cs := [(.int .u32 x1020)]) hp rfl rfl Tryz.underlying22 T46 (by decide) rfl rfl (Elems.cons (d := (dI .u32)) (xs := _) rfl (Elems.nil _ _ _ _)) ?_
      intro v1026 I1028 w1027 hp hs r1029
      replace r1025 := r1025.step hs
      apply go
      obtain rfl := Option.some.inj h
      exact ⟨I1028, v1024, v1026, rfl, hp, r1025, r1029⟩
    ·
      have h := cond_f h hc
      apply go
      apply go
      apply go
      refine ev0 (rn_len rfl rfl Tryz.underlying22 r1001) ?_
      obtain ⟨x1030, q1031, h⟩ := bind_some h
      refine ev_index rfl rfl rfl Tryz.underlying22 T46 r1001 q1031 ?_
      intro p1032 c1033 d1034 a1035
      obtain rfl : c1033 = [(.int .u32 x1030)] := d1034
      refine ev (rn_load rfl rfl (run_loadVar1 T46 (a1035.2 0 _ rfl))) ?_
      obtain ⟨x1036, q1037, h⟩ := bind_some h
      refine ev_call rfl rfl C106 (((bits_LeadingZeros32_ok n) _ _  x1030 hp.imm _ q1037).mono ?_)
      rintro _ w1038 ⟨rfl, hc⟩
      have hs := hp.stp hc
      replace hp := hp.ext hc
      replace r998 := r998.step hs
      replace r1001 := r1001.step hs
      refine ev0 (rn_conv rfl rfl U3 Tryz.underlying76) ?_
      apply go
      have hs := hp.stp (Ch.drew [] w1038)
      have hp := hp.drew
      replace r998 := r998.step hs
      replace r1001 := r1001.step hs
      refine W.held [(0, true), (1, true), (3, true), (4, true), (6, true), (7, true), (2, false), (5, false), (9, true), (8, false), (10, true)] (Stp I0 w1038.drew I0) MX (by kernel_rfl) (Stp.refl _ _) ?_
      have hz := Stp.refl I0 w1038.drew
      refine evh0 (rn_len rfl rfl Tryz.underlying22 r1001) ?_
      obtain ⟨x1058, q1059, h⟩ := bind_some h
      refine ev_call rfl rfl C107 (((integer_shifted_ok n) _ _  x996 v997 r998 (IntKind.u64.wrap x1036) hp.imm _ q1059).mono ?_)
      rintro _ w1060 ⟨I1061, v1062, e1063, hv, hq, o1064⟩
      replace hv := hv.symm
      subst hv
      have hs := hq.st
      have hp := hp.join0 hq
      replace hz := hz.trans hs
      replace r1001 := r1001.step hs
      refine ⟨Stp I1061 w1060 I1061, Stp.refl _ _, fun x hx => hz.held hx, ?_⟩
      have hz := Stp.refl I1061 w1060
      obtain ⟨x1065, q1066, h⟩ := bind_some h
      refine ev_call rfl rfl C107 (((integer_shifted_ok n) _ _  x999 v1000 r1001 (IntKind.u64.wrap x1036) hp.imm _ q1066).mono ?_)
      rintro _ w1067 ⟨I1068, v1069, e1070, hv, hq, o1071⟩
      replace hv := hv.symm
      subst hv
      have hs := hq.st
      have hp := hp.join0 hq
      replace hz := hz.trans hs
      replace o1064 := o1064.step hs
      refine ⟨Stp I1068 w1067 I1068, Stp.refl _ _, fun x hx => hz.held hx, ?_⟩
      have hz := Stp.refl I1068 w1067
      have r1072 := o1071.frz hp (i := 0) rfl
      obtain ⟨hp, hs⟩ := freeze_hp hp (i := 0) rfl
      replace hz := hz.trans hs
      replace o1064 := o1064.step hs
      have hp := hp.sel [1] (by decide)
      obtain ⟨x1073, q1074, h⟩ := bind_some h
      refine ev_slice (kl := .i64) (kh := .i64) rfl rfl rfl rfl Tryz.underlying22 T46 r1072 q1074 ?_
      intro v1075 r1076
      refine ⟨Stp (Ad I1068 e1070) w1067 (Ad I1068 e1070), Stp.refl _ _, fun x hx => hz.held hx, ?_⟩
      have hz := Stp.refl (Ad I1068 e1070) w1067
      apply go
      apply go
      refine ev0 (rn_len rfl rfl Tryz.underlying22 r1076) ?_
      apply go
      apply go
      refine ev0 (x_lenO rfl rfl Tryz.underlying22 o1064) ?_
      obtain ⟨x1077, q1078, h⟩ := bind_some h
      refine ev_make (d := (dI .u32)) (x0 := 0) hp rfl rfl rfl Tryz.underlying22 T46 (fun _ _ => rfl) (Nat.le_of_ble_eq_true rfl) q1078 ?_
      intro v1079 e1080 w1081 hp hs o1082
      replace o1064 := o1064.step hs
      replace r1076 := r1076.step hs
      obtain ⟨y7658, q7659, h⟩ := bind_some h
      refine W.cut (γ := ((List Int) × (List Int) × Ent × Ent)) (fun g => [(8, (.int .u64 (IntKind.u64.wrap x1036))), (9, v1062), (11, (.int .i64 (x1073.length : Int))), (12, v1079)]) (fun g w' => y7658 = ((g.1), (g.2.1)) ∧ Hp ⟨w0, I0, []⟩ (Ad I1068 e1070) [(g.2.2.1), (g.2.2.2)] w' ∧ OwnS (dI .u32) 46 w' (Ad I1068 e1070) v1062 (g.2.2.1) (g.1) ∧ OwnS (dI .u32) 46 w' (Ad I1068 e1070) v1079 (g.2.2.2) (g.2.1)) ?_ ?_
      ·
        apply go
        apply go
        refine ev0 (x_lenO rfl rfl Tryz.underlying22 o1064) ?_
        apply go
        have hp := hp.perm [1, 0] (by decide)
        refine W.loop q7659 (γ := (Ent × Ent)) (fun s g => [(8, (.int .u64 (IntKind.u64.wrap x1036))), (9, v1062), (10, v1075), (11, (.int .i64 (x1073.length : Int))), (12, v1079), (13, (.int .i64 (s.2.2)))]) (fun s g w' => Hp ⟨w0, I0, []⟩ (Ad I1068 e1070) [(g.1), (g.2)] w' ∧ OwnS (dI .u32) 46 w' (Ad I1068 e1070) v1062 (g.1) (s.1) ∧ RepS (dI .u32) w' (Ad I1068 e1070) v1075 x1073 ∧ OwnS (dI .u32) 46 w' (Ad I1068 e1070) v1079 (g.2) (s.2.1)) (e1063, e1080) (.c rfl (.c rfl (.c rfl (.c rfl (.c rfl (.c rfl .n)))))) ⟨hp, o1064, r1076, o1082⟩ ?_
        rintro ⟨x9841, x9845, x9849⟩ ⟨e9843, e9847⟩ w12040 y12041 ⟨hp, o9844, r1076, o9848⟩ q12042 q12043
        unfold integer_divide_L81 at q12042
        apply go
        apply go
        apply go
        apply go
        refine sel_of (fun hc => ?_) (fun hc => ?_)
        ·
          have q12042 := cond_t q12042 hc
          apply go
          obtain ⟨y13138, q13139, q12042⟩ := bind_some q12042
          refine W.cut (γ := ((List Int) × (List Int) × Ent × Ent)) (fun g => [(8, (.int .u64 (IntKind.u64.wrap x1036))), (9, v1062), (10, v1075), (11, (.int .i64 (x1073.length : Int))), (12, v1079), (13, (.int .i64 x9849))]) (fun g w' => y13138 = ((g.1), (g.2.1)) ∧ Hp ⟨w0, I0, []⟩ (Ad I1068 e1070) [(g.2.2.1), (g.2.2.2)] w' ∧ OwnS (dI .u32) 46 w' (Ad I1068 e1070) v1062 (g.2.2.1) (g.1) ∧ RepS (dI .u32) w' (Ad I1068 e1070) v1075 x1073 ∧ OwnS (dI .u32) 46 w' (Ad I1068 e1070) v1079 (g.2.2.2) (g.2.1)) ?_ ?_
          ·
            apply go
            apply go
            refine W.quiet (fun w' => Ch [] w12040 w') MX (by kernel_rfl) (Ch.drew [] w12040) ?_
            obtain ⟨x13140, q13141, q13139⟩ := bind_some q13139
            refine evq_indexO rfl rfl rfl Tryz.underlying22 T46 o9844 q13141 ?_
            intro g13142 c13143 h13146 d13144 l13145
            refine evq (fun w' hw => rn_load rfl rfl (run_loadVar1 T46 ((hp.ext hw).cellE (i := 0) rfl h13146 d13144 (j := 0) rfl))) ?_
            refine evq0 (rn_conv rfl rfl U46 Tryz.underlying75) ?_
            refine ⟨by decide, ?_⟩
            obtain ⟨x13148, q13149, q13139⟩ := bind_some q13139
            refine evq_indexO rfl rfl rfl Tryz.underlying22 T46 o9844 q13149 ?_
            intro g13150 c13151 h13154 d13152 l13153
            refine evq (fun w' hw => rn_load rfl rfl (run_loadVar1 T46 ((hp.ext hw).cellE (i := 0) rfl h13154 d13152 (j := 0) rfl))) ?_
            refine evq0 (rn_conv rfl rfl U46 Tryz.underlying75) ?_
            intro w13156 hc
            have hs := hp.stp hc
            replace hp := hp.ext hc
            replace o9844 := o9844.step hs
            replace r1076 := r1076.step hs
            replace o9848 := o9848.step hs
            apply go
            refine W.quiet (fun w' => Ch [] w13156 w') MX (by kernel_rfl) (Ch.drew [] w13156) ?_
            obtain ⟨x13157, q13158, q13139⟩ := bind_some q13139
            refine evq_index rfl rfl rfl Tryz.underlying22 T46 r1076 q13158 ?_
            intro p13159 c13160 d13161 a13162
            obtain rfl : c13160 = [(.int .u32 x13157)] := d13161
            refine evq (fun w' hw => rn_load rfl rfl (run_loadVar1 T46 ((a13162.step (hp.stp hw)).2 0 _ rfl))) ?_
            refine evq0 (rn_conv rfl rfl U46 Tryz.underlying75) ?_
            obtain ⟨q13163, _, q13139⟩ := need_some q13139
            refine ⟨q13163, ?_⟩
            obtain ⟨x13164, q13165, q13139⟩ := bind_some q13139
            refine evq_index rfl rfl rfl Tryz.underlying22 T46 r1076 q13165 ?_
            intro p13166 c13167 d13168 a13169
            obtain rfl : c13167 = [(.int .u32 x13164)] := d13168
            refine evq (fun w' hw => rn_load rfl rfl (run_loadVar1 T46 ((a13169.step (hp.stp hw)).2 0 _ rfl))) ?_
            refine evq0 (rn_conv rfl rfl U46 Tryz.underlying75) ?_
            obtain ⟨q13170, _, q13139⟩ := need_some q13139
            refine ⟨q13170, ?_⟩
            intro w13171 hc
            have hs := hp.stp hc
            replace hp := hp.ext hc
            replace o9844 := o9844.step hs
            replace r1076 := r1076.step hs
            replace o9848 := o9848.step hs
            obtain ⟨y13310, q13311, q13139⟩ := bind_some q13139
            refine W.cut (γ := Int) (fun g => [(8, (.int .u64 (IntKind.u64.wrap x1036))), (9, v1062), (10, v1075), (11, (.int .i64 (x1073.length : Int))), (12, v1079), (13, (.int .i64 x9849)), (15, (.int .u64 (g)))]) (fun g w' => y13310 = (g) ∧ Hp ⟨w0, I0, []⟩ (Ad I1068 e1070) [e9843, e9847] w' ∧ OwnS (dI .u32) 46 w' (Ad I1068 e1070) v1062 e9843 x9841 ∧ RepS (dI .u32) w' (Ad I1068 e1070) v1075 x1073 ∧ OwnS (dI .u32) 46 w' (Ad I1068 e1070) v1079 e9847 x9845) ?_ ?_
            ·
              apply go
              refine W.loop q13311 (γ := Unit) (fun s _ => [(8, (.int .u64 (IntKind.u64.wrap x1036))), (9, v1062), (10, v1075), (11, (.int .i64 (x1073.length : Int))), (12, v1079), (13, (.int .i64 x9849)), (15, (.int .u64 (s.1))), (16, (.int .u64 (s.2)))]) (fun s _ w' => Hp ⟨w0, I0, []⟩ (Ad I1068 e1070) [e9843, e9847] w' ∧ OwnS (dI .u32) 46 w' (Ad I1068 e1070) v1062 e9843 x9841 ∧ RepS (dI .u32) w' (Ad I1068 e1070) v1075 x1073 ∧ OwnS (dI .u32) 46 w' (Ad I1068 e1070) v1079 e9847 x9845) () (.c rfl (.c rfl (.c rfl (.c rfl (.c rfl (.c rfl (.c rfl (.c rfl .n)))))))) ⟨hp, o9844, r1076, o9848⟩ ?_
              rintro ⟨x13354, x13355⟩ ⟨⟩ w13400 y13401 ⟨hp, o9844, r1076, o9848⟩ q13402 q13403
              unfold integer_divide_L91 at q13402
              apply go
              obtain ⟨y13422, q13423, q13402⟩ := bind_some q13402
              refine W.cut (γ := Bool) (fun g => [(8, (.int .u64 (IntKind.u64.wrap x1036))), (9, v1062), (10, v1075), (11, (.int .i64 (x1073.length : Int))), (12, v1079), (13, (.int .i64 x9849)), (15, (.int .u64 x13354)), (16, (.int .u64 x13355)), (136, (.bool (g)))]) (fun g w' => y13422 = (g) ∧ Hp ⟨w0, I0, []⟩ (Ad I1068 e1070) [e9843, e9847] w' ∧ OwnS (dI .u32) 46 w' (Ad I1068 e1070) v1062 e9843 x9841 ∧ RepS (dI .u32) w' (Ad I1068 e1070) v1075 x1073 ∧ OwnS (dI .u32) 46 w' (Ad I1068 e1070) v1079 e9847 x9845) ?_ ?_
              ·
                refine W.quiet (fun w' => Ch [] w13400 w') MX (by kernel_rfl) (Ch.drew [] w13400) ?_
                refine sel_of (fun hc => ?_) (fun hc => ?_)
                ·
                  have q13423 := cond_t q13423 hc
                  intro w13424 hc
                  have hs := hp.stp hc
                  replace hp := hp.ext hc
                  replace o9844 := o9844.step hs
                  replace r1076 := r1076.step hs
                  replace o9848 := o9848.step hs
                  obtain rfl := Option.some.inj q13423
                  exact ⟨true, (.c rfl (.c rfl (.c rfl (.c rfl (.c rfl (.c rfl (.c rfl (.c rfl (.c rfl .n))))))))), rfl, hp, o9844, r1076, o9848⟩
                ·
                  have q13423 := cond_f q13423 hc
                  obtain ⟨x13425, q13426, q13423⟩ := bind_some q13423
                  refine evq_index rfl rfl rfl Tryz.underlying22 T46 r1076 q13426 ?_
                  intro p13427 c13428 d13429 a13430
                  obtain rfl : c13428 = [(.int .u32 x13425)] := d13429
                  refine evq (fun w' hw => rn_load rfl rfl (run_loadVar1 T46 ((a13430.step (hp.stp hw)).2 0 _ rfl))) ?_
                  refine evq0 (rn_conv rfl rfl U46 Tryz.underlying75) ?_
                  refine ⟨by decide, ?_⟩
                  obtain ⟨x13431, q13432, q13423⟩ := bind_some q13423
                  refine evq_indexO rfl rfl rfl Tryz.underlying22 T46 o9844 q13432 ?_
                  intro g13433 c13434 h13437 d13435 l13436
                  refine evq (fun w' hw => rn_load rfl rfl (run_loadVar1 T46 ((hp.ext hw).cellE (i := 0) rfl h13437 d13435 (j := 0) rfl))) ?_
                  refine evq0 (rn_conv rfl rfl U46 Tryz.underlying75) ?_
                  intro w13439 hc
                  have hs := hp.stp hc
                  replace hp := hp.ext hc
                  replace o9844 := o9844.step hs
                  replace r1076 := r1076.step hs
                  replace o9848 := o9848.step hs
                  replace a13430 := a13430.step hs
                  obtain rfl := Option.some.inj q13423
                  exact ⟨(decide ((IntKind.u64.wrap (x13354 * (IntKind.u64.wrap x13425))) > (ib .or .u64 (IntKind.u64.wrap (x13355 * 2 ^ min (32 : Int).toNat (IntKind.u64).bits)) (IntKind.u64.wrap x13431)))), (.c rfl (.c rfl (.c rfl (.c rfl (.c rfl (.c rfl (.c rfl (.c rfl (.c rfl .n))))))))), rfl, hp, o9844, r1076, o9848⟩
              ·
                rintro x13420 w13421 ⟨hy, hp, o9844, r1076, o9848⟩
                replace hy := hy.symm
                subst hy
                apply go
                refine sel_of (fun hc => ?_) (fun hc => ?_)
                ·
                  have q13402 := cond_t q13402 hc
                  apply go
                  apply go
                  apply go
                  apply go
                  apply go
                  apply go
                  obtain ⟨x13440, q13441, q13402⟩ := bind_some q13402
                  refine ev_index rfl rfl rfl Tryz.underlying22 T46 r1076 q13441 ?_
                  intro p13442 c13443 d13444 a13445
                  obtain rfl : c13443 = [(.int .u32 x13440)] := d13444
                  refine ev (rn_load rfl rfl (run_loadVar1 T46 (a13445.2 0 _ rfl))) ?_
                  refine ev0 (rn_conv rfl rfl U46 Tryz.underlying75) ?_
                  apply go
                  apply go
                  apply go
                  refine sel_of (fun hc => ?_) (fun hc => ?_)
                  ·
                    have q13402 := cond_t q13402 hc
                    apply go
                    have q13446 := congrArg some (q13403 _ (Option.some.inj q13402).symm)
                    obtain rfl := Option.some.inj q13446
                    exact ⟨(IntKind.u64.wrap (x13354 - 1)), (.c rfl (.c rfl (.c rfl (.c rfl (.c rfl (.c rfl (.c rfl .n))))))), rfl, hp, o9844, r1076, o9848⟩
                  ·
                    have q13402 := cond_f q13402 hc
                    apply go
                    exact ⟨_, (Option.some.inj q13402).symm, (), (.c rfl (.c rfl (.c rfl (.c rfl (.c rfl (.c rfl (.c rfl (.c rfl .n)))))))), ⟨hp, o9844, r1076, o9848⟩⟩
                ·
                  have q13402 := cond_f q13402 hc
                  apply go
                  have q13447 := congrArg some (q13403 _ (Option.some.inj q13402).symm)
                  obtain rfl := Option.some.inj q13447
                  exact ⟨x13354, (.c rfl (.c rfl (.c rfl (.c rfl (.c rfl (.c rfl (.c rfl .n))))))), rfl, hp, o9844, r1076, o9848⟩
            ·
              rintro x13308 w13309 ⟨hy, hp, o9844, r1076, o9848⟩
              replace hy := hy.symm
              subst hy
              apply go
              apply go
              apply go
              apply go
              obtain ⟨y13567, q13568, q13139⟩ := bind_some q13139
              refine W.cut (γ := ((List Int) × Int × Int × Ent)) (fun g => [(8, (.int .u64 (IntKind.u64.wrap x1036))), (9, v1062), (10, v1075), (11, (.int .i64 (x1073.length : Int))), (12, v1079), (13, (.int .i64 x9849)), (15, (.int .u64 x13308)), (17, (.int .u64 (g.2.1))), (18, (.int .u32 (g.2.2.1)))]) (fun g w' => y13567 = ((g.1), (g.2.1), (g.2.2.1)) ∧ Hp ⟨w0, I0, []⟩ (Ad I1068 e1070) [(g.2.2.2), e9847] w' ∧ OwnS (dI .u32) 46 w' (Ad I1068 e1070) v1062 (g.2.2.2) (g.1) ∧ RepS (dI .u32) w' (Ad I1068 e1070) v1075 x1073 ∧ OwnS (dI .u32) 46 w' (Ad I1068 e1070) v1079 e9847 x9845) ?_ ?_
              ·
                apply go
                apply go
                refine ev0 (rn_len rfl rfl Tryz.underlying22 r1076) ?_
                apply go
                refine W.loop q13568 (γ := Ent) (fun s g => [(8, (.int .u64 (IntKind.u64.wrap x1036))), (9, v1062), (10, v1075), (11, (.int .i64 (x1073.length : Int))), (12, v1079), (13, (.int .i64 x9849)), (15, (.int .u64 x13308)), (17, (.int .u64 (s.2.1))), (18, (.int .u32 (s.2.2.1))), (149, v1075), (150, (.int .i64 (x1073.length : Int))), (151, (.int .i64 (s.2.2.2)))]) (fun s g w' => Hp ⟨w0, I0, []⟩ (Ad I1068 e1070) [(g), e9847] w' ∧ OwnS (dI .u32) 46 w' (Ad I1068 e1070) v1062 (g) (s.1) ∧ RepS (dI .u32) w' (Ad I1068 e1070) v1075 x1073 ∧ OwnS (dI .u32) 46 w' (Ad I1068 e1070) v1079 e9847 x9845) e9843 (.c rfl (.c rfl (.c rfl (.c rfl (.c rfl (.c rfl (.c rfl (.c rfl (.c rfl (.c rfl (.c rfl (.c rfl .n)))))))))))) ⟨hp, o9844, r1076, o9848⟩ ?_
                rintro ⟨x13600, x13604, x13605, x13606⟩ e13602 w13645 y13646 ⟨hp, o13603, r1076, o9848⟩ q13647 q13648
                unfold integer_divide_L93 at q13647
                apply go
                apply go
                apply go
                apply go
                refine sel_of (fun hc => ?_) (fun hc => ?_)
                ·
                  have q13647 := cond_t q13647 hc
                  apply go
                  apply go
                  apply go
                  apply go
                  apply go
                  obtain ⟨x13649, q13650, q13647⟩ := bind_some q13647
                  refine ev_index rfl rfl rfl Tryz.underlying22 T46 r1076 q13650 ?_
                  intro p13651 c13652 d13653 a13654
                  obtain rfl : c13652 = [(.int .u32 x13649)] := d13653
                  refine ev (rn_load rfl rfl (run_loadVar1 T46 (a13654.2 0 _ rfl))) ?_
                  apply go
                  apply go
                  refine ev0 (rn_conv rfl rfl U46 Tryz.underlying75) ?_
                  apply go
                  apply go
                  refine ⟨by decide, ?_⟩
                  apply go
                  obtain ⟨x13655, q13656, q13647⟩ := bind_some q13647
                  refine ev_indexO rfl rfl rfl Tryz.underlying22 T46 o13603 q13656 ?_
                  intro g13657 c13658 h13661 d13659 l13660
                  refine ev (rn_load rfl rfl (run_loadVar1 T46 (hp.cellE (i := 0) rfl h13661 d13659 (j := 0) rfl))) ?_
                  refine ev0 (rn_conv rfl rfl U75 Tryz.underlying46) ?_
                  obtain ⟨⟨x13663, x13664⟩, q13665, q13647⟩ := bind_some q13647
                  refine ev_call rfl rfl C108 (((bits_Sub32_ok n) _ _  x13655 (IntKind.u32.wrap (IntKind.u64.wrap ((IntKind.u64.wrap (x13308 * (IntKind.u64.wrap x13649))) + x13604))) x13605 hp.imm _ q13665).mono ?_)
                  rintro _ w13666 ⟨rfl, hc⟩
                  have hs := hp.stp hc
                  replace hp := hp.ext hc
                  replace o13603 := o13603.step hs
                  replace r1076 := r1076.step hs
                  replace o9848 := o9848.step hs
                  obtain ⟨x13667, q13668, q13647⟩ := bind_some q13647
                  refine ev_indexO rfl rfl rfl Tryz.underlying22 T46 o13603 q13668 ?_
                  intro g13669 c13670 h13673 d13671 l13672
                  refine ev_storeE hp (i := 0) rfl h13673 rfl rfl rfl T46 o13603 q13668 (x0 := x13663) rfl ?_
                  intro e13676 w13675 hp hs o13677
                  replace r1076 := r1076.step hs
                  replace o9848 := o9848.step hs
                  apply go
                  exact ⟨_, (Option.some.inj q13647).symm, e13676, (.c rfl (.c rfl (.c rfl (.c rfl (.c rfl (.c rfl (.c rfl (.c rfl (.c rfl (.c rfl (.c rfl (.c rfl .n)))))))))))), ⟨hp, o13677, r1076, o9848⟩⟩
                ·
                  have q13647 := cond_f q13647 hc
                  apply go
                  have q13680 := congrArg some (q13648 _ (Option.some.inj q13647).symm)
                  obtain rfl := Option.some.inj q13680
                  exact ⟨(x13600, x13604, x13605, e13602), (.c rfl (.c rfl (.c rfl (.c rfl (.c rfl (.c rfl (.c rfl (.c rfl (.c rfl .n))))))))), rfl, hp, o13603, r1076, o9848⟩
              ·
                rintro ⟨x13560, x13564, x13565, e13562⟩ w13566 ⟨hy, hp, o13563, r1076, o9848⟩
                replace hy := hy.symm
                subst hy
                apply go
                apply go
                obtain ⟨x13681, q13682, q13139⟩ := bind_some q13139
                refine ev_indexO rfl rfl rfl Tryz.underlying22 T46 o13563 q13682 ?_
                intro g13683 c13684 h13687 d13685 l13686
                refine ev (rn_load rfl rfl (run_loadVar1 T46 (hp.cellE (i := 0) rfl h13687 d13685 (j := 0) rfl))) ?_
                refine ev0 (rn_conv rfl rfl U75 Tryz.underlying46) ?_
                obtain ⟨⟨x13689, x13690⟩, q13691, q13139⟩ := bind_some q13139
                refine ev_call rfl rfl C108 (((bits_Sub32_ok n) _ _  x13681 (IntKind.u32.wrap x13564) x13565 hp.imm _ q13691).mono ?_)
                rintro _ w13692 ⟨rfl, hc⟩
                have hs := hp.stp hc
                replace hp := hp.ext hc
                replace o13563 := o13563.step hs
                replace r1076 := r1076.step hs
                replace o9848 := o9848.step hs
                obtain ⟨x13693, q13694, q13139⟩ := bind_some q13139
                refine ev_indexO rfl rfl rfl Tryz.underlying22 T46 o13563 q13694 ?_
                intro g13695 c13696 h13699 d13697 l13698
                refine ev_storeE hp (i := 0) rfl h13699 rfl rfl rfl T46 o13563 q13694 (x0 := x13689) rfl ?_
                intro e13702 w13701 hp hs o13703
                replace r1076 := r1076.step hs
                replace o9848 := o9848.step hs
                obtain ⟨y13961, q13962, q13139⟩ := bind_some q13139
                refine W.cut (γ := ((List Int) × Int × Ent)) (fun g => [(8, (.int .u64 (IntKind.u64.wrap x1036))), (9, v1062), (10, v1075), (11, (.int .i64 (x1073.length : Int))), (12, v1079), (13, (.int .i64 x9849)), (15, (.int .u64 (g.2.1)))]) (fun g w' => y13961 = ((g.1), (g.2.1)) ∧ Hp ⟨w0, I0, []⟩ (Ad I1068 e1070) [(g.2.2), e9847] w' ∧ OwnS (dI .u32) 46 w' (Ad I1068 e1070) v1062 (g.2.2) (g.1) ∧ RepS (dI .u32) w' (Ad I1068 e1070) v1075 x1073 ∧ OwnS (dI .u32) 46 w' (Ad I1068 e1070) v1079 e9847 x9845) ?_ ?_
                ·
                  apply go
                  apply go
                  apply go
                  refine sel_of (fun hc => ?_) (fun hc => ?_)
                  ·
                    have q13962 := cond_t q13962 hc
                    apply go
                    apply go
                    apply go
                    apply go
                    obtain ⟨y14079, q14080, q13962⟩ := bind_some q13962
                    refine W.cut (γ := ((List Int) × Int × Ent)) (fun g => [(8, (.int .u64 (IntKind.u64.wrap x1036))), (9, v1062), (10, v1075), (11, (.int .i64 (x1073.length : Int))), (12, v1079), (13, (.int .i64 x9849)), (15, (.int .u64 (IntKind.u64.wrap (x13308 - 1)))), (22, (.int .u32 (g.2.1)))]) (fun g w' => y14079 = ((g.1), (g.2.1)) ∧ Hp ⟨w0, I0, []⟩ (Ad I1068 e1070) [(g.2.2), e9847] w' ∧ OwnS (dI .u32) 46 w' (Ad I1068 e1070) v1062 (g.2.2) (g.1) ∧ RepS (dI .u32) w' (Ad I1068 e1070) v1075 x1073 ∧ OwnS (dI .u32) 46 w' (Ad I1068 e1070) v1079 e9847 x9845) ?_ ?_
                    ·
                      apply go
                      apply go
                      refine ev0 (rn_len rfl rfl Tryz.underlying22 r1076) ?_
                      apply go
                      refine W.loop q14080 (γ := Ent) (fun s g => [(8, (.int .u64 (IntKind.u64.wrap x1036))), (9, v1062), (10, v1075), (11, (.int .i64 (x1073.length : Int))), (12, v1079), (13, (.int .i64 x9849)), (15, (.int .u64 (IntKind.u64.wrap (x13308 - 1)))), (22, (.int .u32 (s.2.1))), (205, v1075), (206, (.int .i64 (x1073.length : Int))), (207, (.int .i64 (s.2.2)))]) (fun s g w' => Hp ⟨w0, I0, []⟩ (Ad I1068 e1070) [(g), e9847] w' ∧ OwnS (dI .u32) 46 w' (Ad I1068 e1070) v1062 (g) (s.1) ∧ RepS (dI .u32) w' (Ad I1068 e1070) v1075 x1073 ∧ OwnS (dI .u32) 46 w' (Ad I1068 e1070) v1079 e9847 x9845) e13702 (.c rfl (.c rfl (.c rfl (.c rfl (.c rfl (.c rfl (.c rfl (.c rfl (.c rfl (.c rfl (.c rfl .n))))))))))) ⟨hp, o13703, r1076, o9848⟩ ?_
                      rintro ⟨x14112, x14116, x14117⟩ e14114 w14155 y14156 ⟨hp, o14115, r1076, o9848⟩ q14157 q14158
                      unfold integer_divide_L97 at q14157
                      apply go
                      apply go
                      apply go
                      apply go
                      refine sel_of (fun hc => ?_) (fun hc => ?_)
                      ·
                        have q14157 := cond_t q14157 hc
                        apply go
                        apply go
                        apply go
                        apply go
                        apply go
                        obtain ⟨x14159, q14160, q14157⟩ := bind_some q14157
                        refine ev_index rfl rfl rfl Tryz.underlying22 T46 r1076 q14160 ?_
                        intro p14161 c14162 d14163 a14164
                        obtain rfl : c14162 = [(.int .u32 x14159)] := d14163
                        refine ev (rn_load rfl rfl (run_loadVar1 T46 (a14164.2 0 _ rfl))) ?_
                        apply go
                        obtain ⟨x14165, q14166, q14157⟩ := bind_some q14157
                        refine ev_indexO rfl rfl rfl Tryz.underlying22 T46 o14115 q14166 ?_
                        intro g14167 c14168 h14171 d14169 l14170
                        refine ev (rn_load rfl rfl (run_loadVar1 T46 (hp.cellE (i := 0) rfl h14171 d14169 (j := 0) rfl))) ?_
                        obtain ⟨⟨x14173, x14174⟩, q14175, q14157⟩ := bind_some q14157
                        refine ev_call rfl rfl C109 (((bits_Add32_ok n) _ _  x14165 x14159 x14116 hp.imm _ q14175).mono ?_)
                        rintro _ w14176 ⟨rfl, hc⟩
                        have hs := hp.stp hc
                        replace hp := hp.ext hc
                        replace o14115 := o14115.step hs
                        replace r1076 := r1076.step hs
                        replace o9848 := o9848.step hs
                        obtain ⟨x14177, q14178, q14157⟩ := bind_some q14157
                        refine ev_indexO rfl rfl rfl Tryz.underlying22 T46 o14115 q14178 ?_
                        intro g14179 c14180 h14183 d14181 l14182
                        refine ev_storeE hp (i := 0) rfl h14183 rfl rfl rfl T46 o14115 q14178 (x0 := x14173) rfl ?_
                        intro e14186 w14185 hp hs o14187
                        replace r1076 := r1076.step hs
                        replace o9848 := o9848.step hs
                        apply go
                        exact ⟨_, (Option.some.inj q14157).symm, e14186, (.c rfl (.c rfl (.c rfl (.c rfl (.c rfl (.c rfl (.c rfl (.c rfl (.c rfl (.c rfl (.c rfl .n))))))))))), ⟨hp, o14187, r1076, o9848⟩⟩
                      ·
                        have q14157 := cond_f q14157 hc
                        apply go
                        have q14190 := congrArg some (q14158 _ (Option.some.inj q14157).symm)
                        obtain rfl := Option.some.inj q14190
                        exact ⟨(x14112, x14116, e14114), (.c rfl (.c rfl (.c rfl (.c rfl (.c rfl (.c rfl (.c rfl (.c rfl .n)))))))), rfl, hp, o14115, r1076, o9848⟩
                    ·
                      rintro ⟨x14073, x14077, e14075⟩ w14078 ⟨hy, hp, o14076, r1076, o9848⟩
                      replace hy := hy.symm
                      subst hy
                      apply go
                      obtain ⟨x14191, q14192, q13962⟩ := bind_some q13962
                      refine ev_indexO rfl rfl rfl Tryz.underlying22 T46 o14076 q14192 ?_
                      intro g14193 c14194 h14197 d14195 l14196
                      refine ev (rn_load rfl rfl (run_loadVar1 T46 (hp.cellE (i := 0) rfl h14197 d14195 (j := 0) rfl))) ?_
                      obtain ⟨x14199, q14200, q13962⟩ := bind_some q13962
                      refine ev_indexO rfl rfl rfl Tryz.underlying22 T46 o14076 q14200 ?_
                      intro g14201 c14202 h14205 d14203 l14204
                      refine ev_storeE hp (i := 0) rfl h14205 rfl rfl rfl T46 o14076 q14200 (x0 := (IntKind.u32.wrap (x14191 + x14077))) rfl ?_
                      intro e14208 w14207 hp hs o14209
                      replace r1076 := r1076.step hs
                      replace o9848 := o9848.step hs
                      obtain rfl := Option.some.inj q13962
                      exact ⟨((upd x14073 (IntKind.i64.wrap (x9849 + (x1073.length : Int))) (IntKind.u32.wrap (x14191 + x14077))), (IntKind.u64.wrap (x13308 - 1)), e14208), (.c rfl (.c rfl (.c rfl (.c rfl (.c rfl (.c rfl (.c rfl .n))))))), rfl, hp, o14209, r1076, o9848⟩
                  ·
                    have q13962 := cond_f q13962 hc
                    apply go
                    obtain rfl := Option.some.inj q13962
                    exact ⟨((upd x13560 (IntKind.i64.wrap (x9849 + (x1073.length : Int))) x13689), x13308, e13702), (.c rfl (.c rfl (.c rfl (.c rfl (.c rfl (.c rfl (.c rfl .n))))))), rfl, hp, o13703, r1076, o9848⟩
                ·
                  rintro ⟨x13955, x13959, e13957⟩ w13960 ⟨hy, hp, o13958, r1076, o9848⟩
                  replace hy := hy.symm
                  subst hy
                  apply go
                  refine ev0 (rn_conv rfl rfl U75 Tryz.underlying46) ?_
                  obtain ⟨x14212, q14213, q13139⟩ := bind_some q13139
                  refine ev_indexO rfl rfl rfl Tryz.underlying22 T46 o9848 q14213 ?_
                  intro g14214 c14215 h14218 d14216 l14217
                  refine ev_storeE hp (i := 1) rfl h14218 rfl rfl rfl T46 o9848 q14213 (x0 := (IntKind.u32.wrap x13959)) rfl ?_
                  intro e14221 w14220 hp hs o14222
                  replace o13958 := o13958.step hs
                  replace r1076 := r1076.step hs
                  obtain rfl := Option.some.inj q13139
                  exact ⟨(x13955, (upd x9845 x9849 (IntKind.u32.wrap x13959)), e13957, e14221), (.c rfl (.c rfl (.c rfl (.c rfl (.c rfl (.c rfl .n)))))), rfl, hp, o13958, r1076, o14222⟩
          ·
            rintro ⟨x13129, x13133, e13131, e13135⟩ w13137 ⟨hy, hp, o13132, r1076, o13136⟩
            replace hy := hy.symm
            subst hy
            apply go
            exact ⟨_, (Option.some.inj q12042).symm, (e13131, e13135), (.c rfl (.c rfl (.c rfl (.c rfl (.c rfl (.c rfl .n)))))), ⟨hp, o13132, r1076, o13136⟩⟩
        ·
          have q12042 := cond_f q12042 hc
          apply go
          have q14225 := congrArg some (q12043 _ (Option.some.inj q12042).symm)
          obtain rfl := Option.some.inj q14225
          exact ⟨(x9841, x9845, e9843, e9847), (.c rfl (.c rfl (.c rfl (.c rfl .n)))), rfl, hp, o9844, o9848⟩
      ·
        rintro ⟨x7649, x7653, e7651, e7655⟩ w7657 ⟨hy, hp, o7652, o7656⟩
        replace hy := hy.symm
        subst hy
        apply go
        apply go
        obtain ⟨x14226, q14227, h⟩ := bind_some h
        refine ev_make (d := (dI .u32)) (x0 := 0) hp rfl rfl rfl Tryz.underlying22 T46 (fun _ _ => rfl) (Nat.le_of_ble_eq_true rfl) q14227 ?_
        intro v14228 e14229 w14230 hp hs o14231
        replace o7652 := o7652.step hs
        replace o7656 := o7656.step hs
        obtain ⟨y14345, q14346, h⟩ := bind_some h
        refine W.cut (γ := ((List Int) × Ent)) (fun g => [(12, v1079), (25, v14228)]) (fun g w' => y14345 = (g.1) ∧ Hp ⟨w0, I0, []⟩ (Ad I1068 e1070) [e7655, (g.2)] w' ∧ OwnS (dI .u32) 46 w' (Ad I1068 e1070) v1079 e7655 x7653 ∧ OwnS (dI .u32) 46 w' (Ad I1068 e1070) v14228 (g.2) (g.1)) ?_ ?_
        ·
          apply go
          apply go
          refine ev0 (x_lenO rfl rfl Tryz.underlying22 o14231) ?_
          apply go
          have hp := hp.perm [1, 2, 0] (by decide)
          refine W.loop q14346 (γ := Ent) (fun s g => [(8, (.int .u64 (IntKind.u64.wrap x1036))), (9, v1062), (12, v1079), (25, v14228), (247, (.int .i64 (x14226.length : Int))), (248, (.int .i64 (s.2)))]) (fun s g w' => Hp ⟨w0, I0, []⟩ (Ad I1068 e1070) [e7651, e7655, (g)] w' ∧ OwnS (dI .u32) 46 w' (Ad I1068 e1070) v1062 e7651 x7649 ∧ OwnS (dI .u32) 46 w' (Ad I1068 e1070) v1079 e7655 x7653 ∧ OwnS (dI .u32) 46 w' (Ad I1068 e1070) v14228 (g) (s.1)) e14229 (.c rfl (.c rfl (.c rfl (.c rfl (.c rfl (.c rfl .n)))))) ⟨hp, o7652, o7656, o14231⟩ ?_
          rintro ⟨x14378, x14382⟩ e14380 w14419 y14420 ⟨hp, o7652, o7656, o14381⟩ q14421 q14422
          unfold integer_divide_L99 at q14421
          apply go
          apply go
          apply go
          apply go
          refine sel_of (fun hc => ?_) (fun hc => ?_)
          ·
            have q14421 := cond_t q14421 hc
            apply go
            apply go
            apply go
            apply go
            apply go
            have hs := hp.stp (Ch.drew [] w14419)
            have hp := hp.drew
            replace o7652 := o7652.step hs
            replace o7656 := o7656.step hs
            replace o14381 := o14381.step hs
            refine W.tail 19 MX (by kernel_rfl) ?_
            obtain ⟨x14424, q14425, q14421⟩ := bind_some q14421
            refine evs_indexO rfl rfl rfl Tryz.underlying22 T46 o7652 q14425 ?_
            intro g14426 c14427 h14430 d14428 l14429
            refine evs (rn_load rfl rfl (run_loadVar1 T46 (hp.cellE (i := 0) rfl h14430 d14428 (j := 0) rfl))) ?_
            refine evs0 (rn_conv rfl rfl U46 Tryz.underlying75) ?_
            refine ⟨by decide, ?_⟩
            obtain ⟨x14432, q14433, q14421⟩ := bind_some q14421
            refine evs_indexO rfl rfl rfl Tryz.underlying22 T46 o7652 q14433 ?_
            intro g14434 c14435 h14438 d14436 l14437
            refine evs (rn_load rfl rfl (run_loadVar1 T46 (hp.cellE (i := 0) rfl h14438 d14436 (j := 0) rfl))) ?_
            refine evs0 (rn_conv rfl rfl U46 Tryz.underlying75) ?_
            obtain ⟨q14440, _, q14421⟩ := need_some q14421
            refine ⟨q14440, ?_⟩
            refine evs0 (rn_conv rfl rfl U75 Tryz.underlying46) ?_
            obtain ⟨x14441, q14442, q14421⟩ := bind_some q14421
            refine evs_indexO rfl rfl rfl Tryz.underlying22 T46 o14381 q14442 ?_
            intro g14443 c14444 h14447 d14445 l14446
            refine ev_storeE hp (i := 2) rfl h14447 rfl rfl rfl T46 o14381 q14442 (x0 := (IntKind.u32.wrap ((ib .or .u64 (IntKind.u64.wrap ((IntKind.u64.wrap x14424) * 2 ^ min (32 : Int).toNat (IntKind.u64).bits)) (IntKind.u64.wrap x14432)).fdiv (2 ^ min (IntKind.u64.wrap x1036).toNat (IntKind.u64).bits)))) rfl ?_
            intro e14450 w14449 hp hs o14451
            replace o7652 := o7652.step hs
            replace o7656 := o7656.step hs
            apply go
            exact ⟨_, (Option.some.inj q14421).symm, e14450, (.c rfl (.c rfl (.c rfl (.c rfl (.c rfl (.c rfl .n)))))), ⟨hp, o7652, o7656, o14451⟩⟩
          ·
            have q14421 := cond_f q14421 hc
            apply go
            have q14454 := congrArg some (q14422 _ (Option.some.inj q14421).symm)
            obtain rfl := Option.some.inj q14454
            have hp := hp.sel [1, 2] (by decide)
            exact ⟨(x14378, e14380), (.c rfl (.c rfl .n)), rfl, hp, o7656, o14381⟩
        ·
          rintro ⟨x14340, e14342⟩ w14344 ⟨hy, hp, o7656, o14343⟩
          replace hy := hy.symm
          subst hy
          apply go
          apply go
          apply go
          obtain rfl := Option.some.inj h
          have r14455 := o7656.frz hp (i := 0) rfl
          obtain ⟨hp, hs⟩ := freeze_hp hp (i := 0) rfl
          replace o14343 := o14343.step hs
          have hp := hp.sel [1] (by decide)
          have r14456 := o14343.frz hp (i := 0) rfl
          obtain ⟨hp, hs⟩ := freeze_hp hp (i := 0) rfl
          replace r14455 := r14455.step hs
          have hp := hp.sel [] (by decide)
          exact ⟨(Ad (Ad (Ad I1068 e1070) e7655) e14342), v1079, v14228, rfl, hp, r14455, r14456⟩

end Go.Proofs.YtepadjfmcbjkmaaGreatDoor

namespace Go.Proofs.YtepadjfmcbjkmaaGreatDoor
open Go Go.Proofs.YtepadjfmcbjkmaaGreatDoor.Gw Go.RowKit
set_option linter.unusedVariables false
attribute [local irreducible] Ev EvQ EvS EvH
def integer_DivMod_S (f : Int_2 → Int_2 → Option (Int_2 × Int_2 × Int)) : Prop := ∀ (w0 : World) (I0 : Nat → Prop) (x15353 : Int_2) (v15354 : Value) (r15355 : RepS (dI .u32) w0 I0 v15354 x15353.Mag) (x15356 : Int_2) (v15357 : Value) (r15358 : RepS (dI .u32) w0 I0 v15357 x15356.Mag) (hI : ∀ g, I0 g → g < w0.heap.size) (r : (Int_2 × Int_2 × Int)), f x15353 x15356 = some r →
    Ret Tryz.prog 49 #[(.agg #[(.bool x15353.Neg), v15354]), (.agg #[(.bool x15356.Neg), v15357])] w0 fun v w1 => ∃ (I1 : Nat → Prop) (u15359 : Value) (u15360 : Value), v = (.tuple #[(.agg #[(.bool r.1.Neg), u15359]), (.agg #[(.bool r.2.1.Neg), u15360]), (.int .i64 r.2.2)]) ∧ Hp ⟨w0, I0, []⟩ I1 [] w1 ∧ RepS (dI .u32) w1 I1 u15359 r.1.Mag ∧ RepS (dI .u32) w1 I1 u15360 r.2.1.Mag
theorem integer_DivMod_ok (n : Nat) : integer_DivMod_S (integer_DivMod n) := by
  intro w0 I0 x15353 v15354 r15355 x15356 v15357 r15358 hI r h
  unfold integer_DivMod at h
  refine enter Tryz.func49 rfl (Nat.le_of_ble_eq_true rfl) ?_
  have hp : Hp ⟨w0, I0, []⟩ I0 [] w0 := Hp.start hI
  apply go
  apply go
  refine ev_boxI hp rfl rfl ?_
  intro p15363 I15364 w15362 hp hs a15365
  replace r15358 := r15358.step hs
  replace r15355 := r15355.step hs
  refine ev_boxI hp rfl rfl ?_
  intro p15368 I15369 w15367 hp hs a15370
  replace a15365 := a15365.step hs
  replace r15355 := r15355.step hs
  replace r15358 := r15358.step hs
  refine ev_alloc hp rfl T24 ?_
  intro g15371 w15372 hp hs
  replace a15365 := a15365.step hs
  replace r15355 := r15355.step hs
  replace a15370 := a15370.step hs
  replace r15358 := r15358.step hs
  refine ev_alloc hp rfl T24 ?_
  intro g15373 w15374 hp hs
  replace a15365 := a15365.step hs
  replace r15355 := r15355.step hs
  replace a15370 := a15370.step hs
  replace r15358 := r15358.step hs
  apply go
  have hs := hp.stp (Ch.drew [] w15374)
  have hp := hp.drew
  replace a15365 := a15365.step hs
  replace r15355 := r15355.step hs
  replace a15370 := a15370.step hs
  replace r15358 := r15358.step hs
  refine W.held [(0, true), (1, true), (3, true), (4, true), (2, false), (5, false), (6, true), (7, true)] (Stp I15369 w15374.drew I15369) MX (by kernel_rfl) (Stp.refl _ _) ?_
  have hz := Stp.refl I15369 w15374.drew
  refine evh0 (rn_field rfl rfl FO24_1) ?_
  refine evh (fun w' hw => rn_load rfl rfl (run_loadVar1 T22 ((a15365.step hw).2 1 _ rfl))) ?_
  refine evh0 (rn_field rfl rfl FO24_1) ?_
  refine evh (fun w' hw => rn_load rfl rfl (run_loadVar1 T22 ((a15370.step hw).2 1 _ rfl))) ?_
  obtain ⟨x15387, q15388, h⟩ := bind_some h
  refine ev_call rfl rfl C72 (((integer_trim_ok n) _ _  x15353.Mag v15354 r15355 hp.imm _ q15388).mono ?_)
  rintro _ w15389 ⟨I15390, v15391, hv, hq, r15392⟩
  replace hv := hv.symm
  subst hv
  have hs := hq.st
  have hp := hp.join0 hq
  replace hz := hz.trans hs
  replace a15365 := a15365.step hs
  replace r15355 := r15355.step hs
  replace a15370 := a15370.step hs
  replace r15358 := r15358.step hs
  refine ⟨Stp I15390 w15389 I15390, Stp.refl _ _, fun x hx => hz.held hx, ?_⟩
  have hz := Stp.refl I15390 w15389
  obtain ⟨x15393, q15394, h⟩ := bind_some h
  refine ev_call rfl rfl C72 (((integer_trim_ok n) _ _  x15356.Mag v15357 r15358 hp.imm _ q15394).mono ?_)
  rintro _ w15395 ⟨I15396, v15397, hv, hq, r15398⟩
  replace hv := hv.symm
  subst hv
  have hs := hq.st
  have hp := hp.join0 hq
  replace hz := hz.trans hs
  replace a15365 := a15365.step hs
  replace r15355 := r15355.step hs
  replace a15370 := a15370.step hs
  replace r15358 := r15358.step hs
  replace r15392 := r15392.step hs
  refine ⟨Stp I15396 w15395 I15396, Stp.refl _ _, fun x hx => hz.held hx, ?_⟩
  have hz := Stp.refl I15396 w15395
  apply go
  apply go
  apply go
  refine ev0 (rn_len rfl rfl Tryz.underlying22 r15398) ?_
  apply go
  refine sel_of (fun hc => ?_) (fun hc => ?_)
  ·
    have h := cond_t h hc
    apply go
    apply go
    refine ev0 (fun w => rn_build (cs := [(.bool false), (.slice none 0 0)]) rfl rfl T24 PL24 rfl) ?_
    refine ev0 (fun w => rn_build (cs := [(.bool false), (.slice none 0 0)]) rfl rfl T24 PL24 rfl) ?_
    refine ev_storeA hp (i := 1) (off := 0) (vs := [(.bool false), (.slice none 0 0)]) rfl rfl rfl rfl T24 rfl (Nat.le_of_ble_eq_true rfl) (ones_of rfl) ?_
    intro w15399 hp hs
    refine ev_storeA hp (i := 0) (off := 0) (vs := [(.bool false), (.slice none 0 0)]) rfl rfl rfl rfl T24 rfl (Nat.le_of_ble_eq_true rfl) (ones_of rfl) ?_
    intro w15400 hp hs
    apply go
    obtain rfl := Option.some.inj h
    refine ⟨_, run_loadVarA T24 rfl (hp.at_ (i := 1) rfl), ?_⟩
    refine ⟨_, run_loadVarA T24 rfl (hp.at_ (i := 0) rfl), ?_⟩
    have hp := hp.sel [] (by decide)
    exact ⟨I15396, .slice none 0 0, .slice none 0 0, rfl, hp, RepS.nil _ _ _, RepS.nil _ _ _⟩
  ·
    have h := cond_f h hc
    apply go
    apply go
    apply go
    obtain ⟨⟨x15401, x15402⟩, q15403, h⟩ := bind_some h
    refine ev_call rfl rfl C82 (((integer_divide_ok n) _ _  x15387 v15391 r15392 x15393 v15397 r15398 hp.imm _ q15403).mono ?_)
    rintro _ w15404 ⟨I15405, v15406, v15408, hv, hq, r15407, r15409⟩
    replace hv := hv.symm
    subst hv
    have hs := hq.st
    have hp := hp.join0 hq
    replace a15365 := a15365.step hs
    replace r15355 := r15355.step hs
    replace a15370 := a15370.step hs
    replace r15358 := r15358.step hs
    replace r15398 := r15398.step hs
    obtain ⟨y15734, q15735, h⟩ := bind_some h
    refine W.cut (γ := (Bool × (List Int) × Bool × (List Int) × Nat × Value × Nat × Value × (Nat → Prop))) (fun g => [(3, (.pointer (some (p15368)))), (4, (.pointer (some ⟨g15371, 0, none⟩))), (5, (.pointer (some ⟨g15373, 0, none⟩))), (8, v15397), (11, (.pointer (some ⟨(g.2.2.2.2.1), 0, none⟩))), (12, (.pointer (some ⟨(g.2.2.2.2.2.2.1), 0, none⟩)))]) (fun g w' => y15734 = ((g.1), (g.2.1), (g.2.2.1), (g.2.2.2.1)) ∧ Hp ⟨w0, I0, []⟩ (g.2.2.2.2.2.2.2.2) [some (g15371, [(.bool false), (.slice none 0 0)], 24), some (g15373, [(.bool false), (.slice none 0 0)], 24), some ((g.2.2.2.2.1), [(.bool (g.1)), (g.2.2.2.2.2.1)], 24), some ((g.2.2.2.2.2.2.1), [(.bool (g.2.2.1)), (g.2.2.2.2.2.2.2.1)], 24)] w' ∧ RepS (dI .u32) w' (g.2.2.2.2.2.2.2.2) v15357 x15356.Mag ∧ At w' (g.2.2.2.2.2.2.2.2) p15368 [(.bool x15356.Neg), v15357] ∧ RepS (dI .u32) w' (g.2.2.2.2.2.2.2.2) v15397 x15393 ∧ RepS (dI .u32) w' (g.2.2.2.2.2.2.2.2) (g.2.2.2.2.2.1) (g.2.1) ∧ RepS (dI .u32) w' (g.2.2.2.2.2.2.2.2) (g.2.2.2.2.2.2.2.1) (g.2.2.2.1)) ?_ ?_
    ·
      have hs := hp.stp (Ch.drew [] w15404)
      have hp := hp.drew
      replace a15365 := a15365.step hs
      replace r15355 := r15355.step hs
      replace a15370 := a15370.step hs
      replace r15358 := r15358.step hs
      replace r15398 := r15398.step hs
      replace r15407 := r15407.step hs
      replace r15409 := r15409.step hs
      refine W.heldG (.q 0 (.q 1 (.q 2 (.q 3 (.q 4 (.q 5 (.q 7 (.q 8 (.q 9 (.l 6 (.l 10 (.l 11 (.l 12 (.l 13 (.l 14 .done .no) .no) .no) (.l 12 (.l 11 (.l 13 (.l 14 .done .no) .no) .no) .no)) (.l 11 (.l 10 (.l 12 (.l 13 (.l 14 .done .no) .no) .no) (.l 12 (.l 10 (.l 13 (.l 14 .done .no) .no) .no) .no)) (.l 12 (.l 10 (.l 11 (.l 13 (.l 14 .done .no) .no) .no) (.l 11 (.l 10 (.l 13 (.l 14 .done .no) .no) .no) .no)) .no))) (.l 11 (.l 6 (.l 10 (.l 12 (.l 13 (.l 14 .done .no) .no) .no) (.l 12 (.l 10 (.l 13 (.l 14 .done .no) .no) .no) .no)) (.l 12 (.l 6 (.l 10 (.l 13 (.l 14 .done .no) .no) .no) .no) .no)) (.l 12 (.l 6 (.l 10 (.l 11 (.l 13 (.l 14 .done .no) .no) .no) (.l 11 (.l 10 (.l 13 (.l 14 .done .no) .no) .no) .no)) (.l 11 (.l 6 (.l 10 (.l 13 (.l 14 .done .no) .no) .no) .no) .no)) .no)))))))))))) (SK (Stp I15405 w15404.drew I15405) [] []) MX (by kernel_rfl) ⟨Stp.refl _ _, kp_nil⟩ ?_
      have hz := Stp.refl I15405 w15404.drew
      refine ⟨SK.same (by kernel_rfl), ?_⟩
      refine evh0 (rn_field rfl rfl FO24_0) ?_
      refine ⟨SK.same (by kernel_rfl), ?_⟩
      refine evh (fun w' hw => rn_load rfl rfl (run_loadVar1 T4 ((a15365.step (S0.si hw)).2 0 _ rfl))) ?_
      refine ⟨SK.same (by kernel_rfl), ?_⟩
      refine evh0 (rn_field rfl rfl FO24_0) ?_
      refine ⟨SK.same (by kernel_rfl), ?_⟩
      refine evh (fun w' hw => rn_load rfl rfl (run_loadVar1 T4 ((a15370.step (S0.si hw)).2 0 _ rfl))) ?_
      refine ⟨SK.same (by kernel_rfl), ?_⟩
      refine evh0 (rn_neB rfl rfl rfl Tryz.underlying4) ?_
      refine ⟨SK.same (by kernel_rfl), ?_⟩
      refine ⟨SK.same (by kernel_rfl), ?_⟩
      refine evh0 (rn_field rfl rfl FO24_0) ?_
      refine ⟨SK.same (by kernel_rfl), ?_⟩
      refine evh (fun w' hw => rn_load rfl rfl (run_loadVar1 T4 ((a15365.step (S0.si hw)).2 0 _ rfl))) ?_
      refine ⟨SK.same (by kernel_rfl), ?_⟩
      refine ⟨?_, ?_⟩
      ·
        obtain ⟨x15892, q15893, q15735⟩ := bind_some q15735
        refine ev_call rfl rfl C80 (((integer_made_ok n) _ _  (!(x15353.Neg == x15356.Neg)) x15401 v15406 r15407 hp.imm _ q15893).mono ?_)
        rintro _ w15894 ⟨I15895, v15896, hv, hq, r15897⟩
        replace hv := hv.symm
        subst hv
        have hs := hq.st
        have hp := hp.join0 hq
        replace hz := hz.trans hs
        replace a15370 := a15370.step hs
        replace r15358 := r15358.step hs
        replace r15398 := r15398.step hs
        replace r15409 := r15409.step hs
        refine ⟨SK (Stp I15895 w15894 I15895) [] [], ⟨Stp.refl _ _, kp_nil⟩, fun L x h => ⟨hz.held h.1, h.2⟩, ?_⟩
        have hz := Stp.refl I15895 w15894
        refine ⟨?_, ?_⟩
        ·
          obtain ⟨x15898, q15899, q15735⟩ := bind_some q15735
          refine ev_call rfl rfl C80 (((integer_made_ok n) _ _  x15353.Neg x15402 v15408 r15409 hp.imm _ q15899).mono ?_)
          rintro _ w15900 ⟨I15901, v15902, hv, hq, r15903⟩
          replace hv := hv.symm
          subst hv
          have hs := hq.st
          have hp := hp.join0 hq
          replace hz := hz.trans hs
          replace a15370 := a15370.step hs
          replace r15358 := r15358.step hs
          replace r15398 := r15398.step hs
          replace r15897 := r15897.step hs
          refine ⟨SK (Stp I15901 w15900 I15901) [] [], ⟨Stp.refl _ _, kp_nil⟩, fun L x h => ⟨hz.held h.1, h.2⟩, ?_⟩
          have hz := Stp.refl I15901 w15900
          refine ⟨?_, ?_⟩
          ·
            refine ev_alloc hp rfl T24 ?_
            intro g15904 w15905 hp hs
            replace hz := hz.trans hs
            replace a15370 := a15370.step hs
            replace r15358 := r15358.step hs
            replace r15398 := r15398.step hs
            replace r15897 := r15897.step hs
            replace r15903 := r15903.step hs
            refine ⟨SK (Stp I15901 w15905 I15901) [] [], ⟨Stp.refl _ _, kp_nil⟩, fun L x h => ⟨hz.held h.1, h.2⟩, ?_⟩
            have hz := Stp.refl I15901 w15905
            refine ⟨?_, trivial⟩
            refine ev_alloc hp rfl T24 ?_
            intro g15906 w15907 hp hs
            replace hz := hz.trans hs
            replace a15370 := a15370.step hs
            replace r15358 := r15358.step hs
            replace r15398 := r15398.step hs
            replace r15897 := r15897.step hs
            replace r15903 := r15903.step hs
            refine ⟨SK (Stp I15901 w15907 I15901) [] [], ⟨Stp.refl _ _, kp_nil⟩, fun L x h => ⟨hz.held h.1, h.2⟩, ?_⟩
            have hz := Stp.refl I15901 w15907
            refine ⟨?_, trivial⟩
            refine ev_storeA hp (i := 1) (off := 0) (vs := [(.bool x15892.Neg), v15896]) rfl rfl rfl rfl T24 rfl (Nat.le_of_ble_eq_true rfl) (ones_cons rfl (ones_cons r15897.one ones_nil)) ?_
            intro w15908 hp hs
            replace hz := hz.trans hs
            replace a15370 := a15370.step hs
            replace r15358 := r15358.step hs
            replace r15398 := r15398.step hs
            replace r15903 := r15903.step hs
            replace r15897 := r15897.step hs
            refine ⟨SK (Stp I15901 w15908 I15901) [] [], ⟨Stp.refl _ _, kp_nil⟩, fun L x h => ⟨hz.held h.1, h.2⟩, ?_⟩
            have hz := Stp.refl I15901 w15908
            refine ⟨?_, trivial⟩
            refine ev_storeA hp (i := 0) (off := 0) (vs := [(.bool x15898.Neg), v15902]) rfl rfl rfl rfl T24 rfl (Nat.le_of_ble_eq_true rfl) (ones_cons rfl (ones_cons r15903.one ones_nil)) ?_
            intro w15909 hp hs
            replace hz := hz.trans hs
            replace a15370 := a15370.step hs
            replace r15358 := r15358.step hs
            replace r15398 := r15398.step hs
            replace r15903 := r15903.step hs
            replace r15897 := r15897.step hs
            refine ⟨SK (Stp I15901 w15909 I15901) [] [], ⟨Stp.refl _ _, kp_nil⟩, fun L x h => ⟨hz.held h.1, h.2⟩, ?_⟩
            have hz := Stp.refl I15901 w15909
            obtain rfl := Option.some.inj q15735
            have hp := hp.perm [3, 2, 1, 0] (by decide)
            exact ⟨(x15892.Neg, x15892.Mag, x15898.Neg, x15898.Mag, g15904, v15896, g15906, v15902, I15901), (.c rfl (.c rfl (.c rfl (.c rfl (.c rfl (.c rfl .n)))))), rfl, hp, r15358, a15370, r15398, r15897, r15903⟩
          refine ⟨?_, trivial⟩
          refine ev_alloc hp rfl T24 ?_
          intro g15910 w15911 hp hs
          replace hz := hz.trans hs
          replace a15370 := a15370.step hs
          replace r15358 := r15358.step hs
          replace r15398 := r15398.step hs
          replace r15897 := r15897.step hs
          replace r15903 := r15903.step hs
          refine ⟨SK (Stp I15901 w15911 I15901) [] [], ⟨Stp.refl _ _, kp_nil⟩, fun L x h => ⟨hz.held h.1, h.2⟩, ?_⟩
          have hz := Stp.refl I15901 w15911
          refine ⟨?_, trivial⟩
          refine ev_alloc hp rfl T24 ?_
          intro g15912 w15913 hp hs
          replace hz := hz.trans hs
          replace a15370 := a15370.step hs
          replace r15358 := r15358.step hs
          replace r15398 := r15398.step hs
          replace r15897 := r15897.step hs
          replace r15903 := r15903.step hs
          refine ⟨SK (Stp I15901 w15913 I15901) [] [], ⟨Stp.refl _ _, kp_nil⟩, fun L x h => ⟨hz.held h.1, h.2⟩, ?_⟩
          have hz := Stp.refl I15901 w15913
          refine ⟨?_, trivial⟩
          refine ev_storeA hp (i := 0) (off := 0) (vs := [(.bool x15892.Neg), v15896]) rfl rfl rfl rfl T24 rfl (Nat.le_of_ble_eq_true rfl) (ones_cons rfl (ones_cons r15897.one ones_nil)) ?_
          intro w15914 hp hs
          replace hz := hz.trans hs
          replace a15370 := a15370.step hs
          replace r15358 := r15358.step hs
          replace r15398 := r15398.step hs
          replace r15903 := r15903.step hs
          replace r15897 := r15897.step hs
          refine ⟨SK (Stp I15901 w15914 I15901) [] [], ⟨Stp.refl _ _, kp_nil⟩, fun L x h => ⟨hz.held h.1, h.2⟩, ?_⟩
          have hz := Stp.refl I15901 w15914
          refine ⟨?_, trivial⟩
          refine ev_storeA hp (i := 1) (off := 0) (vs := [(.bool x15898.Neg), v15902]) rfl rfl rfl rfl T24 rfl (Nat.le_of_ble_eq_true rfl) (ones_cons rfl (ones_cons r15903.one ones_nil)) ?_
          intro w15915 hp hs
          replace hz := hz.trans hs
          replace a15370 := a15370.step hs
          replace r15358 := r15358.step hs
          replace r15398 := r15398.step hs
          replace r15897 := r15897.step hs
          replace r15903 := r15903.step hs
          refine ⟨SK (Stp I15901 w15915 I15901) [] [], ⟨Stp.refl _ _, kp_nil⟩, fun L x h => ⟨hz.held h.1, h.2⟩, ?_⟩
          have hz := Stp.refl I15901 w15915
          obtain rfl := Option.some.inj q15735
          have hp := hp.perm [3, 2, 0, 1] (by decide)
          exact ⟨(x15892.Neg, x15892.Mag, x15898.Neg, x15898.Mag, g15912, v15896, g15910, v15902, I15901), (.c rfl (.c rfl (.c rfl (.c rfl (.c rfl (.c rfl .n)))))), rfl, hp, r15358, a15370, r15398, r15897, r15903⟩
        refine ⟨?_, ?_⟩
        ·
          refine ev_alloc hp rfl T24 ?_
          intro g15916 w15917 hp hs
          replace hz := hz.trans hs
          replace a15370 := a15370.step hs
          replace r15358 := r15358.step hs
          replace r15398 := r15398.step hs
          replace r15409 := r15409.step hs
          replace r15897 := r15897.step hs
          refine ⟨SK (Stp I15895 w15917 I15895) [] [], ⟨Stp.refl _ _, kp_nil⟩, fun L x h => ⟨hz.held h.1, h.2⟩, ?_⟩
          have hz := Stp.refl I15895 w15917
          refine ⟨?_, ?_⟩
          ·
            obtain ⟨x15918, q15919, q15735⟩ := bind_some q15735
            refine ev_call rfl rfl C80 (((integer_made_ok n) _ _  x15353.Neg x15402 v15408 r15409 hp.imm _ q15919).mono ?_)
            rintro _ w15920 ⟨I15921, v15922, hv, hq, r15923⟩
            replace hv := hv.symm
            subst hv
            have hs := hq.st
            have hp := hp.join0 hq
            replace hz := hz.trans hs
            replace a15370 := a15370.step hs
            replace r15358 := r15358.step hs
            replace r15398 := r15398.step hs
            replace r15897 := r15897.step hs
            refine ⟨SK (Stp I15921 w15920 I15921) [] [], ⟨Stp.refl _ _, kp_nil⟩, fun L x h => ⟨hz.held h.1, h.2⟩, ?_⟩
            have hz := Stp.refl I15921 w15920
            refine ⟨?_, trivial⟩
            refine ev_alloc hp rfl T24 ?_
            intro g15924 w15925 hp hs
            replace hz := hz.trans hs
            replace a15370 := a15370.step hs
            replace r15358 := r15358.step hs
            replace r15398 := r15398.step hs
            replace r15897 := r15897.step hs
            replace r15923 := r15923.step hs
            refine ⟨SK (Stp I15921 w15925 I15921) [] [], ⟨Stp.refl _ _, kp_nil⟩, fun L x h => ⟨hz.held h.1, h.2⟩, ?_⟩
            have hz := Stp.refl I15921 w15925
            refine ⟨?_, trivial⟩
            refine ev_storeA hp (i := 1) (off := 0) (vs := [(.bool x15892.Neg), v15896]) rfl rfl rfl rfl T24 rfl (Nat.le_of_ble_eq_true rfl) (ones_cons rfl (ones_cons r15897.one ones_nil)) ?_
            intro w15926 hp hs
            replace hz := hz.trans hs
            replace a15370 := a15370.step hs
            replace r15358 := r15358.step hs
            replace r15398 := r15398.step hs
            replace r15923 := r15923.step hs
            replace r15897 := r15897.step hs
            refine ⟨SK (Stp I15921 w15926 I15921) [] [], ⟨Stp.refl _ _, kp_nil⟩, fun L x h => ⟨hz.held h.1, h.2⟩, ?_⟩
            have hz := Stp.refl I15921 w15926
            refine ⟨?_, trivial⟩
            refine ev_storeA hp (i := 0) (off := 0) (vs := [(.bool x15918.Neg), v15922]) rfl rfl rfl rfl T24 rfl (Nat.le_of_ble_eq_true rfl) (ones_cons rfl (ones_cons r15923.one ones_nil)) ?_
            intro w15927 hp hs
            replace hz := hz.trans hs
            replace a15370 := a15370.step hs
            replace r15358 := r15358.step hs
            replace r15398 := r15398.step hs
            replace r15923 := r15923.step hs
            replace r15897 := r15897.step hs
            refine ⟨SK (Stp I15921 w15927 I15921) [] [], ⟨Stp.refl _ _, kp_nil⟩, fun L x h => ⟨hz.held h.1, h.2⟩, ?_⟩
            have hz := Stp.refl I15921 w15927
            obtain rfl := Option.some.inj q15735
            have hp := hp.perm [3, 2, 1, 0] (by decide)
            exact ⟨(x15892.Neg, x15892.Mag, x15918.Neg, x15918.Mag, g15916, v15896, g15924, v15922, I15921), (.c rfl (.c rfl (.c rfl (.c rfl (.c rfl (.c rfl .n)))))), rfl, hp, r15358, a15370, r15398, r15897, r15923⟩
          refine ⟨?_, trivial⟩
          refine ev_alloc hp rfl T24 ?_
          intro g15928 w15929 hp hs
          replace hz := hz.trans hs
          replace a15370 := a15370.step hs
          replace r15358 := r15358.step hs
          replace r15398 := r15398.step hs
          replace r15409 := r15409.step hs
          replace r15897 := r15897.step hs
          refine ⟨SK (Stp I15895 w15929 I15895) [] [], ⟨Stp.refl _ _, kp_nil⟩, fun L x h => ⟨hz.held h.1, h.2⟩, ?_⟩
          have hz := Stp.refl I15895 w15929
          refine ⟨?_, trivial⟩
          obtain ⟨x15930, q15931, q15735⟩ := bind_some q15735
          refine ev_call rfl rfl C80 (((integer_made_ok n) _ _  x15353.Neg x15402 v15408 r15409 hp.imm _ q15931).mono ?_)
          rintro _ w15932 ⟨I15933, v15934, hv, hq, r15935⟩
          replace hv := hv.symm
          subst hv
          have hs := hq.st
          have hp := hp.join0 hq
          replace hz := hz.trans hs
          replace a15370 := a15370.step hs
          replace r15358 := r15358.step hs
          replace r15398 := r15398.step hs
          replace r15897 := r15897.step hs
          refine ⟨SK (Stp I15933 w15932 I15933) [] [], ⟨Stp.refl _ _, kp_nil⟩, fun L x h => ⟨hz.held h.1, h.2⟩, ?_⟩
          have hz := Stp.refl I15933 w15932
          refine ⟨?_, trivial⟩
          refine ev_storeA hp (i := 1) (off := 0) (vs := [(.bool x15892.Neg), v15896]) rfl rfl rfl rfl T24 rfl (Nat.le_of_ble_eq_true rfl) (ones_cons rfl (ones_cons r15897.one ones_nil)) ?_
          intro w15936 hp hs
          replace hz := hz.trans hs
          replace a15370 := a15370.step hs
          replace r15358 := r15358.step hs
          replace r15398 := r15398.step hs
          replace r15935 := r15935.step hs
          replace r15897 := r15897.step hs
          refine ⟨SK (Stp I15933 w15936 I15933) [] [], ⟨Stp.refl _ _, kp_nil⟩, fun L x h => ⟨hz.held h.1, h.2⟩, ?_⟩
          have hz := Stp.refl I15933 w15936
          refine ⟨?_, trivial⟩
          refine ev_storeA hp (i := 0) (off := 0) (vs := [(.bool x15930.Neg), v15934]) rfl rfl rfl rfl T24 rfl (Nat.le_of_ble_eq_true rfl) (ones_cons rfl (ones_cons r15935.one ones_nil)) ?_
          intro w15937 hp hs
          replace hz := hz.trans hs
          replace a15370 := a15370.step hs
          replace r15358 := r15358.step hs
          replace r15398 := r15398.step hs
          replace r15935 := r15935.step hs
          replace r15897 := r15897.step hs
          refine ⟨SK (Stp I15933 w15937 I15933) [] [], ⟨Stp.refl _ _, kp_nil⟩, fun L x h => ⟨hz.held h.1, h.2⟩, ?_⟩
          have hz := Stp.refl I15933 w15937
          obtain rfl := Option.some.inj q15735
          have hp := hp.perm [3, 2, 1, 0] (by decide)
          exact ⟨(x15892.Neg, x15892.Mag, x15930.Neg, x15930.Mag, g15916, v15896, g15928, v15934, I15933), (.c rfl (.c rfl (.c rfl (.c rfl (.c rfl (.c rfl .n)))))), rfl, hp, r15358, a15370, r15398, r15897, r15935⟩
        refine ⟨?_, trivial⟩
        refine ev_alloc hp rfl T24 ?_
        intro g15938 w15939 hp hs
        replace hz := hz.trans hs
        replace a15370 := a15370.step hs
        replace r15358 := r15358.step hs
        replace r15398 := r15398.step hs
        replace r15409 := r15409.step hs
        replace r15897 := r15897.step hs
        refine ⟨SK (Stp I15895 w15939 I15895) [] [], ⟨Stp.refl _ _, kp_nil⟩, fun L x h => ⟨hz.held h.1, h.2⟩, ?_⟩
        have hz := Stp.refl I15895 w15939
        refine ⟨?_, ?_⟩
        ·
          obtain ⟨x15940, q15941, q15735⟩ := bind_some q15735
          refine ev_call rfl rfl C80 (((integer_made_ok n) _ _  x15353.Neg x15402 v15408 r15409 hp.imm _ q15941).mono ?_)
          rintro _ w15942 ⟨I15943, v15944, hv, hq, r15945⟩
          replace hv := hv.symm
          subst hv
          have hs := hq.st
          have hp := hp.join0 hq
          replace hz := hz.trans hs
          replace a15370 := a15370.step hs
          replace r15358 := r15358.step hs
          replace r15398 := r15398.step hs
          replace r15897 := r15897.step hs
          refine ⟨SK (Stp I15943 w15942 I15943) [] [], ⟨Stp.refl _ _, kp_nil⟩, fun L x h => ⟨hz.held h.1, h.2⟩, ?_⟩
          have hz := Stp.refl I15943 w15942
          refine ⟨?_, trivial⟩
          refine ev_alloc hp rfl T24 ?_
          intro g15946 w15947 hp hs
          replace hz := hz.trans hs
          replace a15370 := a15370.step hs
          replace r15358 := r15358.step hs
          replace r15398 := r15398.step hs
          replace r15897 := r15897.step hs
          replace r15945 := r15945.step hs
          refine ⟨SK (Stp I15943 w15947 I15943) [] [], ⟨Stp.refl _ _, kp_nil⟩, fun L x h => ⟨hz.held h.1, h.2⟩, ?_⟩
          have hz := Stp.refl I15943 w15947
          refine ⟨?_, trivial⟩
          refine ev_storeA hp (i := 0) (off := 0) (vs := [(.bool x15892.Neg), v15896]) rfl rfl rfl rfl T24 rfl (Nat.le_of_ble_eq_true rfl) (ones_cons rfl (ones_cons r15897.one ones_nil)) ?_
          intro w15948 hp hs
          replace hz := hz.trans hs
          replace a15370 := a15370.step hs
          replace r15358 := r15358.step hs
          replace r15398 := r15398.step hs
          replace r15945 := r15945.step hs
          replace r15897 := r15897.step hs
          refine ⟨SK (Stp I15943 w15948 I15943) [] [], ⟨Stp.refl _ _, kp_nil⟩, fun L x h => ⟨hz.held h.1, h.2⟩, ?_⟩
          have hz := Stp.refl I15943 w15948
          refine ⟨?_, trivial⟩
          refine ev_storeA hp (i := 1) (off := 0) (vs := [(.bool x15940.Neg), v15944]) rfl rfl rfl rfl T24 rfl (Nat.le_of_ble_eq_true rfl) (ones_cons rfl (ones_cons r15945.one ones_nil)) ?_
          intro w15949 hp hs
          replace hz := hz.trans hs
          replace a15370 := a15370.step hs
          replace r15358 := r15358.step hs
          replace r15398 := r15398.step hs
          replace r15897 := r15897.step hs
          replace r15945 := r15945.step hs
          refine ⟨SK (Stp I15943 w15949 I15943) [] [], ⟨Stp.refl _ _, kp_nil⟩, fun L x h => ⟨hz.held h.1, h.2⟩, ?_⟩
          have hz := Stp.refl I15943 w15949
          obtain rfl := Option.some.inj q15735
          have hp := hp.perm [3, 2, 0, 1] (by decide)
          exact ⟨(x15892.Neg, x15892.Mag, x15940.Neg, x15940.Mag, g15946, v15896, g15938, v15944, I15943), (.c rfl (.c rfl (.c rfl (.c rfl (.c rfl (.c rfl .n)))))), rfl, hp, r15358, a15370, r15398, r15897, r15945⟩
        refine ⟨?_, trivial⟩
        refine ev_alloc hp rfl T24 ?_
        intro g15950 w15951 hp hs
        replace hz := hz.trans hs
        replace a15370 := a15370.step hs
        replace r15358 := r15358.step hs
        replace r15398 := r15398.step hs
        replace r15409 := r15409.step hs
        replace r15897 := r15897.step hs
        refine ⟨SK (Stp I15895 w15951 I15895) [] [], ⟨Stp.refl _ _, kp_nil⟩, fun L x h => ⟨hz.held h.1, h.2⟩, ?_⟩
        have hz := Stp.refl I15895 w15951
        refine ⟨?_, trivial⟩
        obtain ⟨x15952, q15953, q15735⟩ := bind_some q15735
        refine ev_call rfl rfl C80 (((integer_made_ok n) _ _  x15353.Neg x15402 v15408 r15409 hp.imm _ q15953).mono ?_)
        rintro _ w15954 ⟨I15955, v15956, hv, hq, r15957⟩
        replace hv := hv.symm
        subst hv
        have hs := hq.st
        have hp := hp.join0 hq
        replace hz := hz.trans hs
        replace a15370 := a15370.step hs
        replace r15358 := r15358.step hs
        replace r15398 := r15398.step hs
        replace r15897 := r15897.step hs
        refine ⟨SK (Stp I15955 w15954 I15955) [] [], ⟨Stp.refl _ _, kp_nil⟩, fun L x h => ⟨hz.held h.1, h.2⟩, ?_⟩
        have hz := Stp.refl I15955 w15954
        refine ⟨?_, trivial⟩
        refine ev_storeA hp (i := 0) (off := 0) (vs := [(.bool x15892.Neg), v15896]) rfl rfl rfl rfl T24 rfl (Nat.le_of_ble_eq_true rfl) (ones_cons rfl (ones_cons r15897.one ones_nil)) ?_
        intro w15958 hp hs
        replace hz := hz.trans hs
        replace a15370 := a15370.step hs
        replace r15358 := r15358.step hs
        replace r15398 := r15398.step hs
        replace r15957 := r15957.step hs
        replace r15897 := r15897.step hs
        refine ⟨SK (Stp I15955 w15958 I15955) [] [], ⟨Stp.refl _ _, kp_nil⟩, fun L x h => ⟨hz.held h.1, h.2⟩, ?_⟩
        have hz := Stp.refl I15955 w15958
        refine ⟨?_, trivial⟩
        refine ev_storeA hp (i := 1) (off := 0) (vs := [(.bool x15952.Neg), v15956]) rfl rfl rfl rfl T24 rfl (Nat.le_of_ble_eq_true rfl) (ones_cons rfl (ones_cons r15957.one ones_nil)) ?_
        intro w15959 hp hs
        replace hz := hz.trans hs
        replace a15370 := a15370.step hs
        replace r15358 := r15358.step hs
        replace r15398 := r15398.step hs
        replace r15897 := r15897.step hs
        replace r15957 := r15957.step hs
        refine ⟨SK (Stp I15955 w15959 I15955) [] [], ⟨Stp.refl _ _, kp_nil⟩, fun L x h => ⟨hz.held h.1, h.2⟩, ?_⟩
        have hz := Stp.refl I15955 w15959
        obtain rfl := Option.some.inj q15735
        have hp := hp.perm [3, 2, 0, 1] (by decide)
        exact ⟨(x15892.Neg, x15892.Mag, x15952.Neg, x15952.Mag, g15950, v15896, g15938, v15956, I15955), (.c rfl (.c rfl (.c rfl (.c rfl (.c rfl (.c rfl .n)))))), rfl, hp, r15358, a15370, r15398, r15897, r15957⟩
      refine ⟨?_, ?_⟩
      ·
        refine ev_alloc hp rfl T24 ?_
        intro g15960 w15961 hp hs
        replace hz := hz.trans hs
        replace a15370 := a15370.step hs
        replace r15358 := r15358.step hs
        replace r15398 := r15398.step hs
        replace r15407 := r15407.step hs
        replace r15409 := r15409.step hs
        refine ⟨SK (Stp I15405 w15961 I15405) [] [], ⟨Stp.refl _ _, kp_nil⟩, fun L x h => ⟨hz.held h.1, h.2⟩, ?_⟩
        have hz := Stp.refl I15405 w15961
        refine ⟨?_, ?_⟩
        ·
          obtain ⟨x15962, q15963, q15735⟩ := bind_some q15735
          refine ev_call rfl rfl C80 (((integer_made_ok n) _ _  (!(x15353.Neg == x15356.Neg)) x15401 v15406 r15407 hp.imm _ q15963).mono ?_)
          rintro _ w15964 ⟨I15965, v15966, hv, hq, r15967⟩
          replace hv := hv.symm
          subst hv
          have hs := hq.st
          have hp := hp.join0 hq
          replace hz := hz.trans hs
          replace a15370 := a15370.step hs
          replace r15358 := r15358.step hs
          replace r15398 := r15398.step hs
          replace r15409 := r15409.step hs
          refine ⟨SK (Stp I15965 w15964 I15965) [] [], ⟨Stp.refl _ _, kp_nil⟩, fun L x h => ⟨hz.held h.1, h.2⟩, ?_⟩
          have hz := Stp.refl I15965 w15964
          refine ⟨?_, ?_⟩
          ·
            obtain ⟨x15968, q15969, q15735⟩ := bind_some q15735
            refine ev_call rfl rfl C80 (((integer_made_ok n) _ _  x15353.Neg x15402 v15408 r15409 hp.imm _ q15969).mono ?_)
            rintro _ w15970 ⟨I15971, v15972, hv, hq, r15973⟩
            replace hv := hv.symm
            subst hv
            have hs := hq.st
            have hp := hp.join0 hq
            replace hz := hz.trans hs
            replace a15370 := a15370.step hs
            replace r15358 := r15358.step hs
            replace r15398 := r15398.step hs
            replace r15967 := r15967.step hs
            refine ⟨SK (Stp I15971 w15970 I15971) [] [], ⟨Stp.refl _ _, kp_nil⟩, fun L x h => ⟨hz.held h.1, h.2⟩, ?_⟩
            have hz := Stp.refl I15971 w15970
            refine ⟨?_, trivial⟩
            refine ev_alloc hp rfl T24 ?_
            intro g15974 w15975 hp hs
            replace hz := hz.trans hs
            replace a15370 := a15370.step hs
            replace r15358 := r15358.step hs
            replace r15398 := r15398.step hs
            replace r15967 := r15967.step hs
            replace r15973 := r15973.step hs
            refine ⟨SK (Stp I15971 w15975 I15971) [] [], ⟨Stp.refl _ _, kp_nil⟩, fun L x h => ⟨hz.held h.1, h.2⟩, ?_⟩
            have hz := Stp.refl I15971 w15975
            refine ⟨?_, trivial⟩
            refine ev_storeA hp (i := 1) (off := 0) (vs := [(.bool x15962.Neg), v15966]) rfl rfl rfl rfl T24 rfl (Nat.le_of_ble_eq_true rfl) (ones_cons rfl (ones_cons r15967.one ones_nil)) ?_
            intro w15976 hp hs
            replace hz := hz.trans hs
            replace a15370 := a15370.step hs
            replace r15358 := r15358.step hs
            replace r15398 := r15398.step hs
            replace r15973 := r15973.step hs
            replace r15967 := r15967.step hs
            refine ⟨SK (Stp I15971 w15976 I15971) [] [], ⟨Stp.refl _ _, kp_nil⟩, fun L x h => ⟨hz.held h.1, h.2⟩, ?_⟩
            have hz := Stp.refl I15971 w15976
            refine ⟨?_, trivial⟩
            refine ev_storeA hp (i := 0) (off := 0) (vs := [(.bool x15968.Neg), v15972]) rfl rfl rfl rfl T24 rfl (Nat.le_of_ble_eq_true rfl) (ones_cons rfl (ones_cons r15973.one ones_nil)) ?_
            intro w15977 hp hs
            replace hz := hz.trans hs
            replace a15370 := a15370.step hs
            replace r15358 := r15358.step hs
            replace r15398 := r15398.step hs
            replace r15973 := r15973.step hs
            replace r15967 := r15967.step hs
            refine ⟨SK (Stp I15971 w15977 I15971) [] [], ⟨Stp.refl _ _, kp_nil⟩, fun L x h => ⟨hz.held h.1, h.2⟩, ?_⟩
            have hz := Stp.refl I15971 w15977
            obtain rfl := Option.some.inj q15735
            have hp := hp.perm [3, 2, 1, 0] (by decide)
            exact ⟨(x15962.Neg, x15962.Mag, x15968.Neg, x15968.Mag, g15960, v15966, g15974, v15972, I15971), (.c rfl (.c rfl (.c rfl (.c rfl (.c rfl (.c rfl .n)))))), rfl, hp, r15358, a15370, r15398, r15967, r15973⟩
          refine ⟨?_, trivial⟩
          refine ev_alloc hp rfl T24 ?_
          intro g15978 w15979 hp hs
          replace hz := hz.trans hs
          replace a15370 := a15370.step hs
          replace r15358 := r15358.step hs
          replace r15398 := r15398.step hs
          replace r15409 := r15409.step hs
          replace r15967 := r15967.step hs
          refine ⟨SK (Stp I15965 w15979 I15965) [] [], ⟨Stp.refl _ _, kp_nil⟩, fun L x h => ⟨hz.held h.1, h.2⟩, ?_⟩
          have hz := Stp.refl I15965 w15979
          refine ⟨?_, trivial⟩
          obtain ⟨x15980, q15981, q15735⟩ := bind_some q15735
          refine ev_call rfl rfl C80 (((integer_made_ok n) _ _  x15353.Neg x15402 v15408 r15409 hp.imm _ q15981).mono ?_)
          rintro _ w15982 ⟨I15983, v15984, hv, hq, r15985⟩
          replace hv := hv.symm
          subst hv
          have hs := hq.st
          have hp := hp.join0 hq
          replace hz := hz.trans hs
          replace a15370 := a15370.step hs
          replace r15358 := r15358.step hs
          replace r15398 := r15398.step hs
          replace r15967 := r15967.step hs
          refine ⟨SK (Stp I15983 w15982 I15983) [] [], ⟨Stp.refl _ _, kp_nil⟩, fun L x h => ⟨hz.held h.1, h.2⟩, ?_⟩
          have hz := Stp.refl I15983 w15982
          refine ⟨?_, trivial⟩
          refine ev_storeA hp (i := 1) (off := 0) (vs := [(.bool x15962.Neg), v15966]) rfl rfl rfl rfl T24 rfl (Nat.le_of_ble_eq_true rfl) (ones_cons rfl (ones_cons r15967.one ones_nil)) ?_
          intro w15986 hp hs
          replace hz := hz.trans hs
          replace a15370 := a15370.step hs
          replace r15358 := r15358.step hs
          replace r15398 := r15398.step hs
          replace r15985 := r15985.step hs
          replace r15967 := r15967.step hs
          refine ⟨SK (Stp I15983 w15986 I15983) [] [], ⟨Stp.refl _ _, kp_nil⟩, fun L x h => ⟨hz.held h.1, h.2⟩, ?_⟩
          have hz := Stp.refl I15983 w15986
          refine ⟨?_, trivial⟩
          refine ev_storeA hp (i := 0) (off := 0) (vs := [(.bool x15980.Neg), v15984]) rfl rfl rfl rfl T24 rfl (Nat.le_of_ble_eq_true rfl) (ones_cons rfl (ones_cons r15985.one ones_nil)) ?_
          intro w15987 hp hs
          replace hz := hz.trans hs
          replace a15370 := a15370.step hs
          replace r15358 := r15358.step hs
          replace r15398 := r15398.step hs
          replace r15985 := r15985.step hs
          replace r15967 := r15967.step hs
          refine ⟨SK (Stp I15983 w15987 I15983) [] [], ⟨Stp.refl _ _, kp_nil⟩, fun L x h => ⟨hz.held h.1, h.2⟩, ?_⟩
          have hz := Stp.refl I15983 w15987
          obtain rfl := Option.some.inj q15735
          have hp := hp.perm [3, 2, 1, 0] (by decide)
          exact ⟨(x15962.Neg, x15962.Mag, x15980.Neg, x15980.Mag, g15960, v15966, g15978, v15984, I15983), (.c rfl (.c rfl (.c rfl (.c rfl (.c rfl (.c rfl .n)))))), rfl, hp, r15358, a15370, r15398, r15967, r15985⟩
        refine ⟨?_, trivial⟩
        refine ev_alloc hp rfl T24 ?_
        intro g15988 w15989 hp hs
        replace hz := hz.trans hs
        replace a15370 := a15370.step hs
        replace r15358 := r15358.step hs
        replace r15398 := r15398.step hs
        replace r15407 := r15407.step hs
        replace r15409 := r15409.step hs
        refine ⟨SK (Stp I15405 w15989 I15405) [] [], ⟨Stp.refl _ _, kp_nil⟩, fun L x h => ⟨hz.held h.1, h.2⟩, ?_⟩
        have hz := Stp.refl I15405 w15989
        refine ⟨?_, trivial⟩
        obtain ⟨x15990, q15991, q15735⟩ := bind_some q15735
        refine ev_call rfl rfl C80 (((integer_made_ok n) _ _  (!(x15353.Neg == x15356.Neg)) x15401 v15406 r15407 hp.imm _ q15991).mono ?_)
        rintro _ w15992 ⟨I15993, v15994, hv, hq, r15995⟩
        replace hv := hv.symm
        subst hv
        have hs := hq.st
        have hp := hp.join0 hq
        replace hz := hz.trans hs
        replace a15370 := a15370.step hs
        replace r15358 := r15358.step hs
        replace r15398 := r15398.step hs
        replace r15409 := r15409.step hs
        refine ⟨SK (Stp I15993 w15992 I15993) [] [], ⟨Stp.refl _ _, kp_nil⟩, fun L x h => ⟨hz.held h.1, h.2⟩, ?_⟩
        have hz := Stp.refl I15993 w15992
        refine ⟨?_, trivial⟩
        obtain ⟨x15996, q15997, q15735⟩ := bind_some q15735
        refine ev_call rfl rfl C80 (((integer_made_ok n) _ _  x15353.Neg x15402 v15408 r15409 hp.imm _ q15997).mono ?_)
        rintro _ w15998 ⟨I15999, v16000, hv, hq, r16001⟩
        replace hv := hv.symm
        subst hv
        have hs := hq.st
        have hp := hp.join0 hq
        replace hz := hz.trans hs
        replace a15370 := a15370.step hs
        replace r15358 := r15358.step hs
        replace r15398 := r15398.step hs
        replace r15995 := r15995.step hs
        refine ⟨SK (Stp I15999 w15998 I15999) [] [], ⟨Stp.refl _ _, kp_nil⟩, fun L x h => ⟨hz.held h.1, h.2⟩, ?_⟩
        have hz := Stp.refl I15999 w15998
        refine ⟨?_, trivial⟩
        refine ev_storeA hp (i := 1) (off := 0) (vs := [(.bool x15990.Neg), v15994]) rfl rfl rfl rfl T24 rfl (Nat.le_of_ble_eq_true rfl) (ones_cons rfl (ones_cons r15995.one ones_nil)) ?_
        intro w16002 hp hs
        replace hz := hz.trans hs
        replace a15370 := a15370.step hs
        replace r15358 := r15358.step hs
        replace r15398 := r15398.step hs
        replace r16001 := r16001.step hs
        replace r15995 := r15995.step hs
        refine ⟨SK (Stp I15999 w16002 I15999) [] [], ⟨Stp.refl _ _, kp_nil⟩, fun L x h => ⟨hz.held h.1, h.2⟩, ?_⟩
        have hz := Stp.refl I15999 w16002
        refine ⟨?_, trivial⟩
        refine ev_storeA hp (i := 0) (off := 0) (vs := [(.bool x15996.Neg), v16000]) rfl rfl rfl rfl T24 rfl (Nat.le_of_ble_eq_true rfl) (ones_cons rfl (ones_cons r16001.one ones_nil)) ?_
        intro w16003 hp hs
        replace hz := hz.trans hs
        replace a15370 := a15370.step hs
        replace r15358 := r15358.step hs
        replace r15398 := r15398.step hs
        replace r16001 := r16001.step hs
        replace r15995 := r15995.step hs
        refine ⟨SK (Stp I15999 w16003 I15999) [] [], ⟨Stp.refl _ _, kp_nil⟩, fun L x h => ⟨hz.held h.1, h.2⟩, ?_⟩
        have hz := Stp.refl I15999 w16003
        obtain rfl := Option.some.inj q15735
        have hp := hp.perm [3, 2, 1, 0] (by decide)
        exact ⟨(x15990.Neg, x15990.Mag, x15996.Neg, x15996.Mag, g15960, v15994, g15988, v16000, I15999), (.c rfl (.c rfl (.c rfl (.c rfl (.c rfl (.c rfl .n)))))), rfl, hp, r15358, a15370, r15398, r15995, r16001⟩
      refine ⟨?_, trivial⟩
      refine ev_alloc hp rfl T24 ?_
      intro g16004 w16005 hp hs
      replace hz := hz.trans hs
      replace a15370 := a15370.step hs
      replace r15358 := r15358.step hs
      replace r15398 := r15398.step hs
      replace r15407 := r15407.step hs
      replace r15409 := r15409.step hs
      refine ⟨SK (Stp I15405 w16005 I15405) [] [], ⟨Stp.refl _ _, kp_nil⟩, fun L x h => ⟨hz.held h.1, h.2⟩, ?_⟩
      have hz := Stp.refl I15405 w16005
      refine ⟨?_, ?_⟩
      ·
        obtain ⟨x16006, q16007, q15735⟩ := bind_some q15735
        refine ev_call rfl rfl C80 (((integer_made_ok n) _ _  (!(x15353.Neg == x15356.Neg)) x15401 v15406 r15407 hp.imm _ q16007).mono ?_)
        rintro _ w16008 ⟨I16009, v16010, hv, hq, r16011⟩
        replace hv := hv.symm
        subst hv
        have hs := hq.st
        have hp := hp.join0 hq
        replace hz := hz.trans hs
        replace a15370 := a15370.step hs
        replace r15358 := r15358.step hs
        replace r15398 := r15398.step hs
        replace r15409 := r15409.step hs
        refine ⟨SK (Stp I16009 w16008 I16009) [] [], ⟨Stp.refl _ _, kp_nil⟩, fun L x h => ⟨hz.held h.1, h.2⟩, ?_⟩
        have hz := Stp.refl I16009 w16008
        refine ⟨?_, ?_⟩
        ·
          obtain ⟨x16012, q16013, q15735⟩ := bind_some q15735
          refine ev_call rfl rfl C80 (((integer_made_ok n) _ _  x15353.Neg x15402 v15408 r15409 hp.imm _ q16013).mono ?_)
          rintro _ w16014 ⟨I16015, v16016, hv, hq, r16017⟩
          replace hv := hv.symm
          subst hv
          have hs := hq.st
          have hp := hp.join0 hq
          replace hz := hz.trans hs
          replace a15370 := a15370.step hs
          replace r15358 := r15358.step hs
          replace r15398 := r15398.step hs
          replace r16011 := r16011.step hs
          refine ⟨SK (Stp I16015 w16014 I16015) [] [], ⟨Stp.refl _ _, kp_nil⟩, fun L x h => ⟨hz.held h.1, h.2⟩, ?_⟩
          have hz := Stp.refl I16015 w16014
          refine ⟨?_, trivial⟩
          refine ev_alloc hp rfl T24 ?_
          intro g16018 w16019 hp hs
          replace hz := hz.trans hs
          replace a15370 := a15370.step hs
          replace r15358 := r15358.step hs
          replace r15398 := r15398.step hs
          replace r16011 := r16011.step hs
          replace r16017 := r16017.step hs
          refine ⟨SK (Stp I16015 w16019 I16015) [] [], ⟨Stp.refl _ _, kp_nil⟩, fun L x h => ⟨hz.held h.1, h.2⟩, ?_⟩
          have hz := Stp.refl I16015 w16019
          refine ⟨?_, trivial⟩
          refine ev_storeA hp (i := 0) (off := 0) (vs := [(.bool x16006.Neg), v16010]) rfl rfl rfl rfl T24 rfl (Nat.le_of_ble_eq_true rfl) (ones_cons rfl (ones_cons r16011.one ones_nil)) ?_
          intro w16020 hp hs
          replace hz := hz.trans hs
          replace a15370 := a15370.step hs
          replace r15358 := r15358.step hs
          replace r15398 := r15398.step hs
          replace r16017 := r16017.step hs
          replace r16011 := r16011.step hs
          refine ⟨SK (Stp I16015 w16020 I16015) [] [], ⟨Stp.refl _ _, kp_nil⟩, fun L x h => ⟨hz.held h.1, h.2⟩, ?_⟩
          have hz := Stp.refl I16015 w16020
          refine ⟨?_, trivial⟩
          refine ev_storeA hp (i := 1) (off := 0) (vs := [(.bool x16012.Neg), v16016]) rfl rfl rfl rfl T24 rfl (Nat.le_of_ble_eq_true rfl) (ones_cons rfl (ones_cons r16017.one ones_nil)) ?_
          intro w16021 hp hs
          replace hz := hz.trans hs
          replace a15370 := a15370.step hs
          replace r15358 := r15358.step hs
          replace r15398 := r15398.step hs
          replace r16011 := r16011.step hs
          replace r16017 := r16017.step hs
          refine ⟨SK (Stp I16015 w16021 I16015) [] [], ⟨Stp.refl _ _, kp_nil⟩, fun L x h => ⟨hz.held h.1, h.2⟩, ?_⟩
          have hz := Stp.refl I16015 w16021
          obtain rfl := Option.some.inj q15735
          have hp := hp.perm [3, 2, 0, 1] (by decide)
          exact ⟨(x16006.Neg, x16006.Mag, x16012.Neg, x16012.Mag, g16018, v16010, g16004, v16016, I16015), (.c rfl (.c rfl (.c rfl (.c rfl (.c rfl (.c rfl .n)))))), rfl, hp, r15358, a15370, r15398, r16011, r16017⟩
        refine ⟨?_, trivial⟩
        refine ev_alloc hp rfl T24 ?_
        intro g16022 w16023 hp hs
        replace hz := hz.trans hs
        replace a15370 := a15370.step hs
        replace r15358 := r15358.step hs
        replace r15398 := r15398.step hs
        replace r15409 := r15409.step hs
        replace r16011 := r16011.step hs
        refine ⟨SK (Stp I16009 w16023 I16009) [] [], ⟨Stp.refl _ _, kp_nil⟩, fun L x h => ⟨hz.held h.1, h.2⟩, ?_⟩
        have hz := Stp.refl I16009 w16023
        refine ⟨?_, trivial⟩
        obtain ⟨x16024, q16025, q15735⟩ := bind_some q15735
        refine ev_call rfl rfl C80 (((integer_made_ok n) _ _  x15353.Neg x15402 v15408 r15409 hp.imm _ q16025).mono ?_)
        rintro _ w16026 ⟨I16027, v16028, hv, hq, r16029⟩
        replace hv := hv.symm
        subst hv
        have hs := hq.st
        have hp := hp.join0 hq
        replace hz := hz.trans hs
        replace a15370 := a15370.step hs
        replace r15358 := r15358.step hs
        replace r15398 := r15398.step hs
        replace r16011 := r16011.step hs
        refine ⟨SK (Stp I16027 w16026 I16027) [] [], ⟨Stp.refl _ _, kp_nil⟩, fun L x h => ⟨hz.held h.1, h.2⟩, ?_⟩
        have hz := Stp.refl I16027 w16026
        refine ⟨?_, trivial⟩
        refine ev_storeA hp (i := 0) (off := 0) (vs := [(.bool x16006.Neg), v16010]) rfl rfl rfl rfl T24 rfl (Nat.le_of_ble_eq_true rfl) (ones_cons rfl (ones_cons r16011.one ones_nil)) ?_
        intro w16030 hp hs
        replace hz := hz.trans hs
        replace a15370 := a15370.step hs
        replace r15358 := r15358.step hs
        replace r15398 := r15398.step hs
        replace r16029 := r16029.step hs
        replace r16011 := r16011.step hs
        refine ⟨SK (Stp I16027 w16030 I16027) [] [], ⟨Stp.refl _ _, kp_nil⟩, fun L x h => ⟨hz.held h.1, h.2⟩, ?_⟩
        have hz := Stp.refl I16027 w16030
        refine ⟨?_, trivial⟩
        refine ev_storeA hp (i := 1) (off := 0) (vs := [(.bool x16024.Neg), v16028]) rfl rfl rfl rfl T24 rfl (Nat.le_of_ble_eq_true rfl) (ones_cons rfl (ones_cons r16029.one ones_nil)) ?_
        intro w16031 hp hs
        replace hz := hz.trans hs
        replace a15370 := a15370.step hs
        replace r15358 := r15358.step hs
        replace r15398 := r15398.step hs
        replace r16011 := r16011.step hs
        replace r16029 := r16029.step hs
        refine ⟨SK (Stp I16027 w16031 I16027) [] [], ⟨Stp.refl _ _, kp_nil⟩, fun L x h => ⟨hz.held h.1, h.2⟩, ?_⟩
        have hz := Stp.refl I16027 w16031
        obtain rfl := Option.some.inj q15735
        have hp := hp.perm [3, 2, 0, 1] (by decide)
        exact ⟨(x16006.Neg, x16006.Mag, x16024.Neg, x16024.Mag, g16022, v16010, g16004, v16028, I16027), (.c rfl (.c rfl (.c rfl (.c rfl (.c rfl (.c rfl .n)))))), rfl, hp, r15358, a15370, r15398, r16011, r16029⟩
      refine ⟨?_, trivial⟩
      refine ev_alloc hp rfl T24 ?_
      intro g16032 w16033 hp hs
      replace hz := hz.trans hs
      replace a15370 := a15370.step hs
      replace r15358 := r15358.step hs
      replace r15398 := r15398.step hs
      replace r15407 := r15407.step hs
      replace r15409 := r15409.step hs
      refine ⟨SK (Stp I15405 w16033 I15405) [] [], ⟨Stp.refl _ _, kp_nil⟩, fun L x h => ⟨hz.held h.1, h.2⟩, ?_⟩
      have hz := Stp.refl I15405 w16033
      refine ⟨?_, trivial⟩
      obtain ⟨x16034, q16035, q15735⟩ := bind_some q15735
      refine ev_call rfl rfl C80 (((integer_made_ok n) _ _  (!(x15353.Neg == x15356.Neg)) x15401 v15406 r15407 hp.imm _ q16035).mono ?_)
      rintro _ w16036 ⟨I16037, v16038, hv, hq, r16039⟩
      replace hv := hv.symm
      subst hv
      have hs := hq.st
      have hp := hp.join0 hq
      replace hz := hz.trans hs
      replace a15370 := a15370.step hs
      replace r15358 := r15358.step hs
      replace r15398 := r15398.step hs
      replace r15409 := r15409.step hs
      refine ⟨SK (Stp I16037 w16036 I16037) [] [], ⟨Stp.refl _ _, kp_nil⟩, fun L x h => ⟨hz.held h.1, h.2⟩, ?_⟩
      have hz := Stp.refl I16037 w16036
      refine ⟨?_, trivial⟩
      obtain ⟨x16040, q16041, q15735⟩ := bind_some q15735
      refine ev_call rfl rfl C80 (((integer_made_ok n) _ _  x15353.Neg x15402 v15408 r15409 hp.imm _ q16041).mono ?_)
      rintro _ w16042 ⟨I16043, v16044, hv, hq, r16045⟩
      replace hv := hv.symm
      subst hv
      have hs := hq.st
      have hp := hp.join0 hq
      replace hz := hz.trans hs
      replace a15370 := a15370.step hs
      replace r15358 := r15358.step hs
      replace r15398 := r15398.step hs
      replace r16039 := r16039.step hs
      refine ⟨SK (Stp I16043 w16042 I16043) [] [], ⟨Stp.refl _ _, kp_nil⟩, fun L x h => ⟨hz.held h.1, h.2⟩, ?_⟩
      have hz := Stp.refl I16043 w16042
      refine ⟨?_, trivial⟩
      refine ev_storeA hp (i := 0) (off := 0) (vs := [(.bool x16034.Neg), v16038]) rfl rfl rfl rfl T24 rfl (Nat.le_of_ble_eq_true rfl) (ones_cons rfl (ones_cons r16039.one ones_nil)) ?_
      intro w16046 hp hs
      replace hz := hz.trans hs
      replace a15370 := a15370.step hs
      replace r15358 := r15358.step hs
      replace r15398 := r15398.step hs
      replace r16045 := r16045.step hs
      replace r16039 := r16039.step hs
      refine ⟨SK (Stp I16043 w16046 I16043) [] [], ⟨Stp.refl _ _, kp_nil⟩, fun L x h => ⟨hz.held h.1, h.2⟩, ?_⟩
      have hz := Stp.refl I16043 w16046
      refine ⟨?_, trivial⟩
      refine ev_storeA hp (i := 1) (off := 0) (vs := [(.bool x16040.Neg), v16044]) rfl rfl rfl rfl T24 rfl (Nat.le_of_ble_eq_true rfl) (ones_cons rfl (ones_cons r16045.one ones_nil)) ?_
      intro w16047 hp hs
      replace hz := hz.trans hs
      replace a15370 := a15370.step hs
      replace r15358 := r15358.step hs
      replace r15398 := r15398.step hs
      replace r16039 := r16039.step hs
      replace r16045 := r16045.step hs
      refine ⟨SK (Stp I16043 w16047 I16043) [] [], ⟨Stp.refl _ _, kp_nil⟩, fun L x h => ⟨hz.held h.1, h.2⟩, ?_⟩
      have hz := Stp.refl I16043 w16047
      obtain rfl := Option.some.inj q15735
      have hp := hp.perm [3, 2, 0, 1] (by decide)
      exact ⟨(x16034.Neg, x16034.Mag, x16040.Neg, x16040.Mag, g16032, v16038, g16004, v16044, I16043), (.c rfl (.c rfl (.c rfl (.c rfl (.c rfl (.c rfl .n)))))), rfl, hp, r15358, a15370, r15398, r16039, r16045⟩
    ·
      rintro ⟨x15723, x15724, x15728, x15729, g15722, v15725, g15727, v15730, I15732⟩ w15733 ⟨hy, hp, r15358, a15370, r15398, r15726, r15731⟩
      replace hy := hy.symm
      subst hy
      obtain ⟨y16084, q16085, h⟩ := bind_some h
      refine W.cut (γ := (Bool × (List Int) × Bool × (List Int) × Value × Value × (Nat → Prop))) (fun g => [(4, (.pointer (some ⟨g15371, 0, none⟩))), (5, (.pointer (some ⟨g15373, 0, none⟩))), (11, (.pointer (some ⟨g15722, 0, none⟩))), (12, (.pointer (some ⟨g15727, 0, none⟩)))]) (fun g w' => y16084 = ((g.1), (g.2.1), (g.2.2.1), (g.2.2.2.1)) ∧ Hp ⟨w0, I0, []⟩ (g.2.2.2.2.2.2) [some (g15371, [(.bool false), (.slice none 0 0)], 24), some (g15373, [(.bool false), (.slice none 0 0)], 24), some (g15722, [(.bool (g.1)), (g.2.2.2.2.1)], 24), some (g15727, [(.bool (g.2.2.1)), (g.2.2.2.2.2.1)], 24)] w' ∧ RepS (dI .u32) w' (g.2.2.2.2.2.2) (g.2.2.2.2.1) (g.2.1) ∧ RepS (dI .u32) w' (g.2.2.2.2.2.2) (g.2.2.2.2.2.1) (g.2.2.2.1)) ?_ ?_
      ·
        apply go
        apply go
        refine ev0 (rn_field rfl rfl FO24_0) ?_
        refine ev (rn_load rfl rfl (run_loadVar1 T4 (hp.cell (i := 3) (off := 0) rfl rfl))) ?_
        apply go
        refine sel_of (fun hc => ?_) (fun hc => ?_)
        ·
          have q16085 := cond_t q16085 hc
          apply go
          apply go
          refine ev (rn_load rfl rfl (run_loadVarA T24 rfl (hp.at_ (i := 3) rfl))) ?_
          obtain ⟨A16086, m16087, m16088, rfl⟩ := r15398.isSl
          refine ev0 (fun w => rn_build (cs := [(.bool false), (.slice A16086 m16087 m16088)]) rfl rfl T24 PL24 rfl) ?_
          obtain ⟨x16090, q16091, q16085⟩ := bind_some q16085
          refine ev_call rfl rfl C71 (((integer_Add_ok n) _ _  (Int_2.mk x15728 x15729) v15730 r15731 (Int_2.mk false x15393) (.slice A16086 m16087 m16088) r15398 hp.imm _ q16091).mono ?_)
          rintro _ w16092 ⟨I16093, v16094, hv, hq, r16095⟩
          replace hv := hv.symm
          subst hv
          have hs := hq.st
          have hp := hp.join0 hq
          replace a15370 := a15370.step hs
          replace r15358 := r15358.step hs
          replace r15726 := r15726.step hs
          replace r15731 := r15731.step hs
          refine ev_storeA hp (i := 3) (off := 0) (vs := [(.bool x16090.Neg), v16094]) rfl rfl rfl rfl T24 rfl (Nat.le_of_ble_eq_true rfl) (ones_cons rfl (ones_cons r16095.one ones_nil)) ?_
          intro w16096 hp hs
          replace a15370 := a15370.step hs
          replace r15358 := r15358.step hs
          replace r15726 := r15726.step hs
          replace r16095 := r16095.step hs
          apply go
          refine ev (rn_load rfl rfl (run_loadVarA T24 rfl (hp.at_ (i := 2) rfl))) ?_
          refine ev0 (rn_field rfl rfl FO24_0) ?_
          refine ev (rn_load rfl rfl (run_loadVar1 T4 (a15370.2 0 _ rfl))) ?_
          refine ev_litN (d := (dI .u32)) (xs := [1]) (cs := [(.int .u32 1)]) hp rfl rfl Tryz.underlying22 T46 (by decide) rfl rfl (Elems.cons (d := (dI .u32)) (xs := _) rfl (Elems.nil _ _ _ _)) ?_
          intro v16097 I16099 w16098 hp hs r16100
          replace r15726 := r15726.step hs
          replace r16095 := r16095.step hs
          obtain ⟨A16101, m16102, m16103, rfl⟩ := r16100.isSl
          refine ev0 (fun w => rn_build (cs := [(.bool (!x15356.Neg)), (.slice A16101 m16102 m16103)]) rfl rfl T24 PL24 rfl) ?_
          obtain ⟨x16105, q16106, q16085⟩ := bind_some q16085
          refine ev_call rfl rfl C71 (((integer_Add_ok n) _ _  (Int_2.mk x15723 x15724) v15725 r15726 (Int_2.mk (!x15356.Neg) [1]) (.slice A16101 m16102 m16103) r16100 hp.imm _ q16106).mono ?_)
          rintro _ w16107 ⟨I16108, v16109, hv, hq, r16110⟩
          replace hv := hv.symm
          subst hv
          have hs := hq.st
          have hp := hp.join0 hq
          replace r15726 := r15726.step hs
          replace r16095 := r16095.step hs
          refine ev_storeA hp (i := 2) (off := 0) (vs := [(.bool x16105.Neg), v16109]) rfl rfl rfl rfl T24 rfl (Nat.le_of_ble_eq_true rfl) (ones_cons rfl (ones_cons r16110.one ones_nil)) ?_
          intro w16111 hp hs
          replace r16110 := r16110.step hs
          replace r16095 := r16095.step hs
          obtain rfl := Option.some.inj q16085
          exact ⟨(x16105.Neg, x16105.Mag, x16090.Neg, x16090.Mag, v16109, v16094, I16108), (.c rfl (.c rfl (.c rfl (.c rfl .n)))), rfl, hp, r16110, r16095⟩
        ·
          have q16085 := cond_f q16085 hc
          apply go
          obtain rfl := Option.some.inj q16085
          exact ⟨(x15723, x15724, x15728, x15729, v15725, v15730, I15732), (.c rfl (.c rfl (.c rfl (.c rfl .n)))), rfl, hp, r15726, r15731⟩
      ·
        rintro ⟨x16074, x16075, x16078, x16079, v16076, v16080, I16082⟩ w16083 ⟨hy, hp, r16077, r16081⟩
        replace hy := hy.symm
        subst hy
        apply go
        have hs := hp.stp (Ch.drew [] w16083)
        have hp := hp.drew
        replace r16077 := r16077.step hs
        replace r16081 := r16081.step hs
        refine W.held [(0, true), (1, true), (2, false), (3, false), (4, true)] (fun x => Stp I16082 w16083.drew I16082 x ∧ OwnK [(g15722, [(.bool x16074), v16076], 24), (g15727, [(.bool x16078), v16080], 24)] x) MX (by kernel_rfl) ⟨Stp.refl _ _, (OwnK.cons (hp.own 2 _ _ _ rfl).1 (OwnK.cons (hp.own 3 _ _ _ rfl).1 OwnK.nil))⟩ ?_
        have hz := Stp.refl I16082 w16083.drew
        refine evh (fun w' hw => rn_load rfl rfl (run_loadVarA T24 rfl (hw.2.at_ (i := 0) rfl))) ?_
        refine evh (fun w' hw => rn_load rfl rfl (run_loadVarA T24 rfl (hw.2.at_ (i := 1) rfl))) ?_
        refine ev_storeA hp (i := 0) (off := 0) (vs := [(.bool x16074), v16076]) rfl rfl rfl rfl T24 rfl (Nat.le_of_ble_eq_true rfl) (ones_cons rfl (ones_cons r16077.one ones_nil)) ?_
        intro w16114 hp hs
        replace hz := hz.trans hs
        replace r16081 := r16081.step hs
        replace r16077 := r16077.step hs
        refine ⟨fun x => Stp I16082 w16114 I16082 x ∧ OwnK [(g15722, [(.bool x16074), v16076], 24), (g15727, [(.bool x16078), v16080], 24)] x, ⟨Stp.refl _ _, (OwnK.cons (hp.own 2 _ _ _ rfl).1 (OwnK.cons (hp.own 3 _ _ _ rfl).1 OwnK.nil))⟩, fun x hx => ⟨hz.held hx.1, hx.2⟩, ?_⟩
        have hz := Stp.refl I16082 w16114
        refine ev_storeA hp (i := 1) (off := 0) (vs := [(.bool x16078), v16080]) rfl rfl rfl rfl T24 rfl (Nat.le_of_ble_eq_true rfl) (ones_cons rfl (ones_cons r16081.one ones_nil)) ?_
        intro w16115 hp hs
        replace hz := hz.trans hs
        replace r16077 := r16077.step hs
        replace r16081 := r16081.step hs
        refine ⟨fun x => Stp I16082 w16115 I16082 x ∧ OwnK [(g15722, [(.bool x16074), v16076], 24), (g15727, [(.bool x16078), v16080], 24)] x, ⟨Stp.refl _ _, (OwnK.cons (hp.own 2 _ _ _ rfl).1 (OwnK.cons (hp.own 3 _ _ _ rfl).1 OwnK.nil))⟩, fun x hx => ⟨hz.held hx.1, hx.2⟩, ?_⟩
        have hz := Stp.refl I16082 w16115
        apply go
        obtain rfl := Option.some.inj h
        refine ⟨_, run_loadVarA T24 rfl (hp.at_ (i := 0) rfl), ?_⟩
        refine ⟨_, run_loadVarA T24 rfl (hp.at_ (i := 1) rfl), ?_⟩
        have hp := hp.sel [] (by decide)
        exact ⟨I16082, v16076, v16080, rfl, hp, r16077, r16081⟩

end Go.Proofs.YtepadjfmcbjkmaaGreatDoor

namespace Go.Proofs.YtepadjfmcbjkmaaGreatDoor
open Go Go.Proofs.YtepadjfmcbjkmaaGreatDoor.Gw Go.RowKit
set_option linter.unusedVariables false
attribute [local irreducible] Ev EvQ EvS EvH
def integer_Of_S (f : Int → Option Int_2) : Prop := ∀ (w0 : World) (I0 : Nat → Prop) (x163 : Int) (hI : ∀ g, I0 g → g < w0.heap.size) (r : Int_2), f x163 = some r →
    Ret Tryz.prog 63 #[(.int .i64 x163)] w0 fun v w1 => ∃ (I1 : Nat → Prop) (u164 : Value), v = (.agg #[(.bool r.Neg), u164]) ∧ Hp ⟨w0, I0, []⟩ I1 [] w1 ∧ RepS (dI .u32) w1 I1 u164 r.Mag
theorem integer_Of_ok (n : Nat) : integer_Of_S (integer_Of n) := by
  intro w0 I0 x163 hI r h
  unfold integer_Of at h
  refine enter Tryz.func63 rfl (Nat.le_of_ble_eq_true rfl) ?_
  have hp : Hp ⟨w0, I0, []⟩ I0 [] w0 := Hp.start hI
  apply go
  apply go
  refine ev_alloc hp rfl T24 ?_
  intro g165 w166 hp hs
  apply go
  apply go
  refine ev0 (rn_conv rfl rfl U3 Tryz.underlying75) ?_
  obtain ⟨y168, q169, h⟩ := bind_some h
  refine W.cut (γ := Int) (fun g => [(0, (.int .i64 x163)), (2, (.pointer (some ⟨g165, 0, none⟩))), (3, (.int .u64 (g)))]) (fun g w' => y168 = (g) ∧ w166 = w') ?_ ?_
  ·
    apply go
    apply go
    apply go
    refine sel_of (fun hc => ?_) (fun hc => ?_)
    ·
      have q169 := cond_t q169 hc
      apply go
      obtain rfl := Option.some.inj q169
      exact ⟨(IntKind.u64.wrap (0 - (IntKind.u64.wrap x163))), (.c rfl (.c rfl (.c rfl .n))), rfl, rfl⟩
    ·
      have q169 := cond_f q169 hc
      apply go
      obtain rfl := Option.some.inj q169
      exact ⟨(IntKind.u64.wrap x163), (.c rfl (.c rfl (.c rfl .n))), rfl, rfl⟩
  ·
    rintro x167 _ ⟨hy, rfl⟩
    replace hy := hy.symm
    subst hy
    apply go
    apply go
    refine ev0 (rn_conv rfl rfl U75 Tryz.underlying46) ?_
    refine ⟨by decide, ?_⟩
    refine ev0 (rn_conv rfl rfl U75 Tryz.underlying46) ?_
    refine ev_litN (d := (dI .u32)) (xs := [(IntKind.u32.wrap x167), (IntKind.u32.wrap (x167.fdiv (2 ^ min (32 : Int).toNat (IntKind.u64).bits)))]) (cs := [(.int .u32 (IntKind.u32.wrap x167)), (.int .u32 (IntKind.u32.wrap (x167.fdiv (2 ^ min (32 : Int).toNat (IntKind.u64).bits))))]) hp rfl rfl Tryz.underlying22 T46 (by decide) rfl rfl (Elems.cons (d := (dI .u32)) (xs := _) rfl (Elems.cons (d := (dI .u32)) (xs := _) rfl (Elems.nil _ _ _ _))) ?_
    intro v170 I172 w171 hp hs r173
    obtain ⟨x174, q175, h⟩ := bind_some h
    refine ev_call rfl rfl C80 (((integer_made_ok n) _ _  (decide (x163 < 0)) [(IntKind.u32.wrap x167), (IntKind.u32.wrap (x167.fdiv (2 ^ min (32 : Int).toNat (IntKind.u64).bits)))] v170 r173 hp.imm _ q175).mono ?_)
    rintro _ w176 ⟨I177, v178, hv, hq, r179⟩
    replace hv := hv.symm
    subst hv
    have hs := hq.st
    have hp := hp.join0 hq
    refine ev_storeA hp (i := 0) (off := 0) (vs := [(.bool x174.Neg), v178]) rfl rfl rfl rfl T24 rfl (Nat.le_of_ble_eq_true rfl) (ones_cons rfl (ones_cons r179.one ones_nil)) ?_
    intro w180 hp hs
    replace r179 := r179.step hs
    apply go
    obtain rfl := Option.some.inj h
    refine ⟨_, run_loadVarA T24 rfl (hp.at_ (i := 0) rfl), ?_⟩
    have hp := hp.sel [] (by decide)
    exact ⟨I177, v178, rfl, hp, r179⟩

end Go.Proofs.YtepadjfmcbjkmaaGreatDoor

namespace Go.Proofs.YtepadjfmcbjkmaaGreatDoor
open Go Go.Proofs.YtepadjfmcbjkmaaGreatDoor.Gw Go.RowKit
set_option linter.unusedVariables false
attribute [local irreducible] Ev EvQ EvS EvH
def integer_Neg_S (f : Int_2 → Option Int_2) : Prop := ∀ (w0 : World) (I0 : Nat → Prop) (x212 : Int_2) (v213 : Value) (r214 : RepS (dI .u32) w0 I0 v213 x212.Mag) (hI : ∀ g, I0 g → g < w0.heap.size) (r : Int_2), f x212 = some r →
    Ret Tryz.prog 64 #[(.agg #[(.bool x212.Neg), v213])] w0 fun v w1 => ∃ (I1 : Nat → Prop) (u215 : Value), v = (.agg #[(.bool r.Neg), u215]) ∧ Hp ⟨w0, I0, []⟩ I1 [] w1 ∧ RepS (dI .u32) w1 I1 u215 r.Mag
theorem integer_Neg_ok (n : Nat) : integer_Neg_S (integer_Neg n) := by
  intro w0 I0 x212 v213 r214 hI r h
  unfold integer_Neg at h
  refine enter Tryz.func64 rfl (Nat.le_of_ble_eq_true rfl) ?_
  have hp : Hp ⟨w0, I0, []⟩ I0 [] w0 := Hp.start hI
  apply go
  apply go
  refine ev_boxI hp rfl rfl ?_
  intro p218 I219 w217 hp hs a220
  replace r214 := r214.step hs
  refine ev_alloc hp rfl T24 ?_
  intro g221 w222 hp hs
  replace a220 := a220.step hs
  replace r214 := r214.step hs
  apply go
  have hs := hp.stp (Ch.drew [] w222)
  have hp := hp.drew
  replace a220 := a220.step hs
  replace r214 := r214.step hs
  refine W.held [(0, true), (1, true), (2, true), (3, true), (4, true), (5, false), (6, false), (7, false), (8, false)] (Stp I219 w222.drew I219) MX (by kernel_rfl) (Stp.refl _ _) ?_
  have hz := Stp.refl I219 w222.drew
  refine evh0 (rn_field rfl rfl FO24_0) ?_
  refine evh (fun w' hw => rn_load rfl rfl (run_loadVar1 T4 ((a220.step hw).2 0 _ rfl))) ?_
  refine evh0 (rn_field rfl rfl FO24_1) ?_
  refine evh (fun w' hw => rn_load rfl rfl (run_loadVar1 T22 ((a220.step hw).2 1 _ rfl))) ?_
  obtain ⟨x242, q243, h⟩ := bind_some h
  refine ev_call rfl rfl C72 (((integer_trim_ok n) _ _  x212.Mag v213 r214 hp.imm _ q243).mono ?_)
  rintro _ w244 ⟨I245, v246, hv, hq, r247⟩
  replace hv := hv.symm
  subst hv
  have hs := hq.st
  have hp := hp.join0 hq
  replace hz := hz.trans hs
  refine ⟨Stp I245 w244 I245, Stp.refl _ _, fun x hx => hz.held hx, ?_⟩
  have hz := Stp.refl I245 w244
  obtain ⟨x248, q249, h⟩ := bind_some h
  refine ev_call rfl rfl C88 (((slices_Cloneuint32_uint32__ok n) _ _  x242 v246 r247 hp.imm _ q249).mono ?_)
  rintro _ w250 ⟨I251, v252, hv, hq, r253⟩
  replace hv := hv.symm
  subst hv
  have hs := hq.st
  have hp := hp.join0 hq
  replace hz := hz.trans hs
  refine ⟨Stp I251 w250 I251, Stp.refl _ _, fun x hx => hz.held hx, ?_⟩
  have hz := Stp.refl I251 w250
  obtain ⟨x254, q255, h⟩ := bind_some h
  refine ev_call rfl rfl C80 (((integer_made_ok n) _ _  (!x212.Neg) x248 v252 r253 hp.imm _ q255).mono ?_)
  rintro _ w256 ⟨I257, v258, hv, hq, r259⟩
  replace hv := hv.symm
  subst hv
  have hs := hq.st
  have hp := hp.join0 hq
  replace hz := hz.trans hs
  refine ⟨Stp I257 w256 I257, Stp.refl _ _, fun x hx => hz.held hx, ?_⟩
  have hz := Stp.refl I257 w256
  refine ev_storeA hp (i := 0) (off := 0) (vs := [(.bool x254.Neg), v258]) rfl rfl rfl rfl T24 rfl (Nat.le_of_ble_eq_true rfl) (ones_cons rfl (ones_cons r259.one ones_nil)) ?_
  intro w260 hp hs
  replace hz := hz.trans hs
  replace r259 := r259.step hs
  refine ⟨Stp I257 w260 I257, Stp.refl _ _, fun x hx => hz.held hx, ?_⟩
  have hz := Stp.refl I257 w260
  apply go
  obtain rfl := Option.some.inj h
  refine ⟨_, run_loadVarA T24 rfl (hp.at_ (i := 0) rfl), ?_⟩
  have hp := hp.sel [] (by decide)
  exact ⟨I257, v258, rfl, hp, r259⟩

end Go.Proofs.YtepadjfmcbjkmaaGreatDoor

namespace Go.Proofs.YtepadjfmcbjkmaaGreatDoor
open Go Go.Proofs.YtepadjfmcbjkmaaGreatDoor.Gw Go.RowKit
set_option linter.unusedVariables false
attribute [local irreducible] Ev EvQ EvS EvH
def integer_Abs_S (f : Int_2 → Option Int_2) : Prop := ∀ (w0 : World) (I0 : Nat → Prop) (x261 : Int_2) (v262 : Value) (r263 : RepS (dI .u32) w0 I0 v262 x261.Mag) (hI : ∀ g, I0 g → g < w0.heap.size) (r : Int_2), f x261 = some r →
    Ret Tryz.prog 89 #[(.agg #[(.bool x261.Neg), v262])] w0 fun v w1 => ∃ (I1 : Nat → Prop) (u264 : Value), v = (.agg #[(.bool r.Neg), u264]) ∧ Hp ⟨w0, I0, []⟩ I1 [] w1 ∧ RepS (dI .u32) w1 I1 u264 r.Mag
theorem integer_Abs_ok (n : Nat) : integer_Abs_S (integer_Abs n) := by
  intro w0 I0 x261 v262 r263 hI r h
  unfold integer_Abs at h
  refine enter Tryz.func89 rfl (Nat.le_of_ble_eq_true rfl) ?_
  have hp : Hp ⟨w0, I0, []⟩ I0 [] w0 := Hp.start hI
  apply go
  apply go
  refine ev_boxI hp rfl rfl ?_
  intro p267 I268 w266 hp hs a269
  replace r263 := r263.step hs
  refine ev_alloc hp rfl T24 ?_
  intro g270 w271 hp hs
  replace a269 := a269.step hs
  replace r263 := r263.step hs
  apply go
  apply go
  refine ev0 (rn_field rfl rfl FO24_1) ?_
  refine ev (rn_load rfl rfl (run_loadVar1 T22 (a269.2 1 _ rfl))) ?_
  obtain ⟨x272, q273, h⟩ := bind_some h
  refine ev_call rfl rfl C72 (((integer_trim_ok n) _ _  x261.Mag v262 r263 hp.imm _ q273).mono ?_)
  rintro _ w274 ⟨I275, v276, hv, hq, r277⟩
  replace hv := hv.symm
  subst hv
  have hs := hq.st
  have hp := hp.join0 hq
  obtain ⟨x278, q279, h⟩ := bind_some h
  refine ev_call rfl rfl C88 (((slices_Cloneuint32_uint32__ok n) _ _  x272 v276 r277 hp.imm _ q279).mono ?_)
  rintro _ w280 ⟨I281, v282, hv, hq, r283⟩
  replace hv := hv.symm
  subst hv
  have hs := hq.st
  have hp := hp.join0 hq
  obtain ⟨x284, q285, h⟩ := bind_some h
  refine ev_call rfl rfl C80 (((integer_made_ok n) _ _  false x278 v282 r283 hp.imm _ q285).mono ?_)
  rintro _ w286 ⟨I287, v288, hv, hq, r289⟩
  replace hv := hv.symm
  subst hv
  have hs := hq.st
  have hp := hp.join0 hq
  refine ev_storeA hp (i := 0) (off := 0) (vs := [(.bool x284.Neg), v288]) rfl rfl rfl rfl T24 rfl (Nat.le_of_ble_eq_true rfl) (ones_cons rfl (ones_cons r289.one ones_nil)) ?_
  intro w290 hp hs
  replace r289 := r289.step hs
  apply go
  obtain rfl := Option.some.inj h
  refine ⟨_, run_loadVarA T24 rfl (hp.at_ (i := 0) rfl), ?_⟩
  have hp := hp.sel [] (by decide)
  exact ⟨I287, v288, rfl, hp, r289⟩

end Go.Proofs.YtepadjfmcbjkmaaGreatDoor

namespace Go.Proofs.YtepadjfmcbjkmaaGreatDoor
open Go Go.Proofs.YtepadjfmcbjkmaaGreatDoor.Gw Go.RowKit
set_option linter.unusedVariables false
attribute [local irreducible] Ev EvQ EvS EvH
def integer_Gcd_S (f : Int_2 → Int_2 → Option Int_2) : Prop := ∀ (w0 : World) (I0 : Nat → Prop) (x16291 : Int_2) (v16292 : Value) (r16293 : RepS (dI .u32) w0 I0 v16292 x16291.Mag) (x16294 : Int_2) (v16295 : Value) (r16296 : RepS (dI .u32) w0 I0 v16295 x16294.Mag) (hI : ∀ g, I0 g → g < w0.heap.size) (r : Int_2), f x16291 x16294 = some r →
    Ret Tryz.prog 65 #[(.agg #[(.bool x16291.Neg), v16292]), (.agg #[(.bool x16294.Neg), v16295])] w0 fun v w1 => ∃ (I1 : Nat → Prop) (u16297 : Value), v = (.agg #[(.bool r.Neg), u16297]) ∧ Hp ⟨w0, I0, []⟩ I1 [] w1 ∧ RepS (dI .u32) w1 I1 u16297 r.Mag
theorem integer_Gcd_ok (n : Nat) : integer_Gcd_S (integer_Gcd n) := by
  intro w0 I0 x16291 v16292 r16293 x16294 v16295 r16296 hI r h
  unfold integer_Gcd at h
  refine enter Tryz.func65 rfl (Nat.le_of_ble_eq_true rfl) ?_
  have hp : Hp ⟨w0, I0, []⟩ I0 [] w0 := Hp.start hI
  apply go
  apply go
  refine ev_boxI hp rfl rfl ?_
  intro p16300 I16301 w16299 hp hs a16302
  replace r16296 := r16296.step hs
  replace r16293 := r16293.step hs
  refine ev_boxI hp rfl rfl ?_
  intro p16305 I16306 w16304 hp hs a16307
  replace a16302 := a16302.step hs
  replace r16293 := r16293.step hs
  replace r16296 := r16296.step hs
  refine ev_alloc hp rfl T24 ?_
  intro g16308 w16309 hp hs
  replace a16302 := a16302.step hs
  replace r16293 := r16293.step hs
  replace a16307 := a16307.step hs
  replace r16296 := r16296.step hs
  obtain ⟨y16634, q16635, h⟩ := bind_some h
  refine W.cut (γ := (Bool × (List Int) × Bool × (List Int) × Nat × Value × Nat × Value × (Nat → Prop))) (fun g => [(4, (.pointer (some ⟨g16308, 0, none⟩))), (5, (.pointer (some ⟨(g.2.2.2.2.1), 0, none⟩))), (6, (.pointer (some ⟨(g.2.2.2.2.2.2.1), 0, none⟩)))]) (fun g w' => y16634 = ((g.1), (g.2.1), (g.2.2.1), (g.2.2.2.1)) ∧ Hp ⟨w0, I0, []⟩ (g.2.2.2.2.2.2.2.2) [some (g16308, [(.bool false), (.slice none 0 0)], 24), some ((g.2.2.2.2.1), [(.bool (g.1)), (g.2.2.2.2.2.1)], 24), some ((g.2.2.2.2.2.2.1), [(.bool (g.2.2.1)), (g.2.2.2.2.2.2.2.1)], 24)] w' ∧ RepS (dI .u32) w' (g.2.2.2.2.2.2.2.2) (g.2.2.2.2.2.1) (g.2.1) ∧ RepS (dI .u32) w' (g.2.2.2.2.2.2.2.2) (g.2.2.2.2.2.2.2.1) (g.2.2.2.1)) ?_ ?_
  ·
    have hs := hp.stp (Ch.drew [] w16309)
    have hp := hp.drew
    replace a16302 := a16302.step hs
    replace r16293 := r16293.step hs
    replace a16307 := a16307.step hs
    replace r16296 := r16296.step hs
    refine W.heldG (.q 0 (.q 2 (.l 1 (.l 3 (.l 4 (.l 5 (.l 6 (.l 7 .done .no) .no) .no) (.l 5 (.l 4 (.l 6 (.l 7 .done .no) .no) .no) .no)) (.l 4 (.l 3 (.l 5 (.l 6 (.l 7 .done .no) .no) .no) (.l 5 (.l 3 (.l 6 (.l 7 .done .no) .no) .no) .no)) (.l 5 (.l 3 (.l 4 (.l 6 (.l 7 .done .no) .no) .no) (.l 4 (.l 3 (.l 6 (.l 7 .done .no) .no) .no) .no)) .no))) (.l 4 (.l 1 (.l 3 (.l 5 (.l 6 (.l 7 .done .no) .no) .no) (.l 5 (.l 3 (.l 6 (.l 7 .done .no) .no) .no) .no)) (.l 5 (.l 1 (.l 3 (.l 6 (.l 7 .done .no) .no) .no) .no) .no)) (.l 5 (.l 1 (.l 3 (.l 4 (.l 6 (.l 7 .done .no) .no) .no) (.l 4 (.l 3 (.l 6 (.l 7 .done .no) .no) .no) .no)) (.l 4 (.l 1 (.l 3 (.l 6 (.l 7 .done .no) .no) .no) .no) .no)) .no))))) (SK (Stp I16306 w16309.drew I16306) [] []) MX (by kernel_rfl) ⟨Stp.refl _ _, kp_nil⟩ ?_
    have hz := Stp.refl I16306 w16309.drew
    refine ⟨SK.same (by kernel_rfl), ?_⟩
    refine evh (fun w' hw => rn_load rfl rfl (run_loadVarA T24 rfl (a16302.step (S0.si hw)))) ?_
    refine ⟨SK.same (by kernel_rfl), ?_⟩
    refine evh (fun w' hw => rn_load rfl rfl (run_loadVarA T24 rfl (a16307.step (S0.si hw)))) ?_
    refine ⟨?_, ?_⟩
    ·
      obtain ⟨x16792, q16793, q16635⟩ := bind_some q16635
      refine ev_call rfl rfl C89 (((integer_Abs_ok n) _ _  (Int_2.mk x16291.Neg x16291.Mag) v16292 r16293 hp.imm _ q16793).mono ?_)
      rintro _ w16794 ⟨I16795, v16796, hv, hq, r16797⟩
      replace hv := hv.symm
      subst hv
      have hs := hq.st
      have hp := hp.join0 hq
      replace hz := hz.trans hs
      replace r16296 := r16296.step hs
      refine ⟨SK (Stp I16795 w16794 I16795) [] [], ⟨Stp.refl _ _, kp_nil⟩, fun L x h => ⟨hz.held h.1, h.2⟩, ?_⟩
      have hz := Stp.refl I16795 w16794
      refine ⟨?_, ?_⟩
      ·
        obtain ⟨x16798, q16799, q16635⟩ := bind_some q16635
        refine ev_call rfl rfl C89 (((integer_Abs_ok n) _ _  (Int_2.mk x16294.Neg x16294.Mag) v16295 r16296 hp.imm _ q16799).mono ?_)
        rintro _ w16800 ⟨I16801, v16802, hv, hq, r16803⟩
        replace hv := hv.symm
        subst hv
        have hs := hq.st
        have hp := hp.join0 hq
        replace hz := hz.trans hs
        replace r16797 := r16797.step hs
        refine ⟨SK (Stp I16801 w16800 I16801) [] [], ⟨Stp.refl _ _, kp_nil⟩, fun L x h => ⟨hz.held h.1, h.2⟩, ?_⟩
        have hz := Stp.refl I16801 w16800
        refine ⟨?_, ?_⟩
        ·
          refine ev_alloc hp rfl T24 ?_
          intro g16804 w16805 hp hs
          replace hz := hz.trans hs
          replace r16797 := r16797.step hs
          replace r16803 := r16803.step hs
          refine ⟨SK (Stp I16801 w16805 I16801) [] [], ⟨Stp.refl _ _, kp_nil⟩, fun L x h => ⟨hz.held h.1, h.2⟩, ?_⟩
          have hz := Stp.refl I16801 w16805
          refine ⟨?_, trivial⟩
          refine ev_alloc hp rfl T24 ?_
          intro g16806 w16807 hp hs
          replace hz := hz.trans hs
          replace r16797 := r16797.step hs
          replace r16803 := r16803.step hs
          refine ⟨SK (Stp I16801 w16807 I16801) [] [], ⟨Stp.refl _ _, kp_nil⟩, fun L x h => ⟨hz.held h.1, h.2⟩, ?_⟩
          have hz := Stp.refl I16801 w16807
          refine ⟨?_, trivial⟩
          refine ev_storeA hp (i := 1) (off := 0) (vs := [(.bool x16792.Neg), v16796]) rfl rfl rfl rfl T24 rfl (Nat.le_of_ble_eq_true rfl) (ones_cons rfl (ones_cons r16797.one ones_nil)) ?_
          intro w16808 hp hs
          replace hz := hz.trans hs
          replace r16803 := r16803.step hs
          replace r16797 := r16797.step hs
          refine ⟨SK (Stp I16801 w16808 I16801) [] [], ⟨Stp.refl _ _, kp_nil⟩, fun L x h => ⟨hz.held h.1, h.2⟩, ?_⟩
          have hz := Stp.refl I16801 w16808
          refine ⟨?_, trivial⟩
          refine ev_storeA hp (i := 0) (off := 0) (vs := [(.bool x16798.Neg), v16802]) rfl rfl rfl rfl T24 rfl (Nat.le_of_ble_eq_true rfl) (ones_cons rfl (ones_cons r16803.one ones_nil)) ?_
          intro w16809 hp hs
          replace hz := hz.trans hs
          replace r16803 := r16803.step hs
          replace r16797 := r16797.step hs
          refine ⟨SK (Stp I16801 w16809 I16801) [] [], ⟨Stp.refl _ _, kp_nil⟩, fun L x h => ⟨hz.held h.1, h.2⟩, ?_⟩
          have hz := Stp.refl I16801 w16809
          obtain rfl := Option.some.inj q16635
          have hp := hp.perm [2, 1, 0] (by decide)
          exact ⟨(x16792.Neg, x16792.Mag, x16798.Neg, x16798.Mag, g16804, v16796, g16806, v16802, I16801), (.c rfl (.c rfl (.c rfl .n))), rfl, hp, r16797, r16803⟩
        refine ⟨?_, trivial⟩
        refine ev_alloc hp rfl T24 ?_
        intro g16810 w16811 hp hs
        replace hz := hz.trans hs
        replace r16797 := r16797.step hs
        replace r16803 := r16803.step hs
        refine ⟨SK (Stp I16801 w16811 I16801) [] [], ⟨Stp.refl _ _, kp_nil⟩, fun L x h => ⟨hz.held h.1, h.2⟩, ?_⟩
        have hz := Stp.refl I16801 w16811
        refine ⟨?_, trivial⟩
        refine ev_alloc hp rfl T24 ?_
        intro g16812 w16813 hp hs
        replace hz := hz.trans hs
        replace r16797 := r16797.step hs
        replace r16803 := r16803.step hs
        refine ⟨SK (Stp I16801 w16813 I16801) [] [], ⟨Stp.refl _ _, kp_nil⟩, fun L x h => ⟨hz.held h.1, h.2⟩, ?_⟩
        have hz := Stp.refl I16801 w16813
        refine ⟨?_, trivial⟩
        refine ev_storeA hp (i := 0) (off := 0) (vs := [(.bool x16792.Neg), v16796]) rfl rfl rfl rfl T24 rfl (Nat.le_of_ble_eq_true rfl) (ones_cons rfl (ones_cons r16797.one ones_nil)) ?_
        intro w16814 hp hs
        replace hz := hz.trans hs
        replace r16803 := r16803.step hs
        replace r16797 := r16797.step hs
        refine ⟨SK (Stp I16801 w16814 I16801) [] [], ⟨Stp.refl _ _, kp_nil⟩, fun L x h => ⟨hz.held h.1, h.2⟩, ?_⟩
        have hz := Stp.refl I16801 w16814
        refine ⟨?_, trivial⟩
        refine ev_storeA hp (i := 1) (off := 0) (vs := [(.bool x16798.Neg), v16802]) rfl rfl rfl rfl T24 rfl (Nat.le_of_ble_eq_true rfl) (ones_cons rfl (ones_cons r16803.one ones_nil)) ?_
        intro w16815 hp hs
        replace hz := hz.trans hs
        replace r16797 := r16797.step hs
        replace r16803 := r16803.step hs
        refine ⟨SK (Stp I16801 w16815 I16801) [] [], ⟨Stp.refl _ _, kp_nil⟩, fun L x h => ⟨hz.held h.1, h.2⟩, ?_⟩
        have hz := Stp.refl I16801 w16815
        obtain rfl := Option.some.inj q16635
        have hp := hp.perm [2, 0, 1] (by decide)
        exact ⟨(x16792.Neg, x16792.Mag, x16798.Neg, x16798.Mag, g16812, v16796, g16810, v16802, I16801), (.c rfl (.c rfl (.c rfl .n))), rfl, hp, r16797, r16803⟩
      refine ⟨?_, ?_⟩
      ·
        refine ev_alloc hp rfl T24 ?_
        intro g16816 w16817 hp hs
        replace hz := hz.trans hs
        replace r16296 := r16296.step hs
        replace r16797 := r16797.step hs
        refine ⟨SK (Stp I16795 w16817 I16795) [] [], ⟨Stp.refl _ _, kp_nil⟩, fun L x h => ⟨hz.held h.1, h.2⟩, ?_⟩
        have hz := Stp.refl I16795 w16817
        refine ⟨?_, ?_⟩
        ·
          obtain ⟨x16818, q16819, q16635⟩ := bind_some q16635
          refine ev_call rfl rfl C89 (((integer_Abs_ok n) _ _  (Int_2.mk x16294.Neg x16294.Mag) v16295 r16296 hp.imm _ q16819).mono ?_)
          rintro _ w16820 ⟨I16821, v16822, hv, hq, r16823⟩
          replace hv := hv.symm
          subst hv
          have hs := hq.st
          have hp := hp.join0 hq
          replace hz := hz.trans hs
          replace r16797 := r16797.step hs
          refine ⟨SK (Stp I16821 w16820 I16821) [] [], ⟨Stp.refl _ _, kp_nil⟩, fun L x h => ⟨hz.held h.1, h.2⟩, ?_⟩
          have hz := Stp.refl I16821 w16820
          refine ⟨?_, trivial⟩
          refine ev_alloc hp rfl T24 ?_
          intro g16824 w16825 hp hs
          replace hz := hz.trans hs
          replace r16797 := r16797.step hs
          replace r16823 := r16823.step hs
          refine ⟨SK (Stp I16821 w16825 I16821) [] [], ⟨Stp.refl _ _, kp_nil⟩, fun L x h => ⟨hz.held h.1, h.2⟩, ?_⟩
          have hz := Stp.refl I16821 w16825
          refine ⟨?_, trivial⟩
          refine ev_storeA hp (i := 1) (off := 0) (vs := [(.bool x16792.Neg), v16796]) rfl rfl rfl rfl T24 rfl (Nat.le_of_ble_eq_true rfl) (ones_cons rfl (ones_cons r16797.one ones_nil)) ?_
          intro w16826 hp hs
          replace hz := hz.trans hs
          replace r16823 := r16823.step hs
          replace r16797 := r16797.step hs
          refine ⟨SK (Stp I16821 w16826 I16821) [] [], ⟨Stp.refl _ _, kp_nil⟩, fun L x h => ⟨hz.held h.1, h.2⟩, ?_⟩
          have hz := Stp.refl I16821 w16826
          refine ⟨?_, trivial⟩
          refine ev_storeA hp (i := 0) (off := 0) (vs := [(.bool x16818.Neg), v16822]) rfl rfl rfl rfl T24 rfl (Nat.le_of_ble_eq_true rfl) (ones_cons rfl (ones_cons r16823.one ones_nil)) ?_
          intro w16827 hp hs
          replace hz := hz.trans hs
          replace r16823 := r16823.step hs
          replace r16797 := r16797.step hs
          refine ⟨SK (Stp I16821 w16827 I16821) [] [], ⟨Stp.refl _ _, kp_nil⟩, fun L x h => ⟨hz.held h.1, h.2⟩, ?_⟩
          have hz := Stp.refl I16821 w16827
          obtain rfl := Option.some.inj q16635
          have hp := hp.perm [2, 1, 0] (by decide)
          exact ⟨(x16792.Neg, x16792.Mag, x16818.Neg, x16818.Mag, g16816, v16796, g16824, v16822, I16821), (.c rfl (.c rfl (.c rfl .n))), rfl, hp, r16797, r16823⟩
        refine ⟨?_, trivial⟩
        refine ev_alloc hp rfl T24 ?_
        intro g16828 w16829 hp hs
        replace hz := hz.trans hs
        replace r16296 := r16296.step hs
        replace r16797 := r16797.step hs
        refine ⟨SK (Stp I16795 w16829 I16795) [] [], ⟨Stp.refl _ _, kp_nil⟩, fun L x h => ⟨hz.held h.1, h.2⟩, ?_⟩
        have hz := Stp.refl I16795 w16829
        refine ⟨?_, trivial⟩
        obtain ⟨x16830, q16831, q16635⟩ := bind_some q16635
        refine ev_call rfl rfl C89 (((integer_Abs_ok n) _ _  (Int_2.mk x16294.Neg x16294.Mag) v16295 r16296 hp.imm _ q16831).mono ?_)
        rintro _ w16832 ⟨I16833, v16834, hv, hq, r16835⟩
        replace hv := hv.symm
        subst hv
        have hs := hq.st
        have hp := hp.join0 hq
        replace hz := hz.trans hs
        replace r16797 := r16797.step hs
        refine ⟨SK (Stp I16833 w16832 I16833) [] [], ⟨Stp.refl _ _, kp_nil⟩, fun L x h => ⟨hz.held h.1, h.2⟩, ?_⟩
        have hz := Stp.refl I16833 w16832
        refine ⟨?_, trivial⟩
        refine ev_storeA hp (i := 1) (off := 0) (vs := [(.bool x16792.Neg), v16796]) rfl rfl rfl rfl T24 rfl (Nat.le_of_ble_eq_true rfl) (ones_cons rfl (ones_cons r16797.one ones_nil)) ?_
        intro w16836 hp hs
        replace hz := hz.trans hs
        replace r16835 := r16835.step hs
        replace r16797 := r16797.step hs
        refine ⟨SK (Stp I16833 w16836 I16833) [] [], ⟨Stp.refl _ _, kp_nil⟩, fun L x h => ⟨hz.held h.1, h.2⟩, ?_⟩
        have hz := Stp.refl I16833 w16836
        refine ⟨?_, trivial⟩
        refine ev_storeA hp (i := 0) (off := 0) (vs := [(.bool x16830.Neg), v16834]) rfl rfl rfl rfl T24 rfl (Nat.le_of_ble_eq_true rfl) (ones_cons rfl (ones_cons r16835.one ones_nil)) ?_
        intro w16837 hp hs
        replace hz := hz.trans hs
        replace r16835 := r16835.step hs
        replace r16797 := r16797.step hs
        refine ⟨SK (Stp I16833 w16837 I16833) [] [], ⟨Stp.refl _ _, kp_nil⟩, fun L x h => ⟨hz.held h.1, h.2⟩, ?_⟩
        have hz := Stp.refl I16833 w16837
        obtain rfl := Option.some.inj q16635
        have hp := hp.perm [2, 1, 0] (by decide)
        exact ⟨(x16792.Neg, x16792.Mag, x16830.Neg, x16830.Mag, g16816, v16796, g16828, v16834, I16833), (.c rfl (.c rfl (.c rfl .n))), rfl, hp, r16797, r16835⟩
      refine ⟨?_, trivial⟩
      refine ev_alloc hp rfl T24 ?_
      intro g16838 w16839 hp hs
      replace hz := hz.trans hs
      replace r16296 := r16296.step hs
      replace r16797 := r16797.step hs
      refine ⟨SK (Stp I16795 w16839 I16795) [] [], ⟨Stp.refl _ _, kp_nil⟩, fun L x h => ⟨hz.held h.1, h.2⟩, ?_⟩
      have hz := Stp.refl I16795 w16839
      refine ⟨?_, ?_⟩
      ·
        obtain ⟨x16840, q16841, q16635⟩ := bind_some q16635
        refine ev_call rfl rfl C89 (((integer_Abs_ok n) _ _  (Int_2.mk x16294.Neg x16294.Mag) v16295 r16296 hp.imm _ q16841).mono ?_)
        rintro _ w16842 ⟨I16843, v16844, hv, hq, r16845⟩
        replace hv := hv.symm
        subst hv
        have hs := hq.st
        have hp := hp.join0 hq
        replace hz := hz.trans hs
        replace r16797 := r16797.step hs
        refine ⟨SK (Stp I16843 w16842 I16843) [] [], ⟨Stp.refl _ _, kp_nil⟩, fun L x h => ⟨hz.held h.1, h.2⟩, ?_⟩
        have hz := Stp.refl I16843 w16842
        refine ⟨?_, trivial⟩
        refine ev_alloc hp rfl T24 ?_
        intro g16846 w16847 hp hs
        replace hz := hz.trans hs
        replace r16797 := r16797.step hs
        replace r16845 := r16845.step hs
        refine ⟨SK (Stp I16843 w16847 I16843) [] [], ⟨Stp.refl _ _, kp_nil⟩, fun L x h => ⟨hz.held h.1, h.2⟩, ?_⟩
        have hz := Stp.refl I16843 w16847
        refine ⟨?_, trivial⟩
        refine ev_storeA hp (i := 0) (off := 0) (vs := [(.bool x16792.Neg), v16796]) rfl rfl rfl rfl T24 rfl (Nat.le_of_ble_eq_true rfl) (ones_cons rfl (ones_cons r16797.one ones_nil)) ?_
        intro w16848 hp hs
        replace hz := hz.trans hs
        replace r16845 := r16845.step hs
        replace r16797 := r16797.step hs
        refine ⟨SK (Stp I16843 w16848 I16843) [] [], ⟨Stp.refl _ _, kp_nil⟩, fun L x h => ⟨hz.held h.1, h.2⟩, ?_⟩
        have hz := Stp.refl I16843 w16848
        refine ⟨?_, trivial⟩
        refine ev_storeA hp (i := 1) (off := 0) (vs := [(.bool x16840.Neg), v16844]) rfl rfl rfl rfl T24 rfl (Nat.le_of_ble_eq_true rfl) (ones_cons rfl (ones_cons r16845.one ones_nil)) ?_
        intro w16849 hp hs
        replace hz := hz.trans hs
        replace r16797 := r16797.step hs
        replace r16845 := r16845.step hs
        refine ⟨SK (Stp I16843 w16849 I16843) [] [], ⟨Stp.refl _ _, kp_nil⟩, fun L x h => ⟨hz.held h.1, h.2⟩, ?_⟩
        have hz := Stp.refl I16843 w16849
        obtain rfl := Option.some.inj q16635
        have hp := hp.perm [2, 0, 1] (by decide)
        exact ⟨(x16792.Neg, x16792.Mag, x16840.Neg, x16840.Mag, g16846, v16796, g16838, v16844, I16843), (.c rfl (.c rfl (.c rfl .n))), rfl, hp, r16797, r16845⟩
      refine ⟨?_, trivial⟩
      refine ev_alloc hp rfl T24 ?_
      intro g16850 w16851 hp hs
      replace hz := hz.trans hs
      replace r16296 := r16296.step hs
      replace r16797 := r16797.step hs
      refine ⟨SK (Stp I16795 w16851 I16795) [] [], ⟨Stp.refl _ _, kp_nil⟩, fun L x h => ⟨hz.held h.1, h.2⟩, ?_⟩
      have hz := Stp.refl I16795 w16851
      refine ⟨?_, trivial⟩
      obtain ⟨x16852, q16853, q16635⟩ := bind_some q16635
      refine ev_call rfl rfl C89 (((integer_Abs_ok n) _ _  (Int_2.mk x16294.Neg x16294.Mag) v16295 r16296 hp.imm _ q16853).mono ?_)
      rintro _ w16854 ⟨I16855, v16856, hv, hq, r16857⟩
      replace hv := hv.symm
      subst hv
      have hs := hq.st
      have hp := hp.join0 hq
      replace hz := hz.trans hs
      replace r16797 := r16797.step hs
      refine ⟨SK (Stp I16855 w16854 I16855) [] [], ⟨Stp.refl _ _, kp_nil⟩, fun L x h => ⟨hz.held h.1, h.2⟩, ?_⟩
      have hz := Stp.refl I16855 w16854
      refine ⟨?_, trivial⟩
      refine ev_storeA hp (i := 0) (off := 0) (vs := [(.bool x16792.Neg), v16796]) rfl rfl rfl rfl T24 rfl (Nat.le_of_ble_eq_true rfl) (ones_cons rfl (ones_cons r16797.one ones_nil)) ?_
      intro w16858 hp hs
      replace hz := hz.trans hs
      replace r16857 := r16857.step hs
      replace r16797 := r16797.step hs
      refine ⟨SK (Stp I16855 w16858 I16855) [] [], ⟨Stp.refl _ _, kp_nil⟩, fun L x h => ⟨hz.held h.1, h.2⟩, ?_⟩
      have hz := Stp.refl I16855 w16858
      refine ⟨?_, trivial⟩
      refine ev_storeA hp (i := 1) (off := 0) (vs := [(.bool x16852.Neg), v16856]) rfl rfl rfl rfl T24 rfl (Nat.le_of_ble_eq_true rfl) (ones_cons rfl (ones_cons r16857.one ones_nil)) ?_
      intro w16859 hp hs
      replace hz := hz.trans hs
      replace r16797 := r16797.step hs
      replace r16857 := r16857.step hs
      refine ⟨SK (Stp I16855 w16859 I16855) [] [], ⟨Stp.refl _ _, kp_nil⟩, fun L x h => ⟨hz.held h.1, h.2⟩, ?_⟩
      have hz := Stp.refl I16855 w16859
      obtain rfl := Option.some.inj q16635
      have hp := hp.perm [2, 0, 1] (by decide)
      exact ⟨(x16792.Neg, x16792.Mag, x16852.Neg, x16852.Mag, g16850, v16796, g16838, v16856, I16855), (.c rfl (.c rfl (.c rfl .n))), rfl, hp, r16797, r16857⟩
    refine ⟨?_, ?_⟩
    ·
      refine ev_alloc hp rfl T24 ?_
      intro g16860 w16861 hp hs
      replace hz := hz.trans hs
      replace r16293 := r16293.step hs
      replace r16296 := r16296.step hs
      refine ⟨SK (Stp I16306 w16861 I16306) [] [], ⟨Stp.refl _ _, kp_nil⟩, fun L x h => ⟨hz.held h.1, h.2⟩, ?_⟩
      have hz := Stp.refl I16306 w16861
      refine ⟨?_, ?_⟩
      ·
        obtain ⟨x16862, q16863, q16635⟩ := bind_some q16635
        refine ev_call rfl rfl C89 (((integer_Abs_ok n) _ _  (Int_2.mk x16291.Neg x16291.Mag) v16292 r16293 hp.imm _ q16863).mono ?_)
        rintro _ w16864 ⟨I16865, v16866, hv, hq, r16867⟩
        replace hv := hv.symm
        subst hv
        have hs := hq.st
        have hp := hp.join0 hq
        replace hz := hz.trans hs
        replace r16296 := r16296.step hs
        refine ⟨SK (Stp I16865 w16864 I16865) [] [], ⟨Stp.refl _ _, kp_nil⟩, fun L x h => ⟨hz.held h.1, h.2⟩, ?_⟩
        have hz := Stp.refl I16865 w16864
        refine ⟨?_, ?_⟩
        ·
          obtain ⟨x16868, q16869, q16635⟩ := bind_some q16635
          refine ev_call rfl rfl C89 (((integer_Abs_ok n) _ _  (Int_2.mk x16294.Neg x16294.Mag) v16295 r16296 hp.imm _ q16869).mono ?_)
          rintro _ w16870 ⟨I16871, v16872, hv, hq, r16873⟩
          replace hv := hv.symm
          subst hv
          have hs := hq.st
          have hp := hp.join0 hq
          replace hz := hz.trans hs
          replace r16867 := r16867.step hs
          refine ⟨SK (Stp I16871 w16870 I16871) [] [], ⟨Stp.refl _ _, kp_nil⟩, fun L x h => ⟨hz.held h.1, h.2⟩, ?_⟩
          have hz := Stp.refl I16871 w16870
          refine ⟨?_, trivial⟩
          refine ev_alloc hp rfl T24 ?_
          intro g16874 w16875 hp hs
          replace hz := hz.trans hs
          replace r16867 := r16867.step hs
          replace r16873 := r16873.step hs
          refine ⟨SK (Stp I16871 w16875 I16871) [] [], ⟨Stp.refl _ _, kp_nil⟩, fun L x h => ⟨hz.held h.1, h.2⟩, ?_⟩
          have hz := Stp.refl I16871 w16875
          refine ⟨?_, trivial⟩
          refine ev_storeA hp (i := 1) (off := 0) (vs := [(.bool x16862.Neg), v16866]) rfl rfl rfl rfl T24 rfl (Nat.le_of_ble_eq_true rfl) (ones_cons rfl (ones_cons r16867.one ones_nil)) ?_
          intro w16876 hp hs
          replace hz := hz.trans hs
          replace r16873 := r16873.step hs
          replace r16867 := r16867.step hs
          refine ⟨SK (Stp I16871 w16876 I16871) [] [], ⟨Stp.refl _ _, kp_nil⟩, fun L x h => ⟨hz.held h.1, h.2⟩, ?_⟩
          have hz := Stp.refl I16871 w16876
          refine ⟨?_, trivial⟩
          refine ev_storeA hp (i := 0) (off := 0) (vs := [(.bool x16868.Neg), v16872]) rfl rfl rfl rfl T24 rfl (Nat.le_of_ble_eq_true rfl) (ones_cons rfl (ones_cons r16873.one ones_nil)) ?_
          intro w16877 hp hs
          replace hz := hz.trans hs
          replace r16873 := r16873.step hs
          replace r16867 := r16867.step hs
          refine ⟨SK (Stp I16871 w16877 I16871) [] [], ⟨Stp.refl _ _, kp_nil⟩, fun L x h => ⟨hz.held h.1, h.2⟩, ?_⟩
          have hz := Stp.refl I16871 w16877
          obtain rfl := Option.some.inj q16635
          have hp := hp.perm [2, 1, 0] (by decide)
          exact ⟨(x16862.Neg, x16862.Mag, x16868.Neg, x16868.Mag, g16860, v16866, g16874, v16872, I16871), (.c rfl (.c rfl (.c rfl .n))), rfl, hp, r16867, r16873⟩
        refine ⟨?_, trivial⟩
        refine ev_alloc hp rfl T24 ?_
        intro g16878 w16879 hp hs
        replace hz := hz.trans hs
        replace r16296 := r16296.step hs
        replace r16867 := r16867.step hs
        refine ⟨SK (Stp I16865 w16879 I16865) [] [], ⟨Stp.refl _ _, kp_nil⟩, fun L x h => ⟨hz.held h.1, h.2⟩, ?_⟩
        have hz := Stp.refl I16865 w16879
        refine ⟨?_, trivial⟩
        obtain ⟨x16880, q16881, q16635⟩ := bind_some q16635
        refine ev_call rfl rfl C89 (((integer_Abs_ok n) _ _  (Int_2.mk x16294.Neg x16294.Mag) v16295 r16296 hp.imm _ q16881).mono ?_)
        rintro _ w16882 ⟨I16883, v16884, hv, hq, r16885⟩
        replace hv := hv.symm
        subst hv
        have hs := hq.st
        have hp := hp.join0 hq
        replace hz := hz.trans hs
        replace r16867 := r16867.step hs
        refine ⟨SK (Stp I16883 w16882 I16883) [] [], ⟨Stp.refl _ _, kp_nil⟩, fun L x h => ⟨hz.held h.1, h.2⟩, ?_⟩
        have hz := Stp.refl I16883 w16882
        refine ⟨?_, trivial⟩
        refine ev_storeA hp (i := 1) (off := 0) (vs := [(.bool x16862.Neg), v16866]) rfl rfl rfl rfl T24 rfl (Nat.le_of_ble_eq_true rfl) (ones_cons rfl (ones_cons r16867.one ones_nil)) ?_
        intro w16886 hp hs
        replace hz := hz.trans hs
        replace r16885 := r16885.step hs
        replace r16867 := r16867.step hs
        refine ⟨SK (Stp I16883 w16886 I16883) [] [], ⟨Stp.refl _ _, kp_nil⟩, fun L x h => ⟨hz.held h.1, h.2⟩, ?_⟩
        have hz := Stp.refl I16883 w16886
        refine ⟨?_, trivial⟩
        refine ev_storeA hp (i := 0) (off := 0) (vs := [(.bool x16880.Neg), v16884]) rfl rfl rfl rfl T24 rfl (Nat.le_of_ble_eq_true rfl) (ones_cons rfl (ones_cons r16885.one ones_nil)) ?_
        intro w16887 hp hs
        replace hz := hz.trans hs
        replace r16885 := r16885.step hs
        replace r16867 := r16867.step hs
        refine ⟨SK (Stp I16883 w16887 I16883) [] [], ⟨Stp.refl _ _, kp_nil⟩, fun L x h => ⟨hz.held h.1, h.2⟩, ?_⟩
        have hz := Stp.refl I16883 w16887
        obtain rfl := Option.some.inj q16635
        have hp := hp.perm [2, 1, 0] (by decide)
        exact ⟨(x16862.Neg, x16862.Mag, x16880.Neg, x16880.Mag, g16860, v16866, g16878, v16884, I16883), (.c rfl (.c rfl (.c rfl .n))), rfl, hp, r16867, r16885⟩
      refine ⟨?_, trivial⟩
      refine ev_alloc hp rfl T24 ?_
      intro g16888 w16889 hp hs
      replace hz := hz.trans hs
      replace r16293 := r16293.step hs
      replace r16296 := r16296.step hs
      refine ⟨SK (Stp I16306 w16889 I16306) [] [], ⟨Stp.refl _ _, kp_nil⟩, fun L x h => ⟨hz.held h.1, h.2⟩, ?_⟩
      have hz := Stp.refl I16306 w16889
      refine ⟨?_, trivial⟩
      obtain ⟨x16890, q16891, q16635⟩ := bind_some q16635
      refine ev_call rfl rfl C89 (((integer_Abs_ok n) _ _  (Int_2.mk x16291.Neg x16291.Mag) v16292 r16293 hp.imm _ q16891).mono ?_)
      rintro _ w16892 ⟨I16893, v16894, hv, hq, r16895⟩
      replace hv := hv.symm
      subst hv
      have hs := hq.st
      have hp := hp.join0 hq
      replace hz := hz.trans hs
      replace r16296 := r16296.step hs
      refine ⟨SK (Stp I16893 w16892 I16893) [] [], ⟨Stp.refl _ _, kp_nil⟩, fun L x h => ⟨hz.held h.1, h.2⟩, ?_⟩
      have hz := Stp.refl I16893 w16892
      refine ⟨?_, trivial⟩
      obtain ⟨x16896, q16897, q16635⟩ := bind_some q16635
      refine ev_call rfl rfl C89 (((integer_Abs_ok n) _ _  (Int_2.mk x16294.Neg x16294.Mag) v16295 r16296 hp.imm _ q16897).mono ?_)
      rintro _ w16898 ⟨I16899, v16900, hv, hq, r16901⟩
      replace hv := hv.symm
      subst hv
      have hs := hq.st
      have hp := hp.join0 hq
      replace hz := hz.trans hs
      replace r16895 := r16895.step hs
      refine ⟨SK (Stp I16899 w16898 I16899) [] [], ⟨Stp.refl _ _, kp_nil⟩, fun L x h => ⟨hz.held h.1, h.2⟩, ?_⟩
      have hz := Stp.refl I16899 w16898
      refine ⟨?_, trivial⟩
      refine ev_storeA hp (i := 1) (off := 0) (vs := [(.bool x16890.Neg), v16894]) rfl rfl rfl rfl T24 rfl (Nat.le_of_ble_eq_true rfl) (ones_cons rfl (ones_cons r16895.one ones_nil)) ?_
      intro w16902 hp hs
      replace hz := hz.trans hs
      replace r16901 := r16901.step hs
      replace r16895 := r16895.step hs
      refine ⟨SK (Stp I16899 w16902 I16899) [] [], ⟨Stp.refl _ _, kp_nil⟩, fun L x h => ⟨hz.held h.1, h.2⟩, ?_⟩
      have hz := Stp.refl I16899 w16902
      refine ⟨?_, trivial⟩
      refine ev_storeA hp (i := 0) (off := 0) (vs := [(.bool x16896.Neg), v16900]) rfl rfl rfl rfl T24 rfl (Nat.le_of_ble_eq_true rfl) (ones_cons rfl (ones_cons r16901.one ones_nil)) ?_
      intro w16903 hp hs
      replace hz := hz.trans hs
      replace r16901 := r16901.step hs
      replace r16895 := r16895.step hs
      refine ⟨SK (Stp I16899 w16903 I16899) [] [], ⟨Stp.refl _ _, kp_nil⟩, fun L x h => ⟨hz.held h.1, h.2⟩, ?_⟩
      have hz := Stp.refl I16899 w16903
      obtain rfl := Option.some.inj q16635
      have hp := hp.perm [2, 1, 0] (by decide)
      exact ⟨(x16890.Neg, x16890.Mag, x16896.Neg, x16896.Mag, g16860, v16894, g16888, v16900, I16899), (.c rfl (.c rfl (.c rfl .n))), rfl, hp, r16895, r16901⟩
    refine ⟨?_, trivial⟩
    refine ev_alloc hp rfl T24 ?_
    intro g16904 w16905 hp hs
    replace hz := hz.trans hs
    replace r16293 := r16293.step hs
    replace r16296 := r16296.step hs
    refine ⟨SK (Stp I16306 w16905 I16306) [] [], ⟨Stp.refl _ _, kp_nil⟩, fun L x h => ⟨hz.held h.1, h.2⟩, ?_⟩
    have hz := Stp.refl I16306 w16905
    refine ⟨?_, ?_⟩
    ·
      obtain ⟨x16906, q16907, q16635⟩ := bind_some q16635
      refine ev_call rfl rfl C89 (((integer_Abs_ok n) _ _  (Int_2.mk x16291.Neg x16291.Mag) v16292 r16293 hp.imm _ q16907).mono ?_)
      rintro _ w16908 ⟨I16909, v16910, hv, hq, r16911⟩
      replace hv := hv.symm
      subst hv
      have hs := hq.st
      have hp := hp.join0 hq
      replace hz := hz.trans hs
      replace r16296 := r16296.step hs
      refine ⟨SK (Stp I16909 w16908 I16909) [] [], ⟨Stp.refl _ _, kp_nil⟩, fun L x h => ⟨hz.held h.1, h.2⟩, ?_⟩
      have hz := Stp.refl I16909 w16908
      refine ⟨?_, ?_⟩
      ·
        obtain ⟨x16912, q16913, q16635⟩ := bind_some q16635
        refine ev_call rfl rfl C89 (((integer_Abs_ok n) _ _  (Int_2.mk x16294.Neg x16294.Mag) v16295 r16296 hp.imm _ q16913).mono ?_)
        rintro _ w16914 ⟨I16915, v16916, hv, hq, r16917⟩
        replace hv := hv.symm
        subst hv
        have hs := hq.st
        have hp := hp.join0 hq
        replace hz := hz.trans hs
        replace r16911 := r16911.step hs
        refine ⟨SK (Stp I16915 w16914 I16915) [] [], ⟨Stp.refl _ _, kp_nil⟩, fun L x h => ⟨hz.held h.1, h.2⟩, ?_⟩
        have hz := Stp.refl I16915 w16914
        refine ⟨?_, trivial⟩
        refine ev_alloc hp rfl T24 ?_
        intro g16918 w16919 hp hs
        replace hz := hz.trans hs
        replace r16911 := r16911.step hs
        replace r16917 := r16917.step hs
        refine ⟨SK (Stp I16915 w16919 I16915) [] [], ⟨Stp.refl _ _, kp_nil⟩, fun L x h => ⟨hz.held h.1, h.2⟩, ?_⟩
        have hz := Stp.refl I16915 w16919
        refine ⟨?_, trivial⟩
        refine ev_storeA hp (i := 0) (off := 0) (vs := [(.bool x16906.Neg), v16910]) rfl rfl rfl rfl T24 rfl (Nat.le_of_ble_eq_true rfl) (ones_cons rfl (ones_cons r16911.one ones_nil)) ?_
        intro w16920 hp hs
        replace hz := hz.trans hs
        replace r16917 := r16917.step hs
        replace r16911 := r16911.step hs
        refine ⟨SK (Stp I16915 w16920 I16915) [] [], ⟨Stp.refl _ _, kp_nil⟩, fun L x h => ⟨hz.held h.1, h.2⟩, ?_⟩
        have hz := Stp.refl I16915 w16920
        refine ⟨?_, trivial⟩
        refine ev_storeA hp (i := 1) (off := 0) (vs := [(.bool x16912.Neg), v16916]) rfl rfl rfl rfl T24 rfl (Nat.le_of_ble_eq_true rfl) (ones_cons rfl (ones_cons r16917.one ones_nil)) ?_
        intro w16921 hp hs
        replace hz := hz.trans hs
        replace r16911 := r16911.step hs
        replace r16917 := r16917.step hs
        refine ⟨SK (Stp I16915 w16921 I16915) [] [], ⟨Stp.refl _ _, kp_nil⟩, fun L x h => ⟨hz.held h.1, h.2⟩, ?_⟩
        have hz := Stp.refl I16915 w16921
        obtain rfl := Option.some.inj q16635
        have hp := hp.perm [2, 0, 1] (by decide)
        exact ⟨(x16906.Neg, x16906.Mag, x16912.Neg, x16912.Mag, g16918, v16910, g16904, v16916, I16915), (.c rfl (.c rfl (.c rfl .n))), rfl, hp, r16911, r16917⟩
      refine ⟨?_, trivial⟩
      refine ev_alloc hp rfl T24 ?_
      intro g16922 w16923 hp hs
      replace hz := hz.trans hs
      replace r16296 := r16296.step hs
      replace r16911 := r16911.step hs
      refine ⟨SK (Stp I16909 w16923 I16909) [] [], ⟨Stp.refl _ _, kp_nil⟩, fun L x h => ⟨hz.held h.1, h.2⟩, ?_⟩
      have hz := Stp.refl I16909 w16923
      refine ⟨?_, trivial⟩
      obtain ⟨x16924, q16925, q16635⟩ := bind_some q16635
      refine ev_call rfl rfl C89 (((integer_Abs_ok n) _ _  (Int_2.mk x16294.Neg x16294.Mag) v16295 r16296 hp.imm _ q16925).mono ?_)
      rintro _ w16926 ⟨I16927, v16928, hv, hq, r16929⟩
      replace hv := hv.symm
      subst hv
      have hs := hq.st
      have hp := hp.join0 hq
      replace hz := hz.trans hs
      replace r16911 := r16911.step hs
      refine ⟨SK (Stp I16927 w16926 I16927) [] [], ⟨Stp.refl _ _, kp_nil⟩, fun L x h => ⟨hz.held h.1, h.2⟩, ?_⟩
      have hz := Stp.refl I16927 w16926
      refine ⟨?_, trivial⟩
      refine ev_storeA hp (i := 0) (off := 0) (vs := [(.bool x16906.Neg), v16910]) rfl rfl rfl rfl T24 rfl (Nat.le_of_ble_eq_true rfl) (ones_cons rfl (ones_cons r16911.one ones_nil)) ?_
      intro w16930 hp hs
      replace hz := hz.trans hs
      replace r16929 := r16929.step hs
      replace r16911 := r16911.step hs
      refine ⟨SK (Stp I16927 w16930 I16927) [] [], ⟨Stp.refl _ _, kp_nil⟩, fun L x h => ⟨hz.held h.1, h.2⟩, ?_⟩
      have hz := Stp.refl I16927 w16930
      refine ⟨?_, trivial⟩
      refine ev_storeA hp (i := 1) (off := 0) (vs := [(.bool x16924.Neg), v16928]) rfl rfl rfl rfl T24 rfl (Nat.le_of_ble_eq_true rfl) (ones_cons rfl (ones_cons r16929.one ones_nil)) ?_
      intro w16931 hp hs
      replace hz := hz.trans hs
      replace r16911 := r16911.step hs
      replace r16929 := r16929.step hs
      refine ⟨SK (Stp I16927 w16931 I16927) [] [], ⟨Stp.refl _ _, kp_nil⟩, fun L x h => ⟨hz.held h.1, h.2⟩, ?_⟩
      have hz := Stp.refl I16927 w16931
      obtain rfl := Option.some.inj q16635
      have hp := hp.perm [2, 0, 1] (by decide)
      exact ⟨(x16906.Neg, x16906.Mag, x16924.Neg, x16924.Mag, g16922, v16910, g16904, v16928, I16927), (.c rfl (.c rfl (.c rfl .n))), rfl, hp, r16911, r16929⟩
    refine ⟨?_, trivial⟩
    refine ev_alloc hp rfl T24 ?_
    intro g16932 w16933 hp hs
    replace hz := hz.trans hs
    replace r16293 := r16293.step hs
    replace r16296 := r16296.step hs
    refine ⟨SK (Stp I16306 w16933 I16306) [] [], ⟨Stp.refl _ _, kp_nil⟩, fun L x h => ⟨hz.held h.1, h.2⟩, ?_⟩
    have hz := Stp.refl I16306 w16933
    refine ⟨?_, trivial⟩
    obtain ⟨x16934, q16935, q16635⟩ := bind_some q16635
    refine ev_call rfl rfl C89 (((integer_Abs_ok n) _ _  (Int_2.mk x16291.Neg x16291.Mag) v16292 r16293 hp.imm _ q16935).mono ?_)
    rintro _ w16936 ⟨I16937, v16938, hv, hq, r16939⟩
    replace hv := hv.symm
    subst hv
    have hs := hq.st
    have hp := hp.join0 hq
    replace hz := hz.trans hs
    replace r16296 := r16296.step hs
    refine ⟨SK (Stp I16937 w16936 I16937) [] [], ⟨Stp.refl _ _, kp_nil⟩, fun L x h => ⟨hz.held h.1, h.2⟩, ?_⟩
    have hz := Stp.refl I16937 w16936
    refine ⟨?_, trivial⟩
    obtain ⟨x16940, q16941, q16635⟩ := bind_some q16635
    refine ev_call rfl rfl C89 (((integer_Abs_ok n) _ _  (Int_2.mk x16294.Neg x16294.Mag) v16295 r16296 hp.imm _ q16941).mono ?_)
    rintro _ w16942 ⟨I16943, v16944, hv, hq, r16945⟩
    replace hv := hv.symm
    subst hv
    have hs := hq.st
    have hp := hp.join0 hq
    replace hz := hz.trans hs
    replace r16939 := r16939.step hs
    refine ⟨SK (Stp I16943 w16942 I16943) [] [], ⟨Stp.refl _ _, kp_nil⟩, fun L x h => ⟨hz.held h.1, h.2⟩, ?_⟩
    have hz := Stp.refl I16943 w16942
    refine ⟨?_, trivial⟩
    refine ev_storeA hp (i := 0) (off := 0) (vs := [(.bool x16934.Neg), v16938]) rfl rfl rfl rfl T24 rfl (Nat.le_of_ble_eq_true rfl) (ones_cons rfl (ones_cons r16939.one ones_nil)) ?_
    intro w16946 hp hs
    replace hz := hz.trans hs
    replace r16945 := r16945.step hs
    replace r16939 := r16939.step hs
    refine ⟨SK (Stp I16943 w16946 I16943) [] [], ⟨Stp.refl _ _, kp_nil⟩, fun L x h => ⟨hz.held h.1, h.2⟩, ?_⟩
    have hz := Stp.refl I16943 w16946
    refine ⟨?_, trivial⟩
    refine ev_storeA hp (i := 1) (off := 0) (vs := [(.bool x16940.Neg), v16944]) rfl rfl rfl rfl T24 rfl (Nat.le_of_ble_eq_true rfl) (ones_cons rfl (ones_cons r16945.one ones_nil)) ?_
    intro w16947 hp hs
    replace hz := hz.trans hs
    replace r16939 := r16939.step hs
    replace r16945 := r16945.step hs
    refine ⟨SK (Stp I16943 w16947 I16943) [] [], ⟨Stp.refl _ _, kp_nil⟩, fun L x h => ⟨hz.held h.1, h.2⟩, ?_⟩
    have hz := Stp.refl I16943 w16947
    obtain rfl := Option.some.inj q16635
    have hp := hp.perm [2, 0, 1] (by decide)
    exact ⟨(x16934.Neg, x16934.Mag, x16940.Neg, x16940.Mag, g16932, v16938, g16904, v16944, I16943), (.c rfl (.c rfl (.c rfl .n))), rfl, hp, r16939, r16945⟩
  ·
    rintro ⟨x16623, x16624, x16628, x16629, g16622, v16625, g16627, v16630, I16632⟩ w16633 ⟨hy, hp, r16626, r16631⟩
    replace hy := hy.symm
    subst hy
    obtain ⟨y17037, q17038, h⟩ := bind_some h
    refine W.cut (γ := (Bool × (List Int) × Value × (Nat → Prop))) (fun g => [(4, (.pointer (some ⟨g16308, 0, none⟩))), (5, (.pointer (some ⟨g16622, 0, none⟩)))]) (fun g w' => y17037 = ((g.1), (g.2.1)) ∧ Hp ⟨w0, I0, []⟩ (g.2.2.2) [some (g16308, [(.bool false), (.slice none 0 0)], 24), some (g16622, [(.bool (g.1)), (g.2.2.1)], 24)] w' ∧ RepS (dI .u32) w' (g.2.2.2) (g.2.2.1) (g.2.1)) ?_ ?_
    ·
      apply go
      refine W.loop q17038 (γ := (Value × Value × (Nat → Prop))) (fun s g => [(4, (.pointer (some ⟨g16308, 0, none⟩))), (5, (.pointer (some ⟨g16622, 0, none⟩))), (6, (.pointer (some ⟨g16627, 0, none⟩)))]) (fun s g w' => Hp ⟨w0, I0, []⟩ (g.2.2) [some (g16308, [(.bool false), (.slice none 0 0)], 24), some (g16622, [(.bool (s.1)), (g.1)], 24), some (g16627, [(.bool (s.2.2.1)), (g.2.1)], 24)] w' ∧ RepS (dI .u32) w' (g.2.2) (g.1) (s.2.1) ∧ RepS (dI .u32) w' (g.2.2) (g.2.1) (s.2.2.2)) (v16625, v16630, I16632) (.c rfl (.c rfl (.c rfl .n))) ⟨hp, r16626, r16631⟩ ?_
      rintro ⟨x17059, x17060, x17063, x17064⟩ ⟨v17061, v17065, I17067⟩ w17097 y17098 ⟨hp, r17062, r17066⟩ q17099 q17100
      unfold integer_Gcd_L1 at q17099
      apply go
      apply go
      apply go
      refine ev0 (rn_field rfl rfl FO24_1) ?_
      refine ev (rn_load rfl rfl (run_loadVar1 T22 (hp.cell (i := 2) (off := 1) rfl rfl))) ?_
      refine ev0 (rn_len rfl rfl Tryz.underlying22 r17066) ?_
      apply go
      refine sel_of (fun hc => ?_) (fun hc => ?_)
      ·
        have q17099 := cond_t q17099 hc
        apply go
        apply go
        apply go
        apply go
        refine ev (rn_load rfl rfl (run_loadVarA T24 rfl (hp.at_ (i := 1) rfl))) ?_
        refine ev (rn_load rfl rfl (run_loadVarA T24 rfl (hp.at_ (i := 2) rfl))) ?_
        obtain ⟨⟨x17101, x17102, x17103⟩, q17104, q17099⟩ := bind_some q17099
        refine ev_call rfl rfl C49 (((integer_DivMod_ok n) _ _  (Int_2.mk x17059 x17060) v17061 r17062 (Int_2.mk x17063 x17064) v17065 r17066 hp.imm _ q17104).mono ?_)
        rintro _ w17105 ⟨I17106, v17107, v17109, hv, hq, r17108, r17110⟩
        replace hv := hv.symm
        subst hv
        have hs := hq.st
        have hp := hp.join0 hq
        replace r17062 := r17062.step hs
        replace r17066 := r17066.step hs
        refine ev_alloc hp rfl T24 ?_
        intro g17111 w17112 hp hs
        replace r17108 := r17108.step hs
        replace r17110 := r17110.step hs
        replace r17062 := r17062.step hs
        replace r17066 := r17066.step hs
        refine ev_alloc hp rfl T24 ?_
        intro g17113 w17114 hp hs
        replace r17108 := r17108.step hs
        replace r17110 := r17110.step hs
        replace r17062 := r17062.step hs
        replace r17066 := r17066.step hs
        refine ev_storeA hp (i := 1) (off := 0) (vs := [(.bool x17101.Neg), v17107]) rfl rfl rfl rfl T24 rfl (Nat.le_of_ble_eq_true rfl) (ones_cons rfl (ones_cons r17108.one ones_nil)) ?_
        intro w17115 hp hs
        replace r17110 := r17110.step hs
        replace r17108 := r17108.step hs
        replace r17062 := r17062.step hs
        replace r17066 := r17066.step hs
        refine ev_storeA hp (i := 0) (off := 0) (vs := [(.bool x17102.Neg), v17109]) rfl rfl rfl rfl T24 rfl (Nat.le_of_ble_eq_true rfl) (ones_cons rfl (ones_cons r17110.one ones_nil)) ?_
        intro w17116 hp hs
        replace r17110 := r17110.step hs
        replace r17108 := r17108.step hs
        replace r17062 := r17062.step hs
        replace r17066 := r17066.step hs
        have hs := hp.stp (Ch.drew [] w17116)
        have hp := hp.drew
        replace r17110 := r17110.step hs
        replace r17108 := r17108.step hs
        replace r17062 := r17062.step hs
        replace r17066 := r17066.step hs
        refine W.held [(1, true), (0, false), (2, false), (3, false)] (fun x => Stp I17106 w17116.drew I17106 x ∧ OwnK [(g17113, [(.bool x17102.Neg), v17109], 24)] x) MX (by kernel_rfl) ⟨Stp.refl _ _, (OwnK.cons (hp.own 0 _ _ _ rfl).1 OwnK.nil)⟩ ?_
        have hz := Stp.refl I17106 w17116.drew
        refine evh (fun w' hw => rn_load rfl rfl (run_loadVarA T24 rfl (hw.2.at_ (i := 0) rfl))) ?_
        refine ev (rn_load rfl rfl (run_loadVarA T24 rfl (hp.at_ (i := 4) rfl))) ?_
        refine ⟨fun x => Stp I17106 w17116.drew I17106 x ∧ OwnK [(g17113, [(.bool x17102.Neg), v17109], 24)] x, ⟨Stp.refl _ _, (OwnK.cons (hp.own 0 _ _ _ rfl).1 OwnK.nil)⟩, fun x hx => ⟨hz.held hx.1, hx.2⟩, ?_⟩
        have hz := Stp.refl I17106 w17116.drew
        refine ev_storeA hp (i := 3) (off := 0) (vs := [(.bool x17063), v17065]) rfl rfl rfl rfl T24 rfl (Nat.le_of_ble_eq_true rfl) (ones_cons rfl (ones_cons r17066.one ones_nil)) ?_
        intro w17119 hp hs
        replace hz := hz.trans hs
        replace r17110 := r17110.step hs
        replace r17108 := r17108.step hs
        replace r17066 := r17066.step hs
        refine ⟨fun x => Stp I17106 w17119 I17106 x ∧ OwnK [(g17113, [(.bool x17102.Neg), v17109], 24)] x, ⟨Stp.refl _ _, (OwnK.cons (hp.own 0 _ _ _ rfl).1 OwnK.nil)⟩, fun x hx => ⟨hz.held hx.1, hx.2⟩, ?_⟩
        have hz := Stp.refl I17106 w17119
        refine ev_storeA hp (i := 4) (off := 0) (vs := [(.bool x17102.Neg), v17109]) rfl rfl rfl rfl T24 rfl (Nat.le_of_ble_eq_true rfl) (ones_cons rfl (ones_cons r17110.one ones_nil)) ?_
        intro w17120 hp hs
        replace hz := hz.trans hs
        replace r17110 := r17110.step hs
        replace r17108 := r17108.step hs
        replace r17066 := r17066.step hs
        refine ⟨fun x => Stp I17106 w17120 I17106 x ∧ OwnK [(g17113, [(.bool x17102.Neg), v17109], 24)] x, ⟨Stp.refl _ _, (OwnK.cons (hp.own 0 _ _ _ rfl).1 OwnK.nil)⟩, fun x hx => ⟨hz.held hx.1, hx.2⟩, ?_⟩
        have hz := Stp.refl I17106 w17120
        have hp := hp.sel [2, 3, 4] (by decide)
        exact ⟨_, (Option.some.inj q17099).symm, (v17065, v17109, I17106), (.c rfl (.c rfl (.c rfl .n))), ⟨hp, r17066, r17110⟩⟩
      ·
        have q17099 := cond_f q17099 hc
        apply go
        have q17121 := congrArg some (q17100 _ (Option.some.inj q17099).symm)
        obtain rfl := Option.some.inj q17121
        have hp := hp.sel [0, 1] (by decide)
        exact ⟨(x17059, x17060, v17061, I17067), (.c rfl (.c rfl .n)), rfl, hp, r17062⟩
    ·
      rintro ⟨x17031, x17032, v17033, I17035⟩ w17036 ⟨hy, hp, r17034⟩
      replace hy := hy.symm
      subst hy
      apply go
      apply go
      refine ev (rn_load rfl rfl (run_loadVarA T24 rfl (hp.at_ (i := 1) rfl))) ?_
      refine ev_storeA hp (i := 0) (off := 0) (vs := [(.bool x17031), v17033]) rfl rfl rfl rfl T24 rfl (Nat.le_of_ble_eq_true rfl) (ones_cons rfl (ones_cons r17034.one ones_nil)) ?_
      intro w17122 hp hs
      replace r17034 := r17034.step hs
      apply go
      obtain rfl := Option.some.inj h
      refine ⟨_, run_loadVarA T24 rfl (hp.at_ (i := 0) rfl), ?_⟩
      have hp := hp.sel [] (by decide)
      exact ⟨I17035, v17033, rfl, hp, r17034⟩

end Go.Proofs.YtepadjfmcbjkmaaGreatDoor

namespace Go.Proofs.YtepadjfmcbjkmaaGreatDoor
open Go Go.Proofs.YtepadjfmcbjkmaaGreatDoor.Gw Go.RowKit
set_option linter.unusedVariables false
attribute [local irreducible] Ev EvQ EvS EvH
def rational_New_S (f : Int_2 → Int_2 → Option Rational) : Prop := ∀ (w0 : World) (I0 : Nat → Prop) (x17123 : Int_2) (v17124 : Value) (r17125 : RepS (dI .u32) w0 I0 v17124 x17123.Mag) (x17126 : Int_2) (v17127 : Value) (r17128 : RepS (dI .u32) w0 I0 v17127 x17126.Mag) (hI : ∀ g, I0 g → g < w0.heap.size) (r : Rational), f x17123 x17126 = some r →
    Ret Tryz.prog 28 #[(.agg #[(.bool x17123.Neg), v17124]), (.agg #[(.bool x17126.Neg), v17127])] w0 fun v w1 => ∃ (I1 : Nat → Prop) (u17129 : Value) (u17130 : Value), v = (.agg #[(.bool r.Num.Neg), u17129, (.bool r.Den.Neg), u17130]) ∧ Hp ⟨w0, I0, []⟩ I1 [] w1 ∧ RepS (dI .u32) w1 I1 u17129 r.Num.Mag ∧ RepS (dI .u32) w1 I1 u17130 r.Den.Mag
theorem rational_New_ok (n : Nat) : rational_New_S (rational_New n) := by
  intro w0 I0 x17123 v17124 r17125 x17126 v17127 r17128 hI r h
  unfold rational_New at h
  refine enter Tryz.func28 rfl (Nat.le_of_ble_eq_true rfl) ?_
  have hp : Hp ⟨w0, I0, []⟩ I0 [] w0 := Hp.start hI
  apply go
  apply go
  refine ev_box hp rfl rfl ?_
  intro g17131 w17132 hp hs
  replace r17128 := r17128.step hs
  replace r17125 := r17125.step hs
  refine ev_box hp rfl rfl ?_
  intro g17133 w17134 hp hs
  replace r17128 := r17128.step hs
  replace r17125 := r17125.step hs
  refine ev_alloc hp rfl T26 ?_
  intro g17135 w17136 hp hs
  replace r17128 := r17128.step hs
  replace r17125 := r17125.step hs
  apply go
  apply go
  apply go
  refine ev (rn_load rfl rfl (run_loadVarA T24 rfl (hp.at_ (i := 1) rfl))) ?_
  obtain ⟨x17137, q17138, h⟩ := bind_some h
  refine ev_call rfl rfl C39 (((integer_Sign_ok n) _ _  (Int_2.mk x17126.Neg x17126.Mag) v17127 r17128 hp.imm _ q17138).mono ?_)
  rintro _ w17139 ⟨rfl, hc⟩
  have hs := hp.stp hc
  replace hp := hp.ext hc
  replace r17128 := r17128.step hs
  replace r17125 := r17125.step hs
  apply go
  refine sel_of (fun hc => ?_) (fun hc => ?_)
  ·
    have h := cond_t h hc
    apply go
    apply go
    obtain ⟨x17140, q17141, h⟩ := bind_some h
    refine ev_call rfl rfl C63 (((integer_Of_ok n) _ _  0 hp.imm _ q17141).mono ?_)
    rintro _ w17142 ⟨I17143, v17144, hv, hq, r17145⟩
    replace hv := hv.symm
    subst hv
    have hs := hq.st
    have hp := hp.join0 hq
    replace r17128 := r17128.step hs
    replace r17125 := r17125.step hs
    obtain ⟨x17146, q17147, h⟩ := bind_some h
    refine ev_call rfl rfl C63 (((integer_Of_ok n) _ _  1 hp.imm _ q17147).mono ?_)
    rintro _ w17148 ⟨I17149, v17150, hv, hq, r17151⟩
    replace hv := hv.symm
    subst hv
    have hs := hq.st
    have hp := hp.join0 hq
    replace r17145 := r17145.step hs
    replace r17128 := r17128.step hs
    replace r17125 := r17125.step hs
    obtain ⟨A17152, m17153, m17154, rfl⟩ := r17145.isSl
    obtain ⟨A17156, m17157, m17158, rfl⟩ := r17151.isSl
    refine ev0 (fun w => rn_build (cs := [(.bool x17140.Neg), (.slice A17152 m17153 m17154), (.bool x17146.Neg), (.slice A17156 m17157 m17158)]) rfl rfl T26 PL26 rfl) ?_
    refine ev_storeA hp (i := 0) (off := 0) (vs := [(.bool x17140.Neg), (.slice A17152 m17153 m17154), (.bool x17146.Neg), (.slice A17156 m17157 m17158)]) rfl rfl rfl rfl T26 rfl (Nat.le_of_ble_eq_true rfl) (ones_cons rfl (ones_cons r17145.one (ones_cons rfl (ones_cons r17151.one ones_nil)))) ?_
    intro w17160 hp hs
    replace r17145 := r17145.step hs
    replace r17151 := r17151.step hs
    replace r17128 := r17128.step hs
    replace r17125 := r17125.step hs
    apply go
    obtain rfl := Option.some.inj h
    refine ⟨_, run_loadVarA T26 rfl (hp.at_ (i := 0) rfl), ?_⟩
    have hp := hp.sel [] (by decide)
    exact ⟨I17149, (.slice A17152 m17153 m17154), (.slice A17156 m17157 m17158), rfl, hp, r17145, r17151⟩
  ·
    have h := cond_f h hc
    apply go
    obtain ⟨y17202, q17203, h⟩ := bind_some h
    refine W.cut (γ := (Bool × (List Int) × Bool × (List Int) × Value × Value × (Nat → Prop))) (fun g => [(2, (.pointer (some ⟨g17131, 0, none⟩))), (3, (.pointer (some ⟨g17133, 0, none⟩))), (4, (.pointer (some ⟨g17135, 0, none⟩)))]) (fun g w' => y17202 = ((g.1), (g.2.1), (g.2.2.1), (g.2.2.2.1)) ∧ Hp ⟨w0, I0, []⟩ (g.2.2.2.2.2.2) [some (g17131, [(.bool (g.1)), (g.2.2.2.2.1)], 24), some (g17133, [(.bool (g.2.2.1)), (g.2.2.2.2.2.1)], 24), some (g17135, [(.bool false), (.slice none 0 0), (.bool false), (.slice none 0 0)], 26)] w' ∧ RepS (dI .u32) w' (g.2.2.2.2.2.2) (g.2.2.2.2.1) (g.2.1) ∧ RepS (dI .u32) w' (g.2.2.2.2.2.2) (g.2.2.2.2.2.1) (g.2.2.2.1)) ?_ ?_
    ·
      apply go
      apply go
      refine ev (rn_load rfl rfl (run_loadVarA T24 rfl (hp.at_ (i := 1) rfl))) ?_
      obtain ⟨x17204, q17205, q17203⟩ := bind_some q17203
      refine ev_call rfl rfl C39 (((integer_Sign_ok n) _ _  (Int_2.mk x17126.Neg x17126.Mag) v17127 r17128 hp.imm _ q17205).mono ?_)
      rintro _ w17206 ⟨rfl, hc⟩
      have hs := hp.stp hc
      replace hp := hp.ext hc
      replace r17128 := r17128.step hs
      replace r17125 := r17125.step hs
      apply go
      refine sel_of (fun hc => ?_) (fun hc => ?_)
      ·
        have q17203 := cond_t q17203 hc
        have hs := hp.stp (Ch.drew [] w17206)
        have hp := hp.drew
        replace r17128 := r17128.step hs
        replace r17125 := r17125.step hs
        refine W.heldG (.q 0 (.q 2 (.l 1 (.l 3 (.l 4 (.l 5 .done .no) .no) .no) .no))) (SK (Stp I0 w17206.drew I0) [(g17131, [(.bool x17123.Neg), v17124], 24), (g17133, [(.bool x17126.Neg), v17127], 24)] [[4], [5]]) MX (by kernel_rfl) ⟨Stp.refl _ _, (kp_cons (fun _ => (hp.own 2 _ _ _ rfl).1) (kp_cons (fun _ => (hp.own 1 _ _ _ rfl).1) kp_nil))⟩ ?_
        have hz := Stp.refl I0 w17206.drew
        refine ⟨SK.same (by kernel_rfl), ?_⟩
        refine evh (fun w' hw => rn_load rfl rfl (run_loadVarA T24 rfl ((S0.keep (p := 0) hw rfl rfl (by kernel_rfl)).at_ (i := 0) rfl))) ?_
        refine ⟨SK.same (by kernel_rfl), ?_⟩
        refine evh (fun w' hw => rn_load rfl rfl (run_loadVarA T24 rfl ((S0.keep (p := 1) hw rfl rfl (by kernel_rfl)).at_ (i := 0) rfl))) ?_
        refine ⟨?_, trivial⟩
        obtain ⟨x17221, q17222, q17203⟩ := bind_some q17203
        refine ev_call rfl rfl C64 (((integer_Neg_ok n) _ _  (Int_2.mk x17123.Neg x17123.Mag) v17124 r17125 hp.imm _ q17222).mono ?_)
        rintro _ w17223 ⟨I17224, v17225, hv, hq, r17226⟩
        replace hv := hv.symm
        subst hv
        have hs := hq.st
        have hp := hp.join0 hq
        replace hz := hz.trans hs
        replace r17128 := r17128.step hs
        replace r17125 := r17125.step hs
        refine ⟨SK (Stp I17224 w17223 I17224) [(g17131, [(.bool x17123.Neg), v17124], 24), (g17133, [(.bool x17126.Neg), v17127], 24)] [[4], [5]], ⟨Stp.refl _ _, (kp_cons (fun _ => (hp.own 2 _ _ _ rfl).1) (kp_cons (fun _ => (hp.own 1 _ _ _ rfl).1) kp_nil))⟩, fun L x h => ⟨hz.held h.1, h.2⟩, ?_⟩
        have hz := Stp.refl I17224 w17223
        refine ⟨?_, trivial⟩
        obtain ⟨x17227, q17228, q17203⟩ := bind_some q17203
        refine ev_call rfl rfl C64 (((integer_Neg_ok n) _ _  (Int_2.mk x17126.Neg x17126.Mag) v17127 r17128 hp.imm _ q17228).mono ?_)
        rintro _ w17229 ⟨I17230, v17231, hv, hq, r17232⟩
        replace hv := hv.symm
        subst hv
        have hs := hq.st
        have hp := hp.join0 hq
        replace hz := hz.trans hs
        replace r17226 := r17226.step hs
        replace r17128 := r17128.step hs
        replace r17125 := r17125.step hs
        refine ⟨SK (Stp I17230 w17229 I17230) [(g17131, [(.bool x17123.Neg), v17124], 24), (g17133, [(.bool x17126.Neg), v17127], 24)] [[4], [5]], ⟨Stp.refl _ _, (kp_cons (fun _ => (hp.own 2 _ _ _ rfl).1) (kp_cons (fun _ => (hp.own 1 _ _ _ rfl).1) kp_nil))⟩, fun L x h => ⟨hz.held h.1, h.2⟩, ?_⟩
        have hz := Stp.refl I17230 w17229
        refine ⟨?_, trivial⟩
        refine ev_storeA hp (i := 2) (off := 0) (vs := [(.bool x17221.Neg), v17225]) rfl rfl rfl rfl T24 rfl (Nat.le_of_ble_eq_true rfl) (ones_cons rfl (ones_cons r17226.one ones_nil)) ?_
        intro w17233 hp hs
        replace hz := hz.trans hs
        replace r17232 := r17232.step hs
        replace r17128 := r17128.step hs
        replace r17226 := r17226.step hs
        refine ⟨SK (Stp I17230 w17233 I17230) [(g17131, [(.bool x17123.Neg), v17124], 24), (g17133, [(.bool x17126.Neg), v17127], 24)] [[4], [5]], ⟨Stp.refl _ _, (kp_cons (kp_off (by kernel_rfl)) (kp_cons (fun _ => (hp.own 1 _ _ _ rfl).1) kp_nil))⟩, fun L x h => ⟨hz.held h.1, h.2⟩, ?_⟩
        have hz := Stp.refl I17230 w17233
        refine ⟨?_, trivial⟩
        refine ev_storeA hp (i := 1) (off := 0) (vs := [(.bool x17227.Neg), v17231]) rfl rfl rfl rfl T24 rfl (Nat.le_of_ble_eq_true rfl) (ones_cons rfl (ones_cons r17232.one ones_nil)) ?_
        intro w17234 hp hs
        replace hz := hz.trans hs
        replace r17232 := r17232.step hs
        replace r17226 := r17226.step hs
        refine ⟨SK (Stp I17230 w17234 I17230) [(g17131, [(.bool x17123.Neg), v17124], 24), (g17133, [(.bool x17126.Neg), v17127], 24)] [[4], [5]], ⟨Stp.refl _ _, (kp_cons (kp_off (by kernel_rfl)) (kp_cons (kp_off (by kernel_rfl)) kp_nil))⟩, fun L x h => ⟨hz.held h.1, h.2⟩, ?_⟩
        have hz := Stp.refl I17230 w17234
        obtain rfl := Option.some.inj q17203
        have hp := hp.perm [2, 1, 0] (by decide)
        exact ⟨(x17221.Neg, x17221.Mag, x17227.Neg, x17227.Mag, v17225, v17231, I17230), (.c rfl (.c rfl (.c rfl .n))), rfl, hp, r17226, r17232⟩
      ·
        have q17203 := cond_f q17203 hc
        apply go
        obtain rfl := Option.some.inj q17203
        have hp := hp.perm [2, 1, 0] (by decide)
        exact ⟨(x17123.Neg, x17123.Mag, x17126.Neg, x17126.Mag, v17124, v17127, I0), (.c rfl (.c rfl (.c rfl .n))), rfl, hp, r17125, r17128⟩
    ·
      rintro ⟨x17192, x17193, x17196, x17197, v17194, v17198, I17200⟩ w17201 ⟨hy, hp, r17195, r17199⟩
      replace hy := hy.symm
      subst hy
      apply go
      apply go
      refine ev (rn_load rfl rfl (run_loadVarA T24 rfl (hp.at_ (i := 0) rfl))) ?_
      refine ev (rn_load rfl rfl (run_loadVarA T24 rfl (hp.at_ (i := 1) rfl))) ?_
      obtain ⟨x17235, q17236, h⟩ := bind_some h
      refine ev_call rfl rfl C65 (((integer_Gcd_ok n) _ _  (Int_2.mk x17192 x17193) v17194 r17195 (Int_2.mk x17196 x17197) v17198 r17199 hp.imm _ q17236).mono ?_)
      rintro _ w17237 ⟨I17238, v17239, hv, hq, r17240⟩
      replace hv := hv.symm
      subst hv
      have hs := hq.st
      have hp := hp.join0 hq
      replace r17195 := r17195.step hs
      replace r17199 := r17199.step hs
      refine ev_alloc hp rfl T24 ?_
      intro g17241 w17242 hp hs
      replace r17240 := r17240.step hs
      replace r17195 := r17195.step hs
      replace r17199 := r17199.step hs
      refine ev_storeA hp (i := 0) (off := 0) (vs := [(.bool x17235.Neg), v17239]) rfl rfl rfl rfl T24 rfl (Nat.le_of_ble_eq_true rfl) (ones_cons rfl (ones_cons r17240.one ones_nil)) ?_
      intro w17243 hp hs
      replace r17240 := r17240.step hs
      replace r17195 := r17195.step hs
      replace r17199 := r17199.step hs
      apply go
      apply go
      refine ev (rn_load rfl rfl (run_loadVarA T24 rfl (hp.at_ (i := 1) rfl))) ?_
      refine ev (rn_load rfl rfl (run_loadVarA T24 rfl (hp.at_ (i := 0) rfl))) ?_
      obtain ⟨⟨x17244, x17245, x17246⟩, q17247, h⟩ := bind_some h
      refine ev_call rfl rfl C49 (((integer_DivMod_ok n) _ _  (Int_2.mk x17192 x17193) v17194 r17195 (Int_2.mk x17235.Neg x17235.Mag) v17239 r17240 hp.imm _ q17247).mono ?_)
      rintro _ w17248 ⟨I17249, v17250, v17252, hv, hq, r17251, r17253⟩
      replace hv := hv.symm
      subst hv
      have hs := hq.st
      have hp := hp.join0 hq
      replace r17240 := r17240.step hs
      replace r17195 := r17195.step hs
      replace r17199 := r17199.step hs
      refine ev_alloc hp rfl T24 ?_
      intro g17254 w17255 hp hs
      replace r17251 := r17251.step hs
      replace r17253 := r17253.step hs
      replace r17240 := r17240.step hs
      replace r17195 := r17195.step hs
      replace r17199 := r17199.step hs
      refine ev_alloc hp rfl T24 ?_
      intro g17256 w17257 hp hs
      replace r17251 := r17251.step hs
      replace r17253 := r17253.step hs
      replace r17240 := r17240.step hs
      replace r17195 := r17195.step hs
      replace r17199 := r17199.step hs
      refine ev_storeA hp (i := 1) (off := 0) (vs := [(.bool x17244.Neg), v17250]) rfl rfl rfl rfl T24 rfl (Nat.le_of_ble_eq_true rfl) (ones_cons rfl (ones_cons r17251.one ones_nil)) ?_
      intro w17258 hp hs
      replace r17253 := r17253.step hs
      replace r17251 := r17251.step hs
      replace r17240 := r17240.step hs
      replace r17195 := r17195.step hs
      replace r17199 := r17199.step hs
      refine ev_storeA hp (i := 0) (off := 0) (vs := [(.bool x17245.Neg), v17252]) rfl rfl rfl rfl T24 rfl (Nat.le_of_ble_eq_true rfl) (ones_cons rfl (ones_cons r17253.one ones_nil)) ?_
      intro w17259 hp hs
      replace r17253 := r17253.step hs
      replace r17251 := r17251.step hs
      replace r17240 := r17240.step hs
      replace r17195 := r17195.step hs
      replace r17199 := r17199.step hs
      apply go
      apply go
      refine ev (rn_load rfl rfl (run_loadVarA T24 rfl (hp.at_ (i := 4) rfl))) ?_
      refine ev (rn_load rfl rfl (run_loadVarA T24 rfl (hp.at_ (i := 2) rfl))) ?_
      obtain ⟨⟨x17260, x17261, x17262⟩, q17263, h⟩ := bind_some h
      refine ev_call rfl rfl C49 (((integer_DivMod_ok n) _ _  (Int_2.mk x17196 x17197) v17198 r17199 (Int_2.mk x17235.Neg x17235.Mag) v17239 r17240 hp.imm _ q17263).mono ?_)
      rintro _ w17264 ⟨I17265, v17266, v17268, hv, hq, r17267, r17269⟩
      replace hv := hv.symm
      subst hv
      have hs := hq.st
      have hp := hp.join0 hq
      replace r17253 := r17253.step hs
      replace r17251 := r17251.step hs
      replace r17240 := r17240.step hs
      replace r17195 := r17195.step hs
      replace r17199 := r17199.step hs
      refine ev_alloc hp rfl T24 ?_
      intro g17270 w17271 hp hs
      replace r17267 := r17267.step hs
      replace r17269 := r17269.step hs
      replace r17253 := r17253.step hs
      replace r17251 := r17251.step hs
      replace r17240 := r17240.step hs
      replace r17195 := r17195.step hs
      replace r17199 := r17199.step hs
      refine ev_alloc hp rfl T24 ?_
      intro g17272 w17273 hp hs
      replace r17267 := r17267.step hs
      replace r17269 := r17269.step hs
      replace r17253 := r17253.step hs
      replace r17251 := r17251.step hs
      replace r17240 := r17240.step hs
      replace r17195 := r17195.step hs
      replace r17199 := r17199.step hs
      refine ev_storeA hp (i := 1) (off := 0) (vs := [(.bool x17260.Neg), v17266]) rfl rfl rfl rfl T24 rfl (Nat.le_of_ble_eq_true rfl) (ones_cons rfl (ones_cons r17267.one ones_nil)) ?_
      intro w17274 hp hs
      replace r17269 := r17269.step hs
      replace r17267 := r17267.step hs
      replace r17253 := r17253.step hs
      replace r17251 := r17251.step hs
      replace r17240 := r17240.step hs
      replace r17195 := r17195.step hs
      replace r17199 := r17199.step hs
      refine ev_storeA hp (i := 0) (off := 0) (vs := [(.bool x17261.Neg), v17268]) rfl rfl rfl rfl T24 rfl (Nat.le_of_ble_eq_true rfl) (ones_cons rfl (ones_cons r17269.one ones_nil)) ?_
      intro w17275 hp hs
      replace r17269 := r17269.step hs
      replace r17267 := r17267.step hs
      replace r17253 := r17253.step hs
      replace r17251 := r17251.step hs
      replace r17240 := r17240.step hs
      replace r17195 := r17195.step hs
      replace r17199 := r17199.step hs
      apply go
      apply go
      refine ev (rn_load rfl rfl (run_loadVarA T24 rfl (hp.at_ (i := 3) rfl))) ?_
      refine ev (rn_load rfl rfl (run_loadVarA T24 rfl (hp.at_ (i := 1) rfl))) ?_
      obtain ⟨A17276, m17277, m17278, rfl⟩ := r17251.isSl
      obtain ⟨A17280, m17281, m17282, rfl⟩ := r17267.isSl
      refine ev0 (fun w => rn_build (cs := [(.bool x17244.Neg), (.slice A17276 m17277 m17278), (.bool x17260.Neg), (.slice A17280 m17281 m17282)]) rfl rfl T26 PL26 rfl) ?_
      refine ev_storeA hp (i := 7) (off := 0) (vs := [(.bool x17244.Neg), (.slice A17276 m17277 m17278), (.bool x17260.Neg), (.slice A17280 m17281 m17282)]) rfl rfl rfl rfl T26 rfl (Nat.le_of_ble_eq_true rfl) (ones_cons rfl (ones_cons r17251.one (ones_cons rfl (ones_cons r17267.one ones_nil)))) ?_
      intro w17284 hp hs
      replace r17269 := r17269.step hs
      replace r17267 := r17267.step hs
      replace r17253 := r17253.step hs
      replace r17251 := r17251.step hs
      replace r17240 := r17240.step hs
      replace r17195 := r17195.step hs
      replace r17199 := r17199.step hs
      apply go
      obtain rfl := Option.some.inj h
      refine ⟨_, run_loadVarA T26 rfl (hp.at_ (i := 7) rfl), ?_⟩
      have hp := hp.sel [] (by decide)
      exact ⟨I17265, (.slice A17276 m17277 m17278), (.slice A17280 m17281 m17282), rfl, hp, r17251, r17267⟩

end Go.Proofs.YtepadjfmcbjkmaaGreatDoor

namespace Go.Proofs.YtepadjfmcbjkmaaGreatDoor
open Go Go.Proofs.YtepadjfmcbjkmaaGreatDoor.Gw Go.RowKit
set_option linter.unusedVariables false
attribute [local irreducible] Ev EvQ EvS EvH
def rational_Of_S (f : Int → Int → Option Rational) : Prop := ∀ (w0 : World) (I0 : Nat → Prop) (x17285 : Int) (x17286 : Int) (hI : ∀ g, I0 g → g < w0.heap.size) (r : Rational), f x17285 x17286 = some r →
    Ret Tryz.prog 29 #[(.int .i64 x17285), (.int .i64 x17286)] w0 fun v w1 => ∃ (I1 : Nat → Prop) (u17287 : Value) (u17288 : Value), v = (.agg #[(.bool r.Num.Neg), u17287, (.bool r.Den.Neg), u17288]) ∧ Hp ⟨w0, I0, []⟩ I1 [] w1 ∧ RepS (dI .u32) w1 I1 u17287 r.Num.Mag ∧ RepS (dI .u32) w1 I1 u17288 r.Den.Mag
theorem rational_Of_ok (n : Nat) : rational_Of_S (rational_Of n) := by
  intro w0 I0 x17285 x17286 hI r h
  unfold rational_Of at h
  refine enter Tryz.func29 rfl (Nat.le_of_ble_eq_true rfl) ?_
  have hp : Hp ⟨w0, I0, []⟩ I0 [] w0 := Hp.start hI
  apply go
  apply go
  refine ev_alloc hp rfl T26 ?_
  intro g17289 w17290 hp hs
  apply go
  apply go
  obtain ⟨x17291, q17292, h⟩ := bind_some h
  refine ev_call rfl rfl C63 (((integer_Of_ok n) _ _  x17285 hp.imm _ q17292).mono ?_)
  rintro _ w17293 ⟨I17294, v17295, hv, hq, r17296⟩
  replace hv := hv.symm
  subst hv
  have hs := hq.st
  have hp := hp.join0 hq
  obtain ⟨x17297, q17298, h⟩ := bind_some h
  refine ev_call rfl rfl C63 (((integer_Of_ok n) _ _  x17286 hp.imm _ q17298).mono ?_)
  rintro _ w17299 ⟨I17300, v17301, hv, hq, r17302⟩
  replace hv := hv.symm
  subst hv
  have hs := hq.st
  have hp := hp.join0 hq
  replace r17296 := r17296.step hs
  obtain ⟨x17303, q17304, h⟩ := bind_some h
  refine ev_call rfl rfl C28 (((rational_New_ok n) _ _  x17291 v17295 r17296 x17297 v17301 r17302 hp.imm _ q17304).mono ?_)
  rintro _ w17305 ⟨I17306, v17307, v17309, hv, hq, r17308, r17310⟩
  replace hv := hv.symm
  subst hv
  have hs := hq.st
  have hp := hp.join0 hq
  refine ev_storeA hp (i := 0) (off := 0) (vs := [(.bool x17303.Num.Neg), v17307, (.bool x17303.Den.Neg), v17309]) rfl rfl rfl rfl T26 rfl (Nat.le_of_ble_eq_true rfl) (ones_cons rfl (ones_cons r17308.one (ones_cons rfl (ones_cons r17310.one ones_nil)))) ?_
  intro w17311 hp hs
  replace r17308 := r17308.step hs
  replace r17310 := r17310.step hs
  apply go
  obtain rfl := Option.some.inj h
  refine ⟨_, run_loadVarA T26 rfl (hp.at_ (i := 0) rfl), ?_⟩
  have hp := hp.sel [] (by decide)
  exact ⟨I17306, v17307, v17309, rfl, hp, r17308, r17310⟩

end Go.Proofs.YtepadjfmcbjkmaaGreatDoor

namespace Go.Proofs.YtepadjfmcbjkmaaGreatDoor
open Go Go.Proofs.YtepadjfmcbjkmaaGreatDoor.Gw Go.RowKit
set_option linter.unusedVariables false
attribute [local irreducible] Ev EvQ EvS EvH
def rational_Norm_S (f : Rational → Option Rational) : Prop := ∀ (w0 : World) (I0 : Nat → Prop) (x17312 : Rational) (v17313 : Value) (r17314 : RepS (dI .u32) w0 I0 v17313 x17312.Num.Mag) (v17315 : Value) (r17316 : RepS (dI .u32) w0 I0 v17315 x17312.Den.Mag) (hI : ∀ g, I0 g → g < w0.heap.size) (r : Rational), f x17312 = some r →
    Ret Tryz.prog 38 #[(.agg #[(.bool x17312.Num.Neg), v17313, (.bool x17312.Den.Neg), v17315])] w0 fun v w1 => ∃ (I1 : Nat → Prop) (u17317 : Value) (u17318 : Value), v = (.agg #[(.bool r.Num.Neg), u17317, (.bool r.Den.Neg), u17318]) ∧ Hp ⟨w0, I0, []⟩ I1 [] w1 ∧ RepS (dI .u32) w1 I1 u17317 r.Num.Mag ∧ RepS (dI .u32) w1 I1 u17318 r.Den.Mag
theorem rational_Norm_ok (n : Nat) : rational_Norm_S (rational_Norm n) := by
  intro w0 I0 x17312 v17313 r17314 v17315 r17316 hI r h
  unfold rational_Norm at h
  refine enter Tryz.func38 rfl (Nat.le_of_ble_eq_true rfl) ?_
  have hp : Hp ⟨w0, I0, []⟩ I0 [] w0 := Hp.start hI
  apply go
  apply go
  refine ev_boxI hp rfl rfl ?_
  intro p17321 I17322 w17320 hp hs a17323
  replace r17314 := r17314.step hs
  replace r17316 := r17316.step hs
  refine ev_alloc hp rfl T26 ?_
  intro g17324 w17325 hp hs
  replace a17323 := a17323.step hs
  replace r17314 := r17314.step hs
  replace r17316 := r17316.step hs
  apply go
  apply go
  refine ev0 (rn_field rfl rfl FO26_0) ?_
  refine ev (rn_load rfl rfl (run_loadVarA T24 rfl ((a17323.drop 0).take 2))) ?_
  refine ev0 (rn_field rfl rfl FO26_1) ?_
  refine ev (rn_load rfl rfl (run_loadVarA T24 rfl ((a17323.drop 2).take 2))) ?_
  obtain ⟨x17326, q17327, h⟩ := bind_some h
  refine ev_call rfl rfl C28 (((rational_New_ok n) _ _  (Int_2.mk x17312.Num.Neg x17312.Num.Mag) v17313 r17314 (Int_2.mk x17312.Den.Neg x17312.Den.Mag) v17315 r17316 hp.imm _ q17327).mono ?_)
  rintro _ w17328 ⟨I17329, v17330, v17332, hv, hq, r17331, r17333⟩
  replace hv := hv.symm
  subst hv
  have hs := hq.st
  have hp := hp.join0 hq
  refine ev_storeA hp (i := 0) (off := 0) (vs := [(.bool x17326.Num.Neg), v17330, (.bool x17326.Den.Neg), v17332]) rfl rfl rfl rfl T26 rfl (Nat.le_of_ble_eq_true rfl) (ones_cons rfl (ones_cons r17331.one (ones_cons rfl (ones_cons r17333.one ones_nil)))) ?_
  intro w17334 hp hs
  replace r17331 := r17331.step hs
  replace r17333 := r17333.step hs
  apply go
  obtain rfl := Option.some.inj h
  refine ⟨_, run_loadVarA T26 rfl (hp.at_ (i := 0) rfl), ?_⟩
  have hp := hp.sel [] (by decide)
  exact ⟨I17329, v17330, v17332, rfl, hp, r17331, r17333⟩

end Go.Proofs.YtepadjfmcbjkmaaGreatDoor

namespace Go.Proofs.YtepadjfmcbjkmaaGreatDoor
open Go Go.Proofs.YtepadjfmcbjkmaaGreatDoor.Gw Go.RowKit
set_option linter.unusedVariables false
attribute [local irreducible] Ev EvQ EvS EvH
def integer_Cmp_S (f : Int_2 → Int_2 → Option Int) : Prop := ∀ (w0 : World) (I0 : Nat → Prop) (x17335 : Int_2) (v17336 : Value) (r17337 : RepS (dI .u32) w0 I0 v17336 x17335.Mag) (x17338 : Int_2) (v17339 : Value) (r17340 : RepS (dI .u32) w0 I0 v17339 x17338.Mag) (hI : ∀ g, I0 g → g < w0.heap.size) (r : Int), f x17335 x17338 = some r →
    Ret Tryz.prog 46 #[(.agg #[(.bool x17335.Neg), v17336]), (.agg #[(.bool x17338.Neg), v17339])] w0 fun v w1 => v = (.int .i64 r) ∧ Ch [] w0 w1
theorem integer_Cmp_ok (n : Nat) : integer_Cmp_S (integer_Cmp n) := by
  intro w0 I0 x17335 v17336 r17337 x17338 v17339 r17340 hI r h
  unfold integer_Cmp at h
  refine enter Tryz.func46 rfl (Nat.le_of_ble_eq_true rfl) ?_
  have hp : Hp ⟨w0, I0, []⟩ I0 [] w0 := Hp.start hI
  apply go
  apply go
  refine ev_boxI hp rfl rfl ?_
  intro p17343 I17344 w17342 hp hs a17345
  replace r17340 := r17340.step hs
  replace r17337 := r17337.step hs
  refine ev_boxI hp rfl rfl ?_
  intro p17348 I17349 w17347 hp hs a17350
  replace a17345 := a17345.step hs
  replace r17337 := r17337.step hs
  replace r17340 := r17340.step hs
  apply go
  refine W.quiet (fun w' => Ch [] w17347 w') MX (by kernel_rfl) (Ch.drew [] w17347) ?_
  refine evq (fun w' hw => rn_load rfl rfl (run_loadVarA T24 rfl (a17345.step (hp.stp hw)))) ?_
  obtain ⟨x17351, q17352, h⟩ := bind_some h
  refine evq_call rfl rfl C39 (fun w' hw => ((integer_Sign_ok n) _ _  (Int_2.mk x17335.Neg x17335.Mag) v17336 (r17337.step (hp.stp hw)) (hp.ext hw).imm _ q17352).mono fun _ _ ⟨e, hc⟩ => ⟨e, hw.trans hc⟩) ?_
  refine evq (fun w' hw => rn_load rfl rfl (run_loadVarA T24 rfl (a17350.step (hp.stp hw)))) ?_
  obtain ⟨x17353, q17354, h⟩ := bind_some h
  refine evq_call rfl rfl C39 (fun w' hw => ((integer_Sign_ok n) _ _  (Int_2.mk x17338.Neg x17338.Mag) v17339 (r17340.step (hp.stp hw)) (hp.ext hw).imm _ q17354).mono fun _ _ ⟨e, hc⟩ => ⟨e, hw.trans hc⟩) ?_
  intro w17355 hc
  have hs := hp.stp hc
  replace hp := hp.ext hc
  replace a17345 := a17345.step hs
  replace r17337 := r17337.step hs
  replace a17350 := a17350.step hs
  replace r17340 := r17340.step hs
  apply go
  apply go
  apply go
  apply go
  apply go
  refine sel_of (fun hc => ?_) (fun hc => ?_)
  ·
    have h := cond_t h hc
    apply go
    apply go
    apply go
    obtain rfl := Option.some.inj h
    exact ⟨rfl, hp.ch⟩
  ·
    have h := cond_f h hc
    apply go
    apply go
    apply go
    refine sel_of (fun hc => ?_) (fun hc => ?_)
    ·
      have h := cond_t h hc
      apply go
      apply go
      apply go
      obtain rfl := Option.some.inj h
      exact ⟨rfl, hp.ch⟩
    ·
      have h := cond_f h hc
      apply go
      apply go
      have hs := hp.stp (Ch.drew [] w17355)
      have hp := hp.drew
      replace a17345 := a17345.step hs
      replace r17337 := r17337.step hs
      replace a17350 := a17350.step hs
      replace r17340 := r17340.step hs
      refine W.held [(0, true), (1, true), (2, true), (4, true), (5, true), (3, false), (6, false), (7, false), (8, true), (9, true)] (Stp I17349 w17355.drew I17349) MX (by kernel_rfl) (Stp.refl _ _) ?_
      have hz := Stp.refl I17349 w17355.drew
      refine evh0 (rn_field rfl rfl FO24_1) ?_
      refine evh (fun w' hw => rn_load rfl rfl (run_loadVar1 T22 ((a17345.step hw).2 1 _ rfl))) ?_
      refine evh0 (rn_field rfl rfl FO24_1) ?_
      refine evh (fun w' hw => rn_load rfl rfl (run_loadVar1 T22 ((a17350.step hw).2 1 _ rfl))) ?_
      obtain ⟨x17371, q17372, h⟩ := bind_some h
      refine ev_call rfl rfl C72 (((integer_trim_ok n) _ _  x17335.Mag v17336 r17337 hp.imm _ q17372).mono ?_)
      rintro _ w17373 ⟨I17374, v17375, hv, hq, r17376⟩
      replace hv := hv.symm
      subst hv
      have hs := hq.st
      have hp := hp.join0 hq
      replace hz := hz.trans hs
      replace r17340 := r17340.step hs
      refine ⟨Stp I17374 w17373 I17374, Stp.refl _ _, fun x hx => hz.held hx, ?_⟩
      have hz := Stp.refl I17374 w17373
      obtain ⟨x17377, q17378, h⟩ := bind_some h
      refine ev_call rfl rfl C72 (((integer_trim_ok n) _ _  x17338.Mag v17339 r17340 hp.imm _ q17378).mono ?_)
      rintro _ w17379 ⟨I17380, v17381, hv, hq, r17382⟩
      replace hv := hv.symm
      subst hv
      have hs := hq.st
      have hp := hp.join0 hq
      replace hz := hz.trans hs
      replace r17376 := r17376.step hs
      refine ⟨Stp I17380 w17379 I17380, Stp.refl _ _, fun x hx => hz.held hx, ?_⟩
      have hz := Stp.refl I17380 w17379
      obtain ⟨x17383, q17384, h⟩ := bind_some h
      refine ev_call rfl rfl C79 (((integer_compare_ok n) _ _  x17371 v17375 r17376 x17377 v17381 r17382 hp.imm _ q17384).mono ?_)
      rintro _ w17385 ⟨rfl, hc⟩
      have hs := hp.stp hc
      replace hp := hp.ext hc
      replace hz := hz.trans hs
      refine ⟨Stp I17380 w17385 I17380, Stp.refl _ _, fun x hx => hz.held hx, ?_⟩
      have hz := Stp.refl I17380 w17385
      apply go
      obtain rfl := Option.some.inj h
      exact ⟨rfl, hp.ch⟩

end Go.Proofs.YtepadjfmcbjkmaaGreatDoor

namespace Go.Proofs.YtepadjfmcbjkmaaGreatDoor
open Go Go.Proofs.YtepadjfmcbjkmaaGreatDoor.Gw Go.RowKit
set_option linter.unusedVariables false
attribute [local irreducible] Ev EvQ EvS EvH
def rational_one_S (f : Int_2 → Option Bool) : Prop := ∀ (w0 : World) (I0 : Nat → Prop) (x17386 : Int_2) (v17387 : Value) (r17388 : RepS (dI .u32) w0 I0 v17387 x17386.Mag) (hI : ∀ g, I0 g → g < w0.heap.size) (r : Bool), f x17386 = some r →
    Ret Tryz.prog 43 #[(.agg #[(.bool x17386.Neg), v17387])] w0 fun v w1 => v = (.bool r) ∧ Ch [] w0 w1
theorem rational_one_ok (n : Nat) : rational_one_S (rational_one n) := by
  intro w0 I0 x17386 v17387 r17388 hI r h
  unfold rational_one at h
  refine enter Tryz.func43 rfl (Nat.le_of_ble_eq_true rfl) ?_
  have hp : Hp ⟨w0, I0, []⟩ I0 [] w0 := Hp.start hI
  apply go
  apply go
  refine ev_boxI hp rfl rfl ?_
  intro p17391 I17392 w17390 hp hs a17393
  replace r17388 := r17388.step hs
  apply go
  have hs := hp.stp (Ch.drew [] w17390)
  have hp := hp.drew
  replace a17393 := a17393.step hs
  replace r17388 := r17388.step hs
  refine W.held [(0, true), (1, false), (2, false), (3, true), (4, true)] (Stp I17392 w17390.drew I17392) MX (by kernel_rfl) (Stp.refl _ _) ?_
  have hz := Stp.refl I17392 w17390.drew
  refine evh (fun w' hw => rn_load rfl rfl (run_loadVarA T24 rfl (a17393.step hw))) ?_
  obtain ⟨x17403, q17404, h⟩ := bind_some h
  refine ev_call rfl rfl C63 (((integer_Of_ok n) _ _  1 hp.imm _ q17404).mono ?_)
  rintro _ w17405 ⟨I17406, v17407, hv, hq, r17408⟩
  replace hv := hv.symm
  subst hv
  have hs := hq.st
  have hp := hp.join0 hq
  replace hz := hz.trans hs
  replace r17388 := r17388.step hs
  refine ⟨Stp I17406 w17405 I17406, Stp.refl _ _, fun x hx => hz.held hx, ?_⟩
  have hz := Stp.refl I17406 w17405
  obtain ⟨x17409, q17410, h⟩ := bind_some h
  refine ev_call rfl rfl C46 (((integer_Cmp_ok n) _ _  (Int_2.mk x17386.Neg x17386.Mag) v17387 r17388 x17403 v17407 r17408 hp.imm _ q17410).mono ?_)
  rintro _ w17411 ⟨rfl, hc⟩
  have hs := hp.stp hc
  replace hp := hp.ext hc
  replace hz := hz.trans hs
  refine ⟨Stp I17406 w17411 I17406, Stp.refl _ _, fun x hx => hz.held hx, ?_⟩
  have hz := Stp.refl I17406 w17411
  apply go
  obtain rfl := Option.some.inj h
  exact ⟨rfl, hp.ch⟩

end Go.Proofs.YtepadjfmcbjkmaaGreatDoor

namespace Go.Proofs.YtepadjfmcbjkmaaGreatDoor
open Go Go.Proofs.YtepadjfmcbjkmaaGreatDoor.Gw Go.RowKit
set_option linter.unusedVariables false
attribute [local irreducible] Ev EvQ EvS EvH
def strconv_FormatUint_S (f : Int → Int → Option ByteArray) : Prop := ∀ (w0 : World) (I0 : Nat → Prop) (tb : Tb w0 I0 4 .u64 pow10) (x17427 : Int) (x17428 : Int) (hI : ∀ g, I0 g → g < w0.heap.size) (r : ByteArray), f x17427 x17428 = some r →
    Ret Tryz.prog 96 #[(.int .u64 x17427), (.int .i64 x17428)] w0 fun v w1 => v = (.string r) ∧ Ch [] w0 w1

open Go.Sort in
theorem fmt_zero (w : World) (nd : Nat) (hs : nd ≤ 24) : Holds (fun (b : UInt8) => Value.int .u8 (b.toNat : Int)) (w.alloc (.cells Lib.zeros24 135)) w.heap.size 0 (Array.replicate nd (0 : UInt8)) := fun j hj => by
  have hj' : j < nd := by simpa using hj
  refine ⟨?_, World.frozen?_alloc_new _ _ _ _⟩
  rw [World.cell?_alloc_new, Lib.zeros24_at _ (by omega), getElem!_pos _ j hj]
  simp
open Go.Sort in
theorem fmt_below (w : World) (o : Obj) (dk : Array UInt8) (k : Nat) : Below w.heap.size w ((putRow (fun (b : UInt8) => Value.int .u8 (b.toNat : Int)) (w.alloc o) w.heap.size 0 dk).drewN k) := by
  have h1 : Below w.heap.size w (putRow (fun (b : UInt8) => Value.int .u8 (b.toNat : Int)) (w.alloc o) w.heap.size 0 dk) := by
    refine ⟨rfl, rfl, rfl, by rw [size_putRow]; exact (Below.alloc (Below.refl w.heap.size w) (Nat.le_refl _) o).size, fun g hg => ?_⟩
    rw [← Below.heap_alloc w o g hg]
    unfold putRow mapBlock
    dsimp only
    rw [Array.getElem?_modify, if_neg (by omega)]
  refine ⟨?_, ?_, ?_, ?_, ?_⟩
  · exact h1.os
  · exact h1.tape
  · exact h1.output
  · exact h1.size
  · exact h1.block
set_option maxHeartbeats 6400000 in
set_option maxRecDepth 100000 in
theorem fmt_big (u : Nat) (h100 : 100 ≤ u) (hu64 : u < 18446744073709551616) (w : World) (htab : Lib.TabIs Tryz.prog w "internal/strconv.uint64pow10" .u64 Lib.pow10Tab) :
    Calls Tryz.prog 125 #[.int .u64 u, .int .i64 10] w fun e w' => e = .returned (.string ⟨(Lib.decDigits u).toArray⟩) ∧ Below w.heap.size w w' := by
  have hu1 : 1 ≤ u := by omega
  have hnd20 : Lib.nDigits u ≤ 20 := by have := Lib.numDigits_eq u hu1 hu64; split at this <;> omega
  have hb3 : Lib.nDigits u ≤ 24 := by omega
  have hal : Tryz.prog.arrayLen 135 = 24 := by simp [Program.arrayLen, Tryz.underlying135]
  have hsl : ∀ W, (Instr.sliceAt 135 (.pointer (some ⟨w.heap.size, 0, none⟩)) none (some (.int .i64 (Lib.nDigits u : Int))) none).run Tryz.prog W = .ok (.slice (some ⟨w.heap.size, 0, none⟩) (Lib.nDigits u) 24) W := fun W => by
    rw [run_sliceAt_array_h W 135 ⟨w.heap.size, 0, none⟩ (by simp [Program.arrayLen, Program.elem, Tryz.underlying135]) .i64 (Lib.nDigits u : Int) (by omega) (by rw [hal]; omega)]
    go_simp
  have hH0 := fmt_zero w (Lib.nDigits u) (by omega)
  have hfmt := sh_internal_strconv_formatBase10 w.heap.size 0 24 u (Array.replicate (Lib.nDigits u) 0) (w.alloc (.cells Lib.zeros24 135)) hH0 (by rw [Array.size_replicate]; exact Lib.lt_pow_nDigits u) hu64 (by rw [Array.size_replicate]; omega)
  rw [Array.size_replicate] at hfmt
  have HH0 := Lib.hid hH0
  clear hH0 hal
  go_enter Tryz.func125, Tryz.ntmps125
  go_wp2_with (first
    | (go_at_call 150; refine (sh_internal_strconv_numDigits u hu1 hu64 _ (Lib.tabIs_alloc htab _)).mono ?_; rintro e w' ⟨rfl, rfl⟩))
  go_at_call 151
  refine hfmt.mono ?_
  rintro e w' ⟨rfl, k, v', dk, rfl, hF⟩
  have hcv : (convert 52 9 (.slice (some ⟨w.heap.size, 0, none⟩) (Lib.nDigits u) 24)).run Tryz.prog ((Go.Sort.putRow (fun (b : UInt8) => Value.int .u8 (b.toNat : Int)) (w.alloc (.cells Lib.zeros24 135)) w.heap.size 0 dk).drewN k) = .ok (.string ⟨(Lib.decDigits u).toArray⟩) ((Go.Sort.putRow (fun (b : UInt8) => Value.int .u8 (b.toNat : Int)) (w.alloc (.cells Lib.zeros24 135)) w.heap.size 0 dk).drewN k) := by
    have h := run_convert_bytes_back (P := Tryz.prog) ((Go.Sort.putRow (fun (b : UInt8) => Value.int .u8 (b.toNat : Int)) (w.alloc (.cells Lib.zeros24 135)) w.heap.size 0 dk).drewN k) 52 9 5 ⟨w.heap.size, 0, none⟩ 24 (Lib.decDigits u) Tryz.underlying52 Tryz.underlying5 Tryz.underlying9 (fun j hj => by
      rw [Lib.row_is_numeral hF j hj, Lib.add_plain, World.cell?_drewN]
      exact Go.Sort.cell?_putRow (fun (b : UInt8) => Value.int .u8 (b.toNat : Int)) _ w.heap.size 0 _ dk HH0.out (by rw [hF.size, Array.size_replicate]) j (by rw [hF.size]; rw [Lib.decDigits_length] at hj; exact hj))
    rw [Lib.decDigits_length] at h
    exact h
  go_wp2
  go_ret
  exact ⟨rfl, fmt_below w _ dk k⟩
theorem fmt_inner (u : Nat) (hu64 : u < 18446744073709551616) (w : World) (htab : Lib.TabIs Tryz.prog w "internal/strconv.uint64pow10" .u64 Lib.pow10Tab) :
    Calls Tryz.prog 125 #[.int .u64 u, .int .i64 10] w fun e w' => e = .returned (.string ⟨(Lib.decDigits u).toArray⟩) ∧ Below w.heap.size w w' := by
  by_cases h100 : u < 100
  · go_enter Tryz.func125, Tryz.ntmps125
    go_wp2_with (first
      | (go_at_call 149; refine (sh_internal_strconv_small u h100 _).mono ?_; rintro e w' ⟨rfl, rfl⟩))
    go_ret
    exact ⟨rfl, Below.refl _ _⟩
  · exact fmt_big u (by omega) hu64 w htab
theorem strconv_FormatUint_ok (n : Nat) : strconv_FormatUint_S (strconv_FormatUint n) := by
  intro w0 I0 tb x b hI r h
  obtain ⟨rfl, ⟨u, rfl, hu⟩, rfl⟩ := fmtU_some h
  have htab : Lib.TabIs Tryz.prog w0 "internal/strconv.uint64pow10" .u64 Lib.pow10Tab := tb.tab (zs := Lib.pow10Tab) (by kernel_rfl)
  apply ret_below
  go_enter Tryz.func96, Tryz.ntmps96
  go_wp2_with (first
    | (go_at_call 125; refine (fmt_inner u hu _ htab).mono ?_; rintro e w' ⟨rfl, hb⟩))
  go_ret
  exact ⟨rfl, hb⟩

end Go.Proofs.YtepadjfmcbjkmaaGreatDoor

namespace Go.Proofs.YtepadjfmcbjkmaaGreatDoor
open Go Go.Proofs.YtepadjfmcbjkmaaGreatDoor.Gw Go.RowKit
set_option linter.unusedVariables false
attribute [local irreducible] Ev EvQ EvS EvH
def bits_Mul32_S (f : Int → Int → Option (Int × Int)) : Prop := ∀ (w0 : World) (I0 : Nat → Prop) (x17429 : Int) (x17430 : Int) (hI : ∀ g, I0 g → g < w0.heap.size) (r : (Int × Int)), f x17429 x17430 = some r →
    Ret Tryz.prog 153 #[(.int .u32 x17429), (.int .u32 x17430)] w0 fun v w1 => v = (.tuple #[(.int .u32 r.1), (.int .u32 r.2)]) ∧ Ch [] w0 w1
theorem bits_Mul32_ok (n : Nat) : bits_Mul32_S (bits_Mul32 n) := by
  intro w0 I0 x17429 x17430 hI r h
  unfold bits_Mul32 at h
  refine enter Tryz.func153 rfl (Nat.le_of_ble_eq_true rfl) ?_
  have hp : Hp ⟨w0, I0, []⟩ I0 [] w0 := Hp.start hI
  apply go
  apply go
  apply go
  apply go
  refine ev0 (rn_conv rfl rfl U46 Tryz.underlying75) ?_
  refine ev0 (rn_conv rfl rfl U46 Tryz.underlying75) ?_
  apply go
  apply go
  refine ⟨by decide, ?_⟩
  refine ev0 (rn_conv rfl rfl U75 Tryz.underlying46) ?_
  refine ev0 (rn_conv rfl rfl U75 Tryz.underlying46) ?_
  apply go
  obtain rfl := Option.some.inj h
  exact ⟨rfl, hp.ch⟩

end Go.Proofs.YtepadjfmcbjkmaaGreatDoor

namespace Go.Proofs.YtepadjfmcbjkmaaGreatDoor
open Go Go.Proofs.YtepadjfmcbjkmaaGreatDoor.Gw Go.RowKit
set_option linter.unusedVariables false
attribute [local irreducible] Ev EvQ EvS EvH
def bits_Mul64_S (f : Int → Int → Option (Int × Int)) : Prop := ∀ (w0 : World) (I0 : Nat → Prop) (x17431 : Int) (x17432 : Int) (hI : ∀ g, I0 g → g < w0.heap.size) (r : (Int × Int)), f x17431 x17432 = some r →
    Ret Tryz.prog 154 #[(.int .u64 x17431), (.int .u64 x17432)] w0 fun v w1 => v = (.tuple #[(.int .u64 r.1), (.int .u64 r.2)]) ∧ Ch [] w0 w1
theorem bits_Mul64_ok (n : Nat) : bits_Mul64_S (bits_Mul64 n) := by
  intro w0 I0 x17431 x17432 hI r h
  unfold bits_Mul64 at h
  refine enter Tryz.func154 rfl (Nat.le_of_ble_eq_true rfl) ?_
  have hp : Hp ⟨w0, I0, []⟩ I0 [] w0 := Hp.start hI
  apply go
  apply go
  apply go
  apply go
  apply go
  apply go
  refine ⟨by decide, ?_⟩
  apply go
  apply go
  apply go
  apply go
  refine ⟨by decide, ?_⟩
  apply go
  apply go
  apply go
  apply go
  refine ⟨by decide, ?_⟩
  apply go
  apply go
  apply go
  apply go
  refine ⟨by decide, ?_⟩
  apply go
  apply go
  apply go
  apply go
  refine ⟨by decide, ?_⟩
  apply go
  apply go
  apply go
  obtain rfl := Option.some.inj h
  exact ⟨rfl, hp.ch⟩

end Go.Proofs.YtepadjfmcbjkmaaGreatDoor

namespace Go.Proofs.YtepadjfmcbjkmaaGreatDoor
open Go Go.Proofs.YtepadjfmcbjkmaaGreatDoor.Gw Go.RowKit
set_option linter.unusedVariables false
attribute [local irreducible] Ev EvQ EvS EvH
def bits_Mul_S (f : Int → Int → Option (Int × Int)) : Prop := ∀ (w0 : World) (I0 : Nat → Prop) (x17433 : Int) (x17434 : Int) (hI : ∀ g, I0 g → g < w0.heap.size) (r : (Int × Int)), f x17433 x17434 = some r →
    Ret Tryz.prog 126 #[(.int .u64 x17433), (.int .u64 x17434)] w0 fun v w1 => v = (.tuple #[(.int .u64 r.1), (.int .u64 r.2)]) ∧ Ch [] w0 w1
theorem bits_Mul_ok (n : Nat) : bits_Mul_S (bits_Mul n) := by
  intro w0 I0 x17433 x17434 hI r h
  unfold bits_Mul at h
  refine enter Tryz.func126 rfl (Nat.le_of_ble_eq_true rfl) ?_
  have hp : Hp ⟨w0, I0, []⟩ I0 [] w0 := Hp.start hI
  apply go
  apply go
  apply go
  apply go
  apply go
  apply go
  apply go
  obtain ⟨⟨x17435, x17436⟩, q17437, h⟩ := bind_some h
  refine ev_call rfl rfl C154 (((bits_Mul64_ok n) _ _  x17433 x17434 hp.imm _ q17437).mono ?_)
  rintro _ w17438 ⟨rfl, hc⟩
  have hs := hp.stp hc
  replace hp := hp.ext hc
  apply go
  apply go
  apply go
  obtain rfl := Option.some.inj h
  exact ⟨rfl, hp.ch⟩

end Go.Proofs.YtepadjfmcbjkmaaGreatDoor

namespace Go.Proofs.YtepadjfmcbjkmaaGreatDoor
open Go Go.Proofs.YtepadjfmcbjkmaaGreatDoor.Gw Go.RowKit
set_option linter.unusedVariables false
attribute [local irreducible] Ev EvQ EvS EvH
def stringslite_HasPrefix_S (f : ByteArray → ByteArray → Option Bool) : Prop := ∀ (w0 : World) (I0 : Nat → Prop) (x17439 : ByteArray) (x17440 : ByteArray) (hI : ∀ g, I0 g → g < w0.heap.size) (r : Bool), f x17439 x17440 = some r →
    Ret Tryz.prog 138 #[(.string x17439), (.string x17440)] w0 fun v w1 => v = (.bool r) ∧ Ch [] w0 w1
theorem stringslite_HasPrefix_ok (n : Nat) : stringslite_HasPrefix_S (stringslite_HasPrefix n) := by
  intro w0 I0 x17439 x17440 hI r h
  unfold stringslite_HasPrefix at h
  refine enter Tryz.func138 rfl (Nat.le_of_ble_eq_true rfl) ?_
  have hp : Hp ⟨w0, I0, []⟩ I0 [] w0 := Hp.start hI
  apply go
  apply go
  obtain ⟨y17444, q17445, h⟩ := bind_some h
  refine W.cut (γ := Bool) (fun g => [(4, (.bool (g)))]) (fun g w' => y17444 = (g) ∧ w0 = w') ?_ ?_
  ·
    apply go
    refine ev0 (rn_lenS rfl rfl Tryz.underlying9) ?_
    refine ev0 (rn_lenS rfl rfl Tryz.underlying9) ?_
    refine sel_of (fun hc => ?_) (fun hc => ?_)
    ·
      have q17445 := cond_t q17445 hc
      refine ev0 (rn_lenS rfl rfl Tryz.underlying9) ?_
      obtain ⟨x17446, q17447, q17445⟩ := bind_some q17445
      refine ev0 (rn_sliceStr (kl := .i64) (kh := .i64) rfl rfl rfl rfl Tryz.underlying9 q17447) ?_
      obtain rfl := Option.some.inj q17445
      exact ⟨(x17446.toList == x17440.toList), (.c rfl .n), rfl, rfl⟩
    ·
      have q17445 := cond_f q17445 hc
      obtain rfl := Option.some.inj q17445
      exact ⟨false, (.c rfl .n), rfl, rfl⟩
  ·
    rintro x17443 _ ⟨hy, rfl⟩
    replace hy := hy.symm
    subst hy
    apply go
    obtain rfl := Option.some.inj h
    exact ⟨rfl, hp.ch⟩

end Go.Proofs.YtepadjfmcbjkmaaGreatDoor

namespace Go.Proofs.YtepadjfmcbjkmaaGreatDoor
open Go Go.Proofs.YtepadjfmcbjkmaaGreatDoor.Gw Go.RowKit
set_option linter.unusedVariables false
attribute [local irreducible] Ev EvQ EvS EvH
def strings_HasPrefix_S (f : ByteArray → ByteArray → Option Bool) : Prop := ∀ (w0 : World) (I0 : Nat → Prop) (x17448 : ByteArray) (x17449 : ByteArray) (hI : ∀ g, I0 g → g < w0.heap.size) (r : Bool), f x17448 x17449 = some r →
    Ret Tryz.prog 127 #[(.string x17448), (.string x17449)] w0 fun v w1 => v = (.bool r) ∧ Ch [] w0 w1
theorem strings_HasPrefix_ok (n : Nat) : strings_HasPrefix_S (strings_HasPrefix n) := by
  intro w0 I0 x17448 x17449 hI r h
  unfold strings_HasPrefix at h
  refine enter Tryz.func127 rfl (Nat.le_of_ble_eq_true rfl) ?_
  have hp : Hp ⟨w0, I0, []⟩ I0 [] w0 := Hp.start hI
  apply go
  apply go
  apply go
  apply go
  obtain ⟨x17450, q17451, h⟩ := bind_some h
  refine ev_call rfl rfl C138 (((stringslite_HasPrefix_ok n) _ _  x17448 x17449 hp.imm _ q17451).mono ?_)
  rintro _ w17452 ⟨rfl, hc⟩
  have hs := hp.stp hc
  replace hp := hp.ext hc
  apply go
  obtain rfl := Option.some.inj h
  exact ⟨rfl, hp.ch⟩

end Go.Proofs.YtepadjfmcbjkmaaGreatDoor

namespace Go.Proofs.YtepadjfmcbjkmaaGreatDoor
open Go Go.Proofs.YtepadjfmcbjkmaaGreatDoor.Gw Go.RowKit
set_option linter.unusedVariables false
attribute [local irreducible] Ev EvQ EvS EvH
def strings_Repeat_S (f : ByteArray → Int → Option ByteArray) : Prop := ∀ (w0 : World) (I0 : Nat → Prop) (x17453 : ByteArray) (x17454 : Int) (hI : ∀ g, I0 g → g < w0.heap.size) (r : ByteArray), f x17453 x17454 = some r →
    Ret Tryz.prog 97 #[(.string x17453), (.int .i64 x17454)] w0 fun v w1 => v = (.string r) ∧ Ch [] w0 w1

theorem strings_Repeat_ok (n : Nat) : strings_Repeat_S (strings_Repeat n) := by
  intro w0 I0 s c hI r h
  obtain ⟨⟨k, rfl, hk⟩, hs, rfl⟩ := repS_some h
  have hm : s.size * k ≤ 1000000 * 1000000 := Nat.mul_le_mul hs hk
  exact ret_below (sh_strings_Repeat s k w0 (by omega) (by omega))

end Go.Proofs.YtepadjfmcbjkmaaGreatDoor

namespace Go.Proofs.YtepadjfmcbjkmaaGreatDoor
open Go Go.Proofs.YtepadjfmcbjkmaaGreatDoor.Gw Go.RowKit
set_option linter.unusedVariables false
attribute [local irreducible] Ev EvQ EvS EvH vch
def slices_Reversestring_string__S (f : (List ByteArray) → Option (List ByteArray)) : Prop := ∀ (w0 : World) (I0 : Nat → Prop) (x17544 : (List ByteArray)) (v17545 : Value) (e17546 : Ent) (o17547 : OwnS dS 9 w0 I0 v17545 e17546 x17544) (hp : Hp ⟨w0, I0, (blk e17546)⟩ I0 [e17546] w0) (r : (List ByteArray)), f x17544 = some r →
    Ret Tryz.prog 98 #[v17545] w0 fun v w1 => ∃ (I1 : Nat → Prop) (u17548 : Ent), v = (.tuple #[]) ∧ Hp ⟨w0, I0, (blk e17546)⟩ I1 [u17548] w1 ∧ OwnS dS 9 w1 I1 v17545 u17548 r ∧ blk u17548 = blk e17546
theorem slices_Reversestring_string__ok (n : Nat) : slices_Reversestring_string__S (slices_Reversestring_string_ n) := by
  intro w0 I0 x17544 v17545 e17546 o17547 hp r h
  unfold slices_Reversestring_string_ at h
  refine enter Tryz.func98 rfl (Nat.le_of_ble_eq_true rfl) ?_
  have o17547z := o17547
  apply go
  apply go
  refine ev0 (x_lenO rfl rfl Tryz.underlying90 o17547) ?_
  apply go
  refine W.loop h (γ := Ent) (fun s g => [(0, v17545), (2, (.int .i64 (s.2.1))), (3, (.int .i64 (s.2.2)))]) (fun s g w' => Hp ⟨w0, I0, (blk e17546)⟩ I0 [(g)] w' ∧ OwnS dS 9 w' I0 v17545 (g) (s.1)) e17546 (.c rfl (.c rfl (.c rfl .n))) ⟨hp, o17547⟩ ?_
  rintro ⟨x17860, x17864, x17865⟩ e17862 w18183 y18184 ⟨hp, o17863⟩ q18185 q18186
  unfold slices_Reversestring_string__L0 at q18185
  apply go
  apply go
  apply go
  apply go
  refine sel_of (fun hc => ?_) (fun hc => ?_)
  ·
    have q18185 := cond_t q18185 hc
    apply go
    obtain ⟨y18344, q18345, q18185⟩ := bind_some q18185
    refine W.cut (γ := ((List ByteArray) × Ent)) (fun g => [(0, v17545), (2, (.int .i64 x17864)), (3, (.int .i64 x17865))]) (fun g w' => y18344 = (g.1) ∧ Hp ⟨w0, I0, (blk e17546)⟩ I0 [(g.2)] w' ∧ OwnS dS 9 w' I0 v17545 (g.2) (g.1)) ?_ ?_
    ·
      apply go
      have hs := hp.stp (Ch.drew [] w18183)
      have hp := hp.drew
      replace o17863 := o17863.step hs
      refine W.heldG (.q 0 (.q 1 (.q 2 (.q 3 (.q 4 (.q 5 (.q 6 (.q 8 (.q 9 (.q 10 (.l 7 (.l 11 (.q 12 (.l 13 (.q 14 (.l 15 .done .no)) .no)) .no) (.l 11 (.l 7 (.q 12 (.l 13 (.q 14 (.l 15 .done .no)) .no)) .no) .no)))))))))))) (SK (Stp I0 w18183.drew I0) [] []) MX (by kernel_rfl) ⟨Stp.refl _ _, kp_nil⟩ ?_
      have hz := Stp.refl I0 w18183.drew
      refine ⟨SK.same (by kernel_rfl), ?_⟩
      refine ⟨SK.same (by kernel_rfl), ?_⟩
      refine ⟨SK.same (by kernel_rfl), ?_⟩
      refine ⟨SK.same (by kernel_rfl), ?_⟩
      refine ⟨SK.same (by kernel_rfl), ?_⟩
      refine ⟨SK.same (by kernel_rfl), ?_⟩
      refine ⟨SK.same (by kernel_rfl), ?_⟩
      obtain ⟨x18430, q18431, q18345⟩ := bind_some q18345
      refine evh_indexO rfl rfl rfl Tryz.underlying90 T9 o17863 q18431 ?_
      intro g18432 c18433 h18436 d18434 l18435
      refine ⟨SK.same (by kernel_rfl), ?_⟩
      refine ⟨SK.same (by kernel_rfl), ?_⟩
      refine ⟨SK.same (by kernel_rfl), ?_⟩
      obtain ⟨x18438, q18439, q18345⟩ := bind_some q18345
      refine evh_indexO rfl rfl rfl Tryz.underlying90 T9 o17863 q18439 ?_
      intro g18440 c18441 h18444 d18442 l18443
      refine ⟨?_, ?_⟩
      ·
        refine ev (rn_load rfl rfl (run_loadVar1 T9 (hp.cellE (i := 0) rfl h18436 d18434 (j := 0) rfl))) ?_
        refine ⟨SK (Stp I0 w18183.drew I0) [] [], ⟨Stp.refl _ _, kp_nil⟩, fun L x h => ⟨hz.held h.1, h.2⟩, ?_⟩
        have hz := Stp.refl I0 w18183.drew
        refine ⟨?_, trivial⟩
        refine ev (rn_load rfl rfl (run_loadVar1 T9 (hp.cellE (i := 0) rfl h18444 d18442 (j := 0) rfl))) ?_
        refine ⟨SK (Stp I0 w18183.drew I0) [] [], ⟨Stp.refl _ _, kp_nil⟩, fun L x h => ⟨hz.held h.1, h.2⟩, ?_⟩
        have hz := Stp.refl I0 w18183.drew
        refine ⟨SK.same (by kernel_rfl), ?_⟩
        obtain ⟨x18446, q18447, q18345⟩ := bind_some q18345
        refine evh_indexO rfl rfl rfl Tryz.underlying90 T9 o17863 q18447 ?_
        intro g18448 c18449 h18452 d18450 l18451
        refine ⟨?_, trivial⟩
        refine ev_storeE hp (i := 0) rfl h18452 rfl rfl rfl T9 o17863 q18447 (x0 := x18430) rfl ?_
        intro e18455 w18454 hp hs o18456
        replace hz := hz.trans hs
        refine ⟨SK (Stp I0 w18454 I0) [] [], ⟨Stp.refl _ _, kp_nil⟩, fun L x h => ⟨hz.held h.1, h.2⟩, ?_⟩
        have hz := Stp.refl I0 w18454
        refine ⟨SK.same (by kernel_rfl), ?_⟩
        obtain ⟨x18459, q18460, q18345⟩ := bind_some q18345
        refine evh_indexO rfl rfl rfl Tryz.underlying90 T9 o18456 q18460 ?_
        intro g18461 c18462 h18465 d18463 l18464
        refine ⟨?_, trivial⟩
        refine ev_storeE hp (i := 0) rfl h18465 rfl rfl rfl T9 o18456 q18460 (x0 := x18438) rfl ?_
        intro e18468 w18467 hp hs o18469
        replace hz := hz.trans hs
        refine ⟨SK (Stp I0 w18467 I0) [] [], ⟨Stp.refl _ _, kp_nil⟩, fun L x h => ⟨hz.held h.1, h.2⟩, ?_⟩
        have hz := Stp.refl I0 w18467
        obtain rfl := Option.some.inj q18345
        exact ⟨((upd (upd x17860 x17864 x18430) x17865 x18438), e18468), (.c rfl (.c rfl (.c rfl .n))), rfl, hp, o18469⟩
      refine ⟨?_, trivial⟩
      refine ev (rn_load rfl rfl (run_loadVar1 T9 (hp.cellE (i := 0) rfl h18444 d18442 (j := 0) rfl))) ?_
      refine ⟨SK (Stp I0 w18183.drew I0) [] [], ⟨Stp.refl _ _, kp_nil⟩, fun L x h => ⟨hz.held h.1, h.2⟩, ?_⟩
      have hz := Stp.refl I0 w18183.drew
      refine ⟨?_, trivial⟩
      refine ev (rn_load rfl rfl (run_loadVar1 T9 (hp.cellE (i := 0) rfl h18436 d18434 (j := 0) rfl))) ?_
      refine ⟨SK (Stp I0 w18183.drew I0) [] [], ⟨Stp.refl _ _, kp_nil⟩, fun L x h => ⟨hz.held h.1, h.2⟩, ?_⟩
      have hz := Stp.refl I0 w18183.drew
      refine ⟨SK.same (by kernel_rfl), ?_⟩
      obtain ⟨x18472, q18473, q18345⟩ := bind_some q18345
      refine evh_indexO rfl rfl rfl Tryz.underlying90 T9 o17863 q18473 ?_
      intro g18474 c18475 h18478 d18476 l18477
      refine ⟨?_, trivial⟩
      refine ev_storeE hp (i := 0) rfl h18478 rfl rfl rfl T9 o17863 q18473 (x0 := x18430) rfl ?_
      intro e18481 w18480 hp hs o18482
      replace hz := hz.trans hs
      refine ⟨SK (Stp I0 w18480 I0) [] [], ⟨Stp.refl _ _, kp_nil⟩, fun L x h => ⟨hz.held h.1, h.2⟩, ?_⟩
      have hz := Stp.refl I0 w18480
      refine ⟨SK.same (by kernel_rfl), ?_⟩
      obtain ⟨x18485, q18486, q18345⟩ := bind_some q18345
      refine evh_indexO rfl rfl rfl Tryz.underlying90 T9 o18482 q18486 ?_
      intro g18487 c18488 h18491 d18489 l18490
      refine ⟨?_, trivial⟩
      refine ev_storeE hp (i := 0) rfl h18491 rfl rfl rfl T9 o18482 q18486 (x0 := x18438) rfl ?_
      intro e18494 w18493 hp hs o18495
      replace hz := hz.trans hs
      refine ⟨SK (Stp I0 w18493 I0) [] [], ⟨Stp.refl _ _, kp_nil⟩, fun L x h => ⟨hz.held h.1, h.2⟩, ?_⟩
      have hz := Stp.refl I0 w18493
      obtain rfl := Option.some.inj q18345
      exact ⟨((upd (upd x17860 x17864 x18430) x17865 x18438), e18494), (.c rfl (.c rfl (.c rfl .n))), rfl, hp, o18495⟩
    ·
      rintro ⟨x18339, e18341⟩ w18343 ⟨hy, hp, o18342⟩
      replace hy := hy.symm
      subst hy
      apply go
      exact ⟨_, (Option.some.inj q18185).symm, e18341, (.c rfl (.c rfl (.c rfl .n))), ⟨hp, o18342⟩⟩
  ·
    have q18185 := cond_f q18185 hc
    apply go
    have q18498 := congrArg some (q18186 _ (Option.some.inj q18185).symm)
    obtain rfl := Option.some.inj q18498
    exact ⟨I0, e17862, rfl, hp, o17863, (OwnS.blk o17547z o17863)⟩

end Go.Proofs.YtepadjfmcbjkmaaGreatDoor

namespace Go.Proofs.YtepadjfmcbjkmaaGreatDoor
open Go Go.Proofs.YtepadjfmcbjkmaaGreatDoor.Gw Go.RowKit
set_option linter.unusedVariables false
attribute [local irreducible] Ev EvQ EvS EvH
def strings_Join_S (f : (List ByteArray) → ByteArray → Option ByteArray) : Prop := ∀ (w0 : World) (I0 : Nat → Prop) (x18499 : (List ByteArray)) (v18500 : Value) (r18501 : RepS dS w0 I0 v18500 x18499) (x18502 : ByteArray) (hI : ∀ g, I0 g → g < w0.heap.size) (r : ByteArray), f x18499 x18502 = some r →
    Ret Tryz.prog 99 #[v18500, (.string x18502)] w0 fun v w1 => v = (.string r) ∧ Ch [] w0 w1

theorem strings_Join_ok (n : Nat) : strings_Join_S (strings_Join n) := by
  intro w0 I0 xs v hr sep hI r h
  obtain ⟨hN, hL, rfl⟩ := joinS_some h
  rcases Nat.eq_zero_or_pos xs.length with h0 | h0
  · obtain rfl := List.eq_nil_of_length_eq_zero h0
    obtain ⟨a, c, rfl, _, _⟩ := hr
    exact ret_same (sh_strings_Join_none a c sep w0)
  · obtain ⟨b, o, c, rfl, hc, hb, hcells⟩ := hr.strs h0
    exact ret_below (sh_strings_Join b o c xs sep w0 hcells (hI b hb) hN hc hL)

end Go.Proofs.YtepadjfmcbjkmaaGreatDoor
