/-
  Each function of the program computes the plain function of its name.
-/
import Derived.Test.YthhghkcopfnbiaaGreatDoorFactsA
import Derived.Lib.Walk
import Derived.BigCall
import Derived.BigGuard
import Derived.Test.YthhghkcopfnbiaaGreatDoorCoreA
namespace Go.Proofs.YthhghkcopfnbiaaGreatDoor
open Go Go.Proofs.YthhghkcopfnbiaaGreatDoor.Gw Go.RowKit
set_option linter.unusedVariables false
attribute [local irreducible] Ev EvQ EvS EvH
def integer_trim_S (f : (List Int) → Option (List Int)) : Prop := ∀ (w0 : World) (I0 : Nat → Prop) (x1 : (List Int)) (v2 : Value) (r3 : RepS (dI .u32) w0 I0 v2 x1) (hI : ∀ g, I0 g → g < w0.heap.size) (r : (List Int)), f x1 = some r →
    Ret Tryz.prog 46 #[v2] w0 fun v w1 => ∃ (I1 : Nat → Prop) (u4 : Value), v = u4 ∧ Hp ⟨w0, I0, []⟩ I1 [] w1 ∧ RepS (dI .u32) w1 I1 u4 r
theorem integer_trim_ok (n : Nat) : integer_trim_S (integer_trim n) := by
  intro w0 I0 x1 v2 r3 hI r h
  unfold integer_trim at h
  refine enter Tryz.func46 rfl (Nat.le_of_ble_eq_true rfl) ?_
  have hp : Hp ⟨w0, I0, []⟩ I0 [] w0 := Hp.start hI
  apply go
  apply go
  obtain ⟨y75, q76, h⟩ := bind_some h
  refine W.cut (γ := ((List Int) × Value)) (fun g => [(0, (g.2))]) (fun g w' => y75 = (g.1) ∧ w0 = w' ∧ RepS (dI .u32) w' I0 (g.2) (g.1)) ?_ ?_
  ·
    apply go
    refine W.loop q76 (γ := Value) (fun s g => [(0, (g))]) (fun s g w' => w0 = w' ∧ RepS (dI .u32) w' I0 (g) (s)) v2 (.c rfl .n) ⟨rfl, r3⟩ ?_
    rintro x96 v97 _ y121 ⟨rfl, r98⟩ q122 q123
    unfold integer_trim_L1 at q122
    apply go
    obtain ⟨y131, q132, q122⟩ := bind_some q122
    refine W.cut (γ := Bool) (fun g => [(0, v97), (14, (.bool (g)))]) (fun g w' => y131 = (g) ∧ w0 = w') ?_ ?_
    ·
      apply go
      refine ev0 (rn_len rfl rfl Tryz.underlying22 r98) ?_
      refine sel_of (fun hc => ?_) (fun hc => ?_)
      ·
        have q132 := cond_t q132 hc
        refine ev0 (rn_len rfl rfl Tryz.underlying22 r98) ?_
        obtain ⟨x133, q134, q132⟩ := bind_some q132
        refine ev_index rfl rfl rfl Tryz.underlying22 T45 r98 q134 ?_
        intro p135 c136 d137 a138
        obtain rfl : c136 = [(.int .u32 x133)] := d137
        refine ev (rn_load rfl rfl (run_loadVar1 T45 (a138.2 0 _ rfl))) ?_
        obtain rfl := Option.some.inj q132
        exact ⟨(x133 == 0), (.c rfl (.c rfl .n)), rfl, rfl⟩
      ·
        have q132 := cond_f q132 hc
        obtain rfl := Option.some.inj q132
        exact ⟨false, (.c rfl (.c rfl .n)), rfl, rfl⟩
    ·
      rintro x130 _ ⟨hy, rfl⟩
      replace hy := hy.symm
      subst hy
      apply go
      refine sel_of (fun hc => ?_) (fun hc => ?_)
      ·
        have q122 := cond_t q122 hc
        apply go
        apply go
        apply go
        refine ev0 (rn_len rfl rfl Tryz.underlying22 r98) ?_
        obtain ⟨x139, q140, q122⟩ := bind_some q122
        refine ev_slice (kl := .i64) (kh := .i64) rfl rfl rfl rfl Tryz.underlying22 T45 r98 q140 ?_
        intro v141 r142
        exact ⟨_, (Option.some.inj q122).symm, v141, (.c rfl .n), ⟨rfl, r142⟩⟩
      ·
        have q122 := cond_f q122 hc
        apply go
        have q143 := congrArg some (q123 _ (Option.some.inj q122).symm)
        obtain rfl := Option.some.inj q143
        exact ⟨(x96, v97), (.c rfl .n), rfl, rfl, r98⟩
  ·
    rintro ⟨x72, v73⟩ _ ⟨hy, rfl, r74⟩
    replace hy := hy.symm
    subst hy
    apply go
    apply go
    apply go
    obtain rfl := Option.some.inj h
    exact ⟨I0, v73, rfl, hp, r74⟩

end Go.Proofs.YthhghkcopfnbiaaGreatDoor

namespace Go.Proofs.YthhghkcopfnbiaaGreatDoor
open Go Go.Proofs.YthhghkcopfnbiaaGreatDoor.Gw Go.RowKit
set_option linter.unusedVariables false
attribute [local irreducible] Ev EvQ EvS EvH
def integer_Small_S (f : Int_2 → Option (Int × Bool)) : Prop := ∀ (w0 : World) (I0 : Nat → Prop) (x16023 : Int_2) (v16024 : Value) (r16025 : RepS (dI .u32) w0 I0 v16024 x16023.Mag) (hI : ∀ g, I0 g → g < w0.heap.size) (r : (Int × Bool)), f x16023 = some r →
    Ret Tryz.prog 15 #[(.agg #[(.bool x16023.Neg), v16024])] w0 fun v w1 => v = (.tuple #[(.int .i64 r.1), (.bool r.2)]) ∧ Ch [] w0 w1
theorem integer_Small_ok (n : Nat) : integer_Small_S (integer_Small n) := by
  intro w0 I0 x16023 v16024 r16025 hI r h
  unfold integer_Small at h
  refine enter Tryz.func15 rfl (Nat.le_of_ble_eq_true rfl) ?_
  have hp : Hp ⟨w0, I0, []⟩ I0 [] w0 := Hp.start hI
  apply go
  apply go
  refine ev_boxI hp rfl rfl ?_
  intro p16028 I16029 w16027 hp hs a16030
  replace r16025 := r16025.step hs
  apply go
  apply go
  refine ev0 (rn_field rfl rfl FO24_1) ?_
  refine ev (rn_load rfl rfl (run_loadVar1 T22 (a16030.2 1 _ rfl))) ?_
  obtain ⟨x16031, q16032, h⟩ := bind_some h
  refine ev_call rfl rfl C46 (((integer_trim_ok n) _ _  x16023.Mag v16024 r16025 hp.imm _ q16032).mono ?_)
  rintro _ w16033 ⟨I16034, v16035, hv, hq, r16036⟩
  replace hv := hv.symm
  subst hv
  have hs := hq.st
  have hp := hp.join0 hq
  replace a16030 := a16030.step hs
  replace r16025 := r16025.step hs
  apply go
  apply go
  apply go
  refine ev0 (rn_len rfl rfl Tryz.underlying22 r16036) ?_
  apply go
  refine sel_of (fun hc => ?_) (fun hc => ?_)
  ·
    have h := cond_t h hc
    apply go
    apply go
    apply go
    obtain rfl := Option.some.inj h
    exact ⟨rfl, hp.ch⟩
  ·
    have h := cond_f h hc
    apply go
    apply go
    apply go
    obtain ⟨y16067, q16068, h⟩ := bind_some h
    refine W.cut (γ := Int) (fun g => [(1, (.pointer (some (p16028)))), (5, (.int .u64 (g)))]) (fun g w' => y16067 = (g) ∧ w16033 = w') ?_ ?_
    ·
      apply go
      apply go
      refine ev0 (rn_len rfl rfl Tryz.underlying22 r16036) ?_
      apply go
      refine W.loop q16068 (γ := Unit) (fun s _ => [(1, (.pointer (some (p16028)))), (5, (.int .u64 (s.1))), (14, v16035), (15, (.int .i64 (x16031.length : Int))), (16, (.int .i64 (s.2)))]) (fun s _ w' => w16033 = w') () (.c rfl (.c rfl (.c rfl (.c rfl (.c rfl .n))))) rfl ?_
      rintro ⟨x16076, x16077⟩ ⟨⟩ _ y16087 rfl q16088 q16089
      unfold integer_Small_L1 at q16088
      apply go
      apply go
      apply go
      apply go
      refine sel_of (fun hc => ?_) (fun hc => ?_)
      ·
        have q16088 := cond_t q16088 hc
        apply go
        apply go
        apply go
        apply go
        apply go
        obtain ⟨x16090, q16091, q16088⟩ := bind_some q16088
        refine ev_index rfl rfl rfl Tryz.underlying22 T45 r16036 q16091 ?_
        intro p16092 c16093 d16094 a16095
        obtain rfl : c16093 = [(.int .u32 x16090)] := d16094
        refine ev (rn_load rfl rfl (run_loadVar1 T45 (a16095.2 0 _ rfl))) ?_
        apply go
        refine ev0 (rn_conv rfl rfl U45 Tryz.underlying49) ?_
        obtain ⟨q16096, _, q16088⟩ := need_some q16088
        refine ⟨q16096, ?_⟩
        apply go
        exact ⟨_, (Option.some.inj q16088).symm, (), (.c rfl (.c rfl (.c rfl (.c rfl (.c rfl .n))))), rfl⟩
      ·
        have q16088 := cond_f q16088 hc
        apply go
        have q16097 := congrArg some (q16089 _ (Option.some.inj q16088).symm)
        obtain rfl := Option.some.inj q16097
        exact ⟨x16076, (.c rfl (.c rfl .n)), rfl, rfl⟩
    ·
      rintro x16066 _ ⟨hy, rfl⟩
      replace hy := hy.symm
      subst hy
      apply go
      apply go
      obtain ⟨y16099, q16100, h⟩ := bind_some h
      refine W.cut (γ := Bool) (fun g => [(1, (.pointer (some (p16028)))), (5, (.int .u64 x16066)), (29, (.bool (g)))]) (fun g w' => y16099 = (g) ∧ w16033 = w') ?_ ?_
      ·
        apply go
        refine ev0 (rn_field rfl rfl FO24_0) ?_
        refine ev (rn_load rfl rfl (run_loadVar1 T4 (a16030.2 0 _ rfl))) ?_
        refine sel_of (fun hc => ?_) (fun hc => ?_)
        ·
          have q16100 := cond_t q16100 hc
          obtain rfl := Option.some.inj q16100
          exact ⟨(decide (x16066 ≤ 9223372036854775808)), (.c rfl (.c rfl (.c rfl .n))), rfl, rfl⟩
        ·
          have q16100 := cond_f q16100 hc
          obtain rfl := Option.some.inj q16100
          exact ⟨false, (.c rfl (.c rfl (.c rfl .n))), rfl, rfl⟩
      ·
        rintro x16098 _ ⟨hy, rfl⟩
        replace hy := hy.symm
        subst hy
        apply go
        refine sel_of (fun hc => ?_) (fun hc => ?_)
        ·
          have h := cond_t h hc
          apply go
          apply go
          refine ev0 (rn_conv rfl rfl U49 Tryz.underlying3) ?_
          apply go
          obtain rfl := Option.some.inj h
          exact ⟨rfl, hp.ch⟩
        ·
          have h := cond_f h hc
          obtain ⟨y16102, q16103, h⟩ := bind_some h
          refine W.cut (γ := Bool) (fun g => [(5, (.int .u64 x16066)), (39, (.bool (g)))]) (fun g w' => y16102 = (g) ∧ w16033 = w') ?_ ?_
          ·
            apply go
            refine ev0 (rn_field rfl rfl FO24_0) ?_
            refine ev (rn_load rfl rfl (run_loadVar1 T4 (a16030.2 0 _ rfl))) ?_
            refine sel_of (fun hc => ?_) (fun hc => ?_)
            ·
              have q16103 := cond_t q16103 hc
              obtain rfl := Option.some.inj q16103
              exact ⟨(decide (x16066 < 9223372036854775808)), (.c rfl (.c rfl .n)), rfl, rfl⟩
            ·
              have q16103 := cond_f q16103 hc
              obtain rfl := Option.some.inj q16103
              exact ⟨false, (.c rfl (.c rfl .n)), rfl, rfl⟩
          ·
            rintro x16101 _ ⟨hy, rfl⟩
            replace hy := hy.symm
            subst hy
            apply go
            refine sel_of (fun hc => ?_) (fun hc => ?_)
            ·
              have h := cond_t h hc
              apply go
              apply go
              refine ev0 (rn_conv rfl rfl U49 Tryz.underlying3) ?_
              apply go
              obtain rfl := Option.some.inj h
              exact ⟨rfl, hp.ch⟩
            ·
              have h := cond_f h hc
              apply go
              apply go
              apply go
              apply go
              obtain rfl := Option.some.inj h
              exact ⟨rfl, hp.ch⟩

end Go.Proofs.YthhghkcopfnbiaaGreatDoor

namespace Go.Proofs.YthhghkcopfnbiaaGreatDoor
open Go Go.Proofs.YthhghkcopfnbiaaGreatDoor.Gw Go.RowKit
set_option linter.unusedVariables false
attribute [local irreducible] Ev EvQ EvS EvH
def integer_made_S (f : Bool → (List Int) → Option Int_2) : Prop := ∀ (w0 : World) (I0 : Nat → Prop) (x144 : Bool) (x145 : (List Int)) (v146 : Value) (r147 : RepS (dI .u32) w0 I0 v146 x145) (hI : ∀ g, I0 g → g < w0.heap.size) (r : Int_2), f x144 x145 = some r →
    Ret Tryz.prog 49 #[(.bool x144), v146] w0 fun v w1 => ∃ (I1 : Nat → Prop) (u148 : Value), v = (.agg #[(.bool r.Neg), u148]) ∧ Hp ⟨w0, I0, []⟩ I1 [] w1 ∧ RepS (dI .u32) w1 I1 u148 r.Mag
theorem integer_made_ok (n : Nat) : integer_made_S (integer_made n) := by
  intro w0 I0 x144 x145 v146 r147 hI r h
  unfold integer_made at h
  refine enter Tryz.func49 rfl (Nat.le_of_ble_eq_true rfl) ?_
  have hp : Hp ⟨w0, I0, []⟩ I0 [] w0 := Hp.start hI
  apply go
  apply go
  refine ev_alloc hp rfl T24 ?_
  intro g149 w150 hp hs
  replace r147 := r147.step hs
  apply go
  apply go
  obtain ⟨x151, q152, h⟩ := bind_some h
  refine ev_call rfl rfl C46 (((integer_trim_ok n) _ _  x145 v146 r147 hp.imm _ q152).mono ?_)
  rintro _ w153 ⟨I154, v155, hv, hq, r156⟩
  replace hv := hv.symm
  subst hv
  have hs := hq.st
  have hp := hp.join0 hq
  apply go
  apply go
  apply go
  refine ev0 (rn_len rfl rfl Tryz.underlying22 r156) ?_
  apply go
  refine sel_of (fun hc => ?_) (fun hc => ?_)
  ·
    have h := cond_t h hc
    apply go
    apply go
    refine ev0 (fun w => rn_build (cs := [(.bool false), (.slice none 0 0)]) rfl rfl T24 PL24 rfl) ?_
    refine ev_storeA hp (i := 0) (off := 0) (vs := [(.bool false), (.slice none 0 0)]) rfl rfl rfl rfl T24 rfl (Nat.le_of_ble_eq_true rfl) (ones_of rfl) ?_
    intro w157 hp hs
    apply go
    obtain rfl := Option.some.inj h
    refine ⟨_, run_loadVarA T24 rfl (hp.at_ (i := 0) rfl), ?_⟩
    have hp := hp.sel [] (by decide)
    exact ⟨I154, .slice none 0 0, rfl, hp, RepS.nil _ _ _⟩
  ·
    have h := cond_f h hc
    apply go
    apply go
    apply go
    obtain ⟨A158, m159, m160, rfl⟩ := r156.isSl
    refine ev0 (fun w => rn_build (cs := [(.bool x144), (.slice A158 m159 m160)]) rfl rfl T24 PL24 rfl) ?_
    refine ev_storeA hp (i := 0) (off := 0) (vs := [(.bool x144), (.slice A158 m159 m160)]) rfl rfl rfl rfl T24 rfl (Nat.le_of_ble_eq_true rfl) (ones_cons rfl (ones_cons r156.one ones_nil)) ?_
    intro w162 hp hs
    replace r156 := r156.step hs
    apply go
    obtain rfl := Option.some.inj h
    refine ⟨_, run_loadVarA T24 rfl (hp.at_ (i := 0) rfl), ?_⟩
    have hp := hp.sel [] (by decide)
    exact ⟨I154, (.slice A158 m159 m160), rfl, hp, r156⟩

end Go.Proofs.YthhghkcopfnbiaaGreatDoor

namespace Go.Proofs.YthhghkcopfnbiaaGreatDoor
open Go Go.Proofs.YthhghkcopfnbiaaGreatDoor.Gw Go.RowKit
set_option linter.unusedVariables false
attribute [local irreducible] Ev EvQ EvS EvH
def integer_Of_S (f : Int → Option Int_2) : Prop := ∀ (w0 : World) (I0 : Nat → Prop) (x163 : Int) (hI : ∀ g, I0 g → g < w0.heap.size) (r : Int_2), f x163 = some r →
    Ret Tryz.prog 18 #[(.int .i64 x163)] w0 fun v w1 => ∃ (I1 : Nat → Prop) (u164 : Value), v = (.agg #[(.bool r.Neg), u164]) ∧ Hp ⟨w0, I0, []⟩ I1 [] w1 ∧ RepS (dI .u32) w1 I1 u164 r.Mag
theorem integer_Of_ok (n : Nat) : integer_Of_S (integer_Of n) := by
  intro w0 I0 x163 hI r h
  unfold integer_Of at h
  refine enter Tryz.func18 rfl (Nat.le_of_ble_eq_true rfl) ?_
  have hp : Hp ⟨w0, I0, []⟩ I0 [] w0 := Hp.start hI
  apply go
  apply go
  refine ev_alloc hp rfl T24 ?_
  intro g165 w166 hp hs
  apply go
  apply go
  refine ev0 (rn_conv rfl rfl U3 Tryz.underlying49) ?_
  obtain ⟨y168, q169, h⟩ := bind_some h
  refine W.cut (γ := Int) (fun g => [(0, (.int .i64 x163)), (2, (.pointer (some ⟨g165, 0, none⟩))), (3, (.int .u64 (g)))]) (fun g w' => y168 = (g) ∧ w166 = w') ?_ ?_
  ·
    apply go
    apply go
    apply go
    refine sel_of (fun hc => ?_) (fun hc => ?_)
    ·
      have q169 := cond_t q169 hc
      apply go
      obtain rfl := Option.some.inj q169
      exact ⟨(IntKind.u64.wrap (0 - (IntKind.u64.wrap x163))), (.c rfl (.c rfl (.c rfl .n))), rfl, rfl⟩
    ·
      have q169 := cond_f q169 hc
      apply go
      obtain rfl := Option.some.inj q169
      exact ⟨(IntKind.u64.wrap x163), (.c rfl (.c rfl (.c rfl .n))), rfl, rfl⟩
  ·
    rintro x167 _ ⟨hy, rfl⟩
    replace hy := hy.symm
    subst hy
    apply go
    apply go
    refine ev0 (rn_conv rfl rfl U49 Tryz.underlying45) ?_
    refine ⟨by decide, ?_⟩
    refine ev0 (rn_conv rfl rfl U49 Tryz.underlying45) ?_
    refine ev_litN (d := (dI .u32)) (xs := [(IntKind.u32.wrap x167), (IntKind.u32.wrap (x167.fdiv (2 ^ min (32 : Int).toNat (IntKind.u64).bits)))]) (cs := [(.int .u32 (IntKind.u32.wrap x167)), (.int .u32 (IntKind.u32.wrap (x167.fdiv (2 ^ min (32 : Int).toNat (IntKind.u64).bits))))]) hp rfl rfl Tryz.underlying22 T45 (by decide) rfl rfl (Elems.cons (d := (dI .u32)) (xs := _) rfl (Elems.cons (d := (dI .u32)) (xs := _) rfl (Elems.nil _ _ _ _))) ?_
    intro v170 I172 w171 hp hs r173
    obtain ⟨x174, q175, h⟩ := bind_some h
    refine ev_call rfl rfl C49 (((integer_made_ok n) _ _  (decide (x163 < 0)) [(IntKind.u32.wrap x167), (IntKind.u32.wrap (x167.fdiv (2 ^ min (32 : Int).toNat (IntKind.u64).bits)))] v170 r173 hp.imm _ q175).mono ?_)
    rintro _ w176 ⟨I177, v178, hv, hq, r179⟩
    replace hv := hv.symm
    subst hv
    have hs := hq.st
    have hp := hp.join0 hq
    refine ev_storeA hp (i := 0) (off := 0) (vs := [(.bool x174.Neg), v178]) rfl rfl rfl rfl T24 rfl (Nat.le_of_ble_eq_true rfl) (ones_cons rfl (ones_cons r179.one ones_nil)) ?_
    intro w180 hp hs
    replace r179 := r179.step hs
    apply go
    obtain rfl := Option.some.inj h
    refine ⟨_, run_loadVarA T24 rfl (hp.at_ (i := 0) rfl), ?_⟩
    have hp := hp.sel [] (by decide)
    exact ⟨I177, v178, rfl, hp, r179⟩

end Go.Proofs.YthhghkcopfnbiaaGreatDoor

namespace Go.Proofs.YthhghkcopfnbiaaGreatDoor
open Go Go.Proofs.YthhghkcopfnbiaaGreatDoor.Gw Go.RowKit
set_option linter.unusedVariables false
attribute [local irreducible] Ev EvQ EvS EvH
def bits_Len32_S (f : Int → Option Int) : Prop := ∀ (w0 : World) (I0 : Nat → Prop) (x587 : Int) (hI : ∀ g, I0 g → g < w0.heap.size) (r : Int), f x587 = some r →
    Ret Tryz.prog 50 #[(.int .u32 x587)] w0 fun v w1 => v = (.int .i64 r) ∧ Ch [] w0 w1
theorem bits_Len32_ok (n : Nat) : bits_Len32_S (bits_Len32 n) := by
  intro w0 I0 x587 hI r h
  unfold bits_Len32 at h
  refine enter Tryz.func50 rfl (Nat.le_of_ble_eq_true rfl) ?_
  have hp : Hp ⟨w0, I0, []⟩ I0 [] w0 := Hp.start hI
  apply go
  apply go
  obtain ⟨y590, q591, h⟩ := bind_some h
  refine W.cut (γ := (Int × Int)) (fun g => [(0, (.int .u32 (g.1))), (2, (.int .i64 (g.2)))]) (fun g w' => y590 = ((g.1), (g.2)) ∧ w0 = w') ?_ ?_
  ·
    apply go
    apply go
    apply go
    refine sel_of (fun hc => ?_) (fun hc => ?_)
    ·
      have q591 := cond_t q591 hc
      apply go
      apply go
      refine ⟨by decide, ?_⟩
      apply go
      obtain rfl := Option.some.inj q591
      exact ⟨((x587.fdiv (2 ^ min (16 : Int).toNat (IntKind.u32).bits)), 16), (.c rfl (.c rfl .n)), rfl, rfl⟩
    ·
      have q591 := cond_f q591 hc
      apply go
      obtain rfl := Option.some.inj q591
      exact ⟨(x587, 0), (.c rfl (.c rfl .n)), rfl, rfl⟩
  ·
    rintro ⟨x588, x589⟩ _ ⟨hy, rfl⟩
    replace hy := hy.symm
    subst hy
    obtain ⟨y594, q595, h⟩ := bind_some h
    refine W.cut (γ := (Int × Int)) (fun g => [(0, (.int .u32 (g.1))), (2, (.int .i64 (g.2)))]) (fun g w' => y594 = ((g.1), (g.2)) ∧ w0 = w') ?_ ?_
    ·
      apply go
      apply go
      apply go
      refine sel_of (fun hc => ?_) (fun hc => ?_)
      ·
        have q595 := cond_t q595 hc
        apply go
        apply go
        refine ⟨by decide, ?_⟩
        apply go
        obtain rfl := Option.some.inj q595
        exact ⟨((x588.fdiv (2 ^ min (8 : Int).toNat (IntKind.u32).bits)), (IntKind.i64.wrap (x589 + 8))), (.c rfl (.c rfl .n)), rfl, rfl⟩
      ·
        have q595 := cond_f q595 hc
        apply go
        obtain rfl := Option.some.inj q595
        exact ⟨(x588, x589), (.c rfl (.c rfl .n)), rfl, rfl⟩
    ·
      rintro ⟨x592, x593⟩ _ ⟨hy, rfl⟩
      replace hy := hy.symm
      subst hy
      apply go
      apply go
      refine ev0 (rn_conv rfl rfl U45 Tryz.underlying5) ?_
      obtain ⟨x596, q597, h⟩ := bind_some h
      refine ev0 (rn_indexS rfl rfl rfl Tryz.underlying9 q597) ?_
      refine ev0 (rn_conv rfl rfl U5 Tryz.underlying3) ?_
      apply go
      obtain rfl := Option.some.inj h
      exact ⟨rfl, hp.ch⟩

end Go.Proofs.YthhghkcopfnbiaaGreatDoor

namespace Go.Proofs.YthhghkcopfnbiaaGreatDoor
open Go Go.Proofs.YthhghkcopfnbiaaGreatDoor.Gw Go.RowKit
set_option linter.unusedVariables false
attribute [local irreducible] Ev EvQ EvS EvH
def integer_Bits_S (f : Int_2 → Option Int) : Prop := ∀ (w0 : World) (I0 : Nat → Prop) (x16118 : Int_2) (v16119 : Value) (r16120 : RepS (dI .u32) w0 I0 v16119 x16118.Mag) (hI : ∀ g, I0 g → g < w0.heap.size) (r : Int), f x16118 = some r →
    Ret Tryz.prog 19 #[(.agg #[(.bool x16118.Neg), v16119])] w0 fun v w1 => v = (.int .i64 r) ∧ Ch [] w0 w1
theorem integer_Bits_ok (n : Nat) : integer_Bits_S (integer_Bits n) := by
  intro w0 I0 x16118 v16119 r16120 hI r h
  unfold integer_Bits at h
  refine enter Tryz.func19 rfl (Nat.le_of_ble_eq_true rfl) ?_
  have hp : Hp ⟨w0, I0, []⟩ I0 [] w0 := Hp.start hI
  apply go
  apply go
  refine ev_boxI hp rfl rfl ?_
  intro p16123 I16124 w16122 hp hs a16125
  replace r16120 := r16120.step hs
  apply go
  apply go
  refine ev0 (rn_field rfl rfl FO24_1) ?_
  refine ev (rn_load rfl rfl (run_loadVar1 T22 (a16125.2 1 _ rfl))) ?_
  obtain ⟨x16126, q16127, h⟩ := bind_some h
  refine ev_call rfl rfl C46 (((integer_trim_ok n) _ _  x16118.Mag v16119 r16120 hp.imm _ q16127).mono ?_)
  rintro _ w16128 ⟨I16129, v16130, hv, hq, r16131⟩
  replace hv := hv.symm
  subst hv
  have hs := hq.st
  have hp := hp.join0 hq
  apply go
  apply go
  apply go
  refine ev0 (rn_len rfl rfl Tryz.underlying22 r16131) ?_
  apply go
  refine sel_of (fun hc => ?_) (fun hc => ?_)
  ·
    have h := cond_t h hc
    apply go
    apply go
    apply go
    obtain rfl := Option.some.inj h
    exact ⟨rfl, hp.ch⟩
  ·
    have h := cond_f h hc
    apply go
    apply go
    apply go
    refine ev0 (rn_len rfl rfl Tryz.underlying22 r16131) ?_
    refine ev0 (rn_len rfl rfl Tryz.underlying22 r16131) ?_
    obtain ⟨x16132, q16133, h⟩ := bind_some h
    refine ev_index rfl rfl rfl Tryz.underlying22 T45 r16131 q16133 ?_
    intro p16134 c16135 d16136 a16137
    obtain rfl : c16135 = [(.int .u32 x16132)] := d16136
    refine ev (rn_load rfl rfl (run_loadVar1 T45 (a16137.2 0 _ rfl))) ?_
    obtain ⟨x16138, q16139, h⟩ := bind_some h
    refine ev_call rfl rfl C50 (((bits_Len32_ok n) _ _  x16132 hp.imm _ q16139).mono ?_)
    rintro _ w16140 ⟨rfl, hc⟩
    have hs := hp.stp hc
    replace hp := hp.ext hc
    apply go
    obtain rfl := Option.some.inj h
    exact ⟨rfl, hp.ch⟩

end Go.Proofs.YthhghkcopfnbiaaGreatDoor

namespace Go.Proofs.YthhghkcopfnbiaaGreatDoor
open Go Go.Proofs.YthhghkcopfnbiaaGreatDoor.Gw Go.RowKit
set_option linter.unusedVariables false
attribute [local irreducible] Ev EvQ EvS EvH
def integer_compare_S (f : (List Int) → (List Int) → Option Int) : Prop := ∀ (w0 : World) (I0 : Nat → Prop) (x181 : (List Int)) (v182 : Value) (r183 : RepS (dI .u32) w0 I0 v182 x181) (x184 : (List Int)) (v185 : Value) (r186 : RepS (dI .u32) w0 I0 v185 x184) (hI : ∀ g, I0 g → g < w0.heap.size) (r : Int), f x181 x184 = some r →
    Ret Tryz.prog 48 #[v182, v185] w0 fun v w1 => v = (.int .i64 r) ∧ Ch [] w0 w1
theorem integer_compare_ok (n : Nat) : integer_compare_S (integer_compare n) := by
  intro w0 I0 x181 v182 r183 x184 v185 r186 hI r h
  unfold integer_compare at h
  refine enter Tryz.func48 rfl (Nat.le_of_ble_eq_true rfl) ?_
  have hp : Hp ⟨w0, I0, []⟩ I0 [] w0 := Hp.start hI
  apply go
  apply go
  apply go
  apply go
  apply go
  refine ev0 (rn_len rfl rfl Tryz.underlying22 r183) ?_
  refine ev0 (rn_len rfl rfl Tryz.underlying22 r186) ?_
  apply go
  refine sel_of (fun hc => ?_) (fun hc => ?_)
  ·
    have h := cond_t h hc
    apply go
    apply go
    apply go
    refine ev0 (rn_len rfl rfl Tryz.underlying22 r183) ?_
    refine ev0 (rn_len rfl rfl Tryz.underlying22 r186) ?_
    apply go
    refine sel_of (fun hc => ?_) (fun hc => ?_)
    ·
      have h := cond_t h hc
      apply go
      apply go
      apply go
      obtain rfl := Option.some.inj h
      exact ⟨rfl, hp.ch⟩
    ·
      have h := cond_f h hc
      apply go
      apply go
      apply go
      apply go
      obtain rfl := Option.some.inj h
      exact ⟨rfl, hp.ch⟩
  ·
    have h := cond_f h hc
    apply go
    obtain ⟨y275, q276, h⟩ := bind_some h
    refine W.cut (γ := Unit) (fun _ => []) (fun _ w' => y275 = .go () ∧ Hp ⟨w0, I0, []⟩ I0 [] w') ?_ ?_
    ·
      apply go
      apply go
      refine ev0 (rn_len rfl rfl Tryz.underlying22 r183) ?_
      apply go
      refine W.loop q276 (γ := Unit) (fun s _ => [(0, v182), (1, v185), (5, (.int .i64 (s)))]) (fun s _ w' => Hp ⟨w0, I0, []⟩ I0 [] w' ∧ RepS (dI .u32) w' I0 v182 x181 ∧ RepS (dI .u32) w' I0 v185 x184) () (.c rfl (.c rfl (.c rfl .n))) ⟨hp, r183, r186⟩ ?_
      rintro x303 ⟨⟩ w331 y332 ⟨hp, r183, r186⟩ q333 q334
      unfold integer_compare_L1 at q333
      apply go
      apply go
      apply go
      apply go
      refine sel_of (fun hc => ?_) (fun hc => ?_)
      ·
        have q333 := cond_t q333 hc
        apply go
        apply go
        apply go
        apply go
        refine W.quiet (fun w' => Ch [] w331 w') MX (by kernel_rfl) (Ch.drew [] w331) ?_
        obtain ⟨x335, q336, q333⟩ := bind_some q333
        refine evq_index rfl rfl rfl Tryz.underlying22 T45 r183 q336 ?_
        intro p337 c338 d339 a340
        obtain rfl : c338 = [(.int .u32 x335)] := d339
        refine evq (fun w' hw => rn_load rfl rfl (run_loadVar1 T45 ((a340.step (hp.stp hw)).2 0 _ rfl))) ?_
        obtain ⟨x341, q342, q333⟩ := bind_some q333
        refine evq_index rfl rfl rfl Tryz.underlying22 T45 r186 q342 ?_
        intro p343 c344 d345 a346
        obtain rfl : c344 = [(.int .u32 x341)] := d345
        refine evq (fun w' hw => rn_load rfl rfl (run_loadVar1 T45 ((a346.step (hp.stp hw)).2 0 _ rfl))) ?_
        intro w347 hc
        have hs := hp.stp hc
        replace hp := hp.ext hc
        replace r183 := r183.step hs
        replace r186 := r186.step hs
        apply go
        refine sel_of (fun hc => ?_) (fun hc => ?_)
        ·
          have q333 := cond_t q333 hc
          apply go
          apply go
          refine W.quiet (fun w' => Ch [] w347 w') MX (by kernel_rfl) (Ch.drew [] w347) ?_
          obtain ⟨x348, q349, q333⟩ := bind_some q333
          refine evq_index rfl rfl rfl Tryz.underlying22 T45 r183 q349 ?_
          intro p350 c351 d352 a353
          obtain rfl : c351 = [(.int .u32 x348)] := d352
          refine evq (fun w' hw => rn_load rfl rfl (run_loadVar1 T45 ((a353.step (hp.stp hw)).2 0 _ rfl))) ?_
          obtain ⟨x354, q355, q333⟩ := bind_some q333
          refine evq_index rfl rfl rfl Tryz.underlying22 T45 r186 q355 ?_
          intro p356 c357 d358 a359
          obtain rfl : c357 = [(.int .u32 x354)] := d358
          refine evq (fun w' hw => rn_load rfl rfl (run_loadVar1 T45 ((a359.step (hp.stp hw)).2 0 _ rfl))) ?_
          intro w360 hc
          have hs := hp.stp hc
          replace hp := hp.ext hc
          apply go
          refine sel_of (fun hc => ?_) (fun hc => ?_)
          ·
            have q333 := cond_t q333 hc
            apply go
            apply go
            apply go
            have q361 := congrArg some (q334 _ (Option.some.inj q333).symm)
            obtain rfl := Option.some.inj q361
            obtain rfl := Option.some.inj h
            exact ⟨rfl, hp.ch⟩
          ·
            have q333 := cond_f q333 hc
            apply go
            apply go
            apply go
            apply go
            have q362 := congrArg some (q334 _ (Option.some.inj q333).symm)
            obtain rfl := Option.some.inj q362
            obtain rfl := Option.some.inj h
            exact ⟨rfl, hp.ch⟩
        ·
          have q333 := cond_f q333 hc
          apply go
          apply go
          exact ⟨_, (Option.some.inj q333).symm, (), (.c rfl (.c rfl (.c rfl .n))), ⟨hp, r183, r186⟩⟩
      ·
        have q333 := cond_f q333 hc
        apply go
        have q363 := congrArg some (q334 _ (Option.some.inj q333).symm)
        obtain rfl := Option.some.inj q363
        exact ⟨(), .n, rfl, hp⟩
    ·
      rintro ⟨⟩ w274 ⟨hy, hp⟩
      replace hy := hy.symm
      subst hy
      apply go
      apply go
      apply go
      obtain rfl := Option.some.inj h
      exact ⟨rfl, hp.ch⟩

end Go.Proofs.YthhghkcopfnbiaaGreatDoor

namespace Go.Proofs.YthhghkcopfnbiaaGreatDoor
open Go Go.Proofs.YthhghkcopfnbiaaGreatDoor.Gw Go.RowKit
set_option linter.unusedVariables false
attribute [local irreducible] Ev EvQ EvS EvH
def bits_Add32_S (f : Int → Int → Int → Option (Int × Int)) : Prop := ∀ (w0 : World) (I0 : Nat → Prop) (x900 : Int) (x901 : Int) (x902 : Int) (hI : ∀ g, I0 g → g < w0.heap.size) (r : (Int × Int)), f x900 x901 x902 = some r →
    Ret Tryz.prog 72 #[(.int .u32 x900), (.int .u32 x901), (.int .u32 x902)] w0 fun v w1 => v = (.tuple #[(.int .u32 r.1), (.int .u32 r.2)]) ∧ Ch [] w0 w1
theorem bits_Add32_ok (n : Nat) : bits_Add32_S (bits_Add32 n) := by
  intro w0 I0 x900 x901 x902 hI r h
  unfold bits_Add32 at h
  refine enter Tryz.func72 rfl (Nat.le_of_ble_eq_true rfl) ?_
  have hp : Hp ⟨w0, I0, []⟩ I0 [] w0 := Hp.start hI
  apply go
  apply go
  apply go
  apply go
  refine ev0 (rn_conv rfl rfl U45 Tryz.underlying49) ?_
  refine ev0 (rn_conv rfl rfl U45 Tryz.underlying49) ?_
  refine ev0 (rn_conv rfl rfl U45 Tryz.underlying49) ?_
  apply go
  apply go
  refine ev0 (rn_conv rfl rfl U49 Tryz.underlying45) ?_
  apply go
  apply go
  refine ⟨by decide, ?_⟩
  refine ev0 (rn_conv rfl rfl U49 Tryz.underlying45) ?_
  apply go
  obtain rfl := Option.some.inj h
  exact ⟨rfl, hp.ch⟩

end Go.Proofs.YthhghkcopfnbiaaGreatDoor

namespace Go.Proofs.YthhghkcopfnbiaaGreatDoor
open Go Go.Proofs.YthhghkcopfnbiaaGreatDoor.Gw Go.RowKit
set_option linter.unusedVariables false
attribute [local irreducible] Ev EvQ EvS EvH
def integer_plus_S (f : (List Int) → (List Int) → Option (List Int)) : Prop := ∀ (w0 : World) (I0 : Nat → Prop) (x14364 : (List Int)) (v14365 : Value) (r14366 : RepS (dI .u32) w0 I0 v14365 x14364) (x14367 : (List Int)) (v14368 : Value) (r14369 : RepS (dI .u32) w0 I0 v14368 x14367) (hI : ∀ g, I0 g → g < w0.heap.size) (r : (List Int)), f x14364 x14367 = some r →
    Ret Tryz.prog 65 #[v14365, v14368] w0 fun v w1 => ∃ (I1 : Nat → Prop) (u14370 : Value), v = u14370 ∧ Hp ⟨w0, I0, []⟩ I1 [] w1 ∧ RepS (dI .u32) w1 I1 u14370 r
theorem integer_plus_ok (n : Nat) : integer_plus_S (integer_plus n) := by
  intro w0 I0 x14364 v14365 r14366 x14367 v14368 r14369 hI r h
  unfold integer_plus at h
  refine enter Tryz.func65 rfl (Nat.le_of_ble_eq_true rfl) ?_
  have hp : Hp ⟨w0, I0, []⟩ I0 [] w0 := Hp.start hI
  apply go
  apply go
  obtain ⟨y14377, q14378, h⟩ := bind_some h
  refine W.cut (γ := ((List Int) × (List Int) × Value × Value)) (fun g => [(0, (g.2.2.1)), (1, (g.2.2.2))]) (fun g w' => y14377 = ((g.1), (g.2.1)) ∧ w0 = w' ∧ RepS (dI .u32) w' I0 (g.2.2.1) (g.1) ∧ RepS (dI .u32) w' I0 (g.2.2.2) (g.2.1)) ?_ ?_
  ·
    apply go
    apply go
    refine ev0 (rn_len rfl rfl Tryz.underlying22 r14366) ?_
    refine ev0 (rn_len rfl rfl Tryz.underlying22 r14369) ?_
    apply go
    refine sel_of (fun hc => ?_) (fun hc => ?_)
    ·
      have q14378 := cond_t q14378 hc
      apply go
      obtain rfl := Option.some.inj q14378
      exact ⟨(x14367, x14364, v14368, v14365), (.c rfl (.c rfl .n)), rfl, rfl, r14369, r14366⟩
    ·
      have q14378 := cond_f q14378 hc
      apply go
      obtain rfl := Option.some.inj q14378
      exact ⟨(x14364, x14367, v14365, v14368), (.c rfl (.c rfl .n)), rfl, rfl, r14366, r14369⟩
  ·
    rintro ⟨x14371, x14374, v14372, v14375⟩ _ ⟨hy, rfl, r14373, r14376⟩
    replace hy := hy.symm
    subst hy
    apply go
    apply go
    refine ev0 (rn_len rfl rfl Tryz.underlying22 r14373) ?_
    obtain ⟨x14379, q14380, h⟩ := bind_some h
    refine ev_makeC (d := (dI .u32)) (x0 := 0) hp rfl rfl rfl Tryz.underlying22 T45 (fun _ _ => rfl) (Nat.le_of_ble_eq_true rfl) q14380 ?_
    intro v14381 e14382 w14383 hp hs o14384
    replace r14373 := r14373.step hs
    replace r14376 := r14376.step hs
    apply go
    apply go
    obtain ⟨y14516, q14517, h⟩ := bind_some h
    refine W.cut (γ := ((List Int) × Int × Value × Ent × (Nat → Prop))) (fun g => [(5, (g.2.2.1)), (6, (.int .u32 (g.2.1)))]) (fun g w' => y14516 = ((g.1), (g.2.1)) ∧ Hp ⟨w0, I0, []⟩ (g.2.2.2.2) [(g.2.2.2.1)] w' ∧ OwnS (dI .u32) 45 w' (g.2.2.2.2) (g.2.2.1) (g.2.2.2.1) (g.1)) ?_ ?_
    ·
      apply go
      apply go
      refine ev0 (rn_len rfl rfl Tryz.underlying22 r14373) ?_
      apply go
      refine W.loop q14517 (γ := (Value × Ent × (Nat → Prop))) (fun s g => [(1, v14375), (5, (g.1)), (6, (.int .u32 (s.2.1))), (22, v14372), (23, (.int .i64 (x14371.length : Int))), (24, (.int .i64 (s.2.2)))]) (fun s g w' => Hp ⟨w0, I0, []⟩ (g.2.2) [(g.2.1)] w' ∧ RepS (dI .u32) w' (g.2.2) v14375 x14374 ∧ OwnS (dI .u32) 45 w' (g.2.2) (g.1) (g.2.1) (s.1) ∧ RepS (dI .u32) w' (g.2.2) v14372 x14371) (v14381, e14382, I0) (.c rfl (.c rfl (.c rfl (.c rfl (.c rfl (.c rfl .n)))))) ⟨hp, r14376, o14384, r14373⟩ ?_
      rintro ⟨x14553, x14557, x14558⟩ ⟨v14554, e14555, I14559⟩ w14602 y14603 ⟨hp, r14376, o14556, r14373⟩ q14604 q14605
      unfold integer_plus_L1 at q14604
      apply go
      apply go
      apply go
      apply go
      refine sel_of (fun hc => ?_) (fun hc => ?_)
      ·
        have q14604 := cond_t q14604 hc
        apply go
        apply go
        apply go
        apply go
        apply go
        obtain ⟨x14606, q14607, q14604⟩ := bind_some q14604
        refine ev_index rfl rfl rfl Tryz.underlying22 T45 r14373 q14607 ?_
        intro p14608 c14609 d14610 a14611
        obtain rfl : c14609 = [(.int .u32 x14606)] := d14610
        refine ev (rn_load rfl rfl (run_loadVar1 T45 (a14611.2 0 _ rfl))) ?_
        apply go
        apply go
        obtain ⟨y14619, q14620, q14604⟩ := bind_some q14604
        refine W.cut (γ := Int) (fun g => [(1, v14375), (5, v14554), (6, (.int .u32 x14557)), (8, (.int .u32 x14606)), (9, (.int .u32 (g))), (22, v14372), (23, (.int .i64 (x14371.length : Int))), (24, (.int .i64 x14558))]) (fun g w' => y14619 = (g) ∧ w14602 = w') ?_ ?_
        ·
          apply go
          apply go
          refine ev0 (rn_len rfl rfl Tryz.underlying22 r14376) ?_
          apply go
          refine sel_of (fun hc => ?_) (fun hc => ?_)
          ·
            have q14620 := cond_t q14620 hc
            apply go
            obtain ⟨x14621, q14622, q14620⟩ := bind_some q14620
            refine ev_index rfl rfl rfl Tryz.underlying22 T45 r14376 q14622 ?_
            intro p14623 c14624 d14625 a14626
            obtain rfl : c14624 = [(.int .u32 x14621)] := d14625
            refine ev (rn_load rfl rfl (run_loadVar1 T45 (a14626.2 0 _ rfl))) ?_
            obtain rfl := Option.some.inj q14620
            exact ⟨x14621, (.c rfl (.c rfl (.c rfl (.c rfl (.c rfl (.c rfl (.c rfl (.c rfl .n)))))))), rfl, rfl⟩
          ·
            have q14620 := cond_f q14620 hc
            apply go
            obtain rfl := Option.some.inj q14620
            exact ⟨0, (.c rfl (.c rfl (.c rfl (.c rfl (.c rfl (.c rfl (.c rfl (.c rfl .n)))))))), rfl, rfl⟩
        ·
          rintro x14618 _ ⟨hy, rfl⟩
          replace hy := hy.symm
          subst hy
          apply go
          apply go
          apply go
          apply go
          obtain ⟨⟨x14627, x14628⟩, q14629, q14604⟩ := bind_some q14604
          refine ev_call rfl rfl C72 (((bits_Add32_ok n) _ _  x14606 x14618 x14557 hp.imm _ q14629).mono ?_)
          rintro _ w14630 ⟨rfl, hc⟩
          have hs := hp.stp hc
          replace hp := hp.ext hc
          replace r14376 := r14376.step hs
          replace o14556 := o14556.step hs
          replace r14373 := r14373.step hs
          apply go
          refine ev_litN (d := (dI .u32)) (xs := [x14627]) (cs := [(.int .u32 x14627)]) hp rfl rfl Tryz.underlying22 T45 (by decide) rfl rfl (Elems.cons (d := (dI .u32)) (xs := _) rfl (Elems.nil _ _ _ _)) ?_
          intro v14631 I14633 w14632 hp hs r14634
          replace r14376 := r14376.step hs
          replace r14373 := r14373.step hs
          replace o14556 := o14556.step hs
          obtain ⟨x14635, q14636, q14604⟩ := bind_some q14604
          refine ev_append hp (i := 0) rfl rfl rfl rfl Tryz.underlying22 T45 rfl rfl o14556 r14634 q14636 ?_
          rintro v14637 e14638 w14639 hp hs o14640
          replace r14376 := r14376.step hs
          replace r14373 := r14373.step hs
          apply go
          exact ⟨_, (Option.some.inj q14604).symm, (v14637, e14638, I14633), (.c rfl (.c rfl (.c rfl (.c rfl (.c rfl (.c rfl .n)))))), ⟨hp, r14376, o14640, r14373⟩⟩
      ·
        have q14604 := cond_f q14604 hc
        apply go
        have q14641 := congrArg some (q14605 _ (Option.some.inj q14604).symm)
        obtain rfl := Option.some.inj q14641
        exact ⟨(x14553, x14557, v14554, e14555, I14559), (.c rfl (.c rfl .n)), rfl, hp, o14556⟩
    ·
      rintro ⟨x14509, x14513, v14510, e14511, I14514⟩ w14515 ⟨hy, hp, o14512⟩
      replace hy := hy.symm
      subst hy
      apply go
      apply go
      refine ev_litN (d := (dI .u32)) (xs := [x14513]) (cs := [(.int .u32 x14513)]) hp rfl rfl Tryz.underlying22 T45 (by decide) rfl rfl (Elems.cons (d := (dI .u32)) (xs := _) rfl (Elems.nil _ _ _ _)) ?_
      intro v14642 I14644 w14643 hp hs r14645
      replace o14512 := o14512.step hs
      obtain ⟨x14646, q14647, h⟩ := bind_some h
      refine ev_append hp (i := 0) rfl rfl rfl rfl Tryz.underlying22 T45 rfl rfl o14512 r14645 q14647 ?_
      rintro v14648 e14649 w14650 hp hs o14651
      apply go
      obtain rfl := Option.some.inj h
      have r14652 := o14651.frz hp (i := 0) rfl
      obtain ⟨hp, hs⟩ := freeze_hp hp (i := 0) rfl
      have hp := hp.sel [] (by decide)
      exact ⟨(Ad I14644 e14649), v14648, rfl, hp, r14652⟩

end Go.Proofs.YthhghkcopfnbiaaGreatDoor

namespace Go.Proofs.YthhghkcopfnbiaaGreatDoor
open Go Go.Proofs.YthhghkcopfnbiaaGreatDoor.Gw Go.RowKit
set_option linter.unusedVariables false
attribute [local irreducible] Ev EvQ EvS EvH
def bits_Sub32_S (f : Int → Int → Int → Option (Int × Int)) : Prop := ∀ (w0 : World) (I0 : Nat → Prop) (x897 : Int) (x898 : Int) (x899 : Int) (hI : ∀ g, I0 g → g < w0.heap.size) (r : (Int × Int)), f x897 x898 x899 = some r →
    Ret Tryz.prog 71 #[(.int .u32 x897), (.int .u32 x898), (.int .u32 x899)] w0 fun v w1 => v = (.tuple #[(.int .u32 r.1), (.int .u32 r.2)]) ∧ Ch [] w0 w1
theorem bits_Sub32_ok (n : Nat) : bits_Sub32_S (bits_Sub32 n) := by
  intro w0 I0 x897 x898 x899 hI r h
  unfold bits_Sub32 at h
  refine enter Tryz.func71 rfl (Nat.le_of_ble_eq_true rfl) ?_
  have hp : Hp ⟨w0, I0, []⟩ I0 [] w0 := Hp.start hI
  apply go
  apply go
  apply go
  apply go
  apply go
  apply go
  refine ⟨by decide, ?_⟩
  apply go
  obtain rfl := Option.some.inj h
  exact ⟨rfl, hp.ch⟩

end Go.Proofs.YthhghkcopfnbiaaGreatDoor

namespace Go.Proofs.YthhghkcopfnbiaaGreatDoor
open Go Go.Proofs.YthhghkcopfnbiaaGreatDoor.Gw Go.RowKit
set_option linter.unusedVariables false
attribute [local irreducible] Ev EvQ EvS EvH
def integer_minus_S (f : (List Int) → (List Int) → Option (List Int)) : Prop := ∀ (w0 : World) (I0 : Nat → Prop) (x14653 : (List Int)) (v14654 : Value) (r14655 : RepS (dI .u32) w0 I0 v14654 x14653) (x14656 : (List Int)) (v14657 : Value) (r14658 : RepS (dI .u32) w0 I0 v14657 x14656) (hI : ∀ g, I0 g → g < w0.heap.size) (r : (List Int)), f x14653 x14656 = some r →
    Ret Tryz.prog 67 #[v14654, v14657] w0 fun v w1 => ∃ (I1 : Nat → Prop) (u14659 : Value), v = u14659 ∧ Hp ⟨w0, I0, []⟩ I1 [] w1 ∧ RepS (dI .u32) w1 I1 u14659 r
theorem integer_minus_ok (n : Nat) : integer_minus_S (integer_minus n) := by
  intro w0 I0 x14653 v14654 r14655 x14656 v14657 r14658 hI r h
  unfold integer_minus at h
  refine enter Tryz.func67 rfl (Nat.le_of_ble_eq_true rfl) ?_
  have hp : Hp ⟨w0, I0, []⟩ I0 [] w0 := Hp.start hI
  apply go
  apply go
  apply go
  apply go
  refine ev0 (rn_len rfl rfl Tryz.underlying22 r14655) ?_
  obtain ⟨x14660, q14661, h⟩ := bind_some h
  refine ev_makeC (d := (dI .u32)) (x0 := 0) hp rfl rfl rfl Tryz.underlying22 T45 (fun _ _ => rfl) (Nat.le_of_ble_eq_true rfl) q14661 ?_
  intro v14662 e14663 w14664 hp hs o14665
  replace r14655 := r14655.step hs
  replace r14658 := r14658.step hs
  apply go
  apply go
  obtain ⟨y14796, q14797, h⟩ := bind_some h
  refine W.cut (γ := ((List Int) × Value × Ent × (Nat → Prop))) (fun g => [(5, (g.2.1))]) (fun g w' => y14796 = (g.1) ∧ Hp ⟨w0, I0, []⟩ (g.2.2.2) [(g.2.2.1)] w' ∧ OwnS (dI .u32) 45 w' (g.2.2.2) (g.2.1) (g.2.2.1) (g.1)) ?_ ?_
  ·
    apply go
    apply go
    refine ev0 (rn_len rfl rfl Tryz.underlying22 r14655) ?_
    apply go
    refine W.loop q14797 (γ := (Value × Ent × (Nat → Prop))) (fun s g => [(1, v14657), (5, (g.1)), (6, (.int .u32 (s.2.1))), (14, v14654), (15, (.int .i64 (x14653.length : Int))), (16, (.int .i64 (s.2.2)))]) (fun s g w' => Hp ⟨w0, I0, []⟩ (g.2.2) [(g.2.1)] w' ∧ RepS (dI .u32) w' (g.2.2) v14657 x14656 ∧ OwnS (dI .u32) 45 w' (g.2.2) (g.1) (g.2.1) (s.1) ∧ RepS (dI .u32) w' (g.2.2) v14654 x14653) (v14662, e14663, I0) (.c rfl (.c rfl (.c rfl (.c rfl (.c rfl (.c rfl .n)))))) ⟨hp, r14658, o14665, r14655⟩ ?_
    rintro ⟨x14833, x14837, x14838⟩ ⟨v14834, e14835, I14839⟩ w14882 y14883 ⟨hp, r14658, o14836, r14655⟩ q14884 q14885
    unfold integer_minus_L1 at q14884
    apply go
    apply go
    apply go
    apply go
    refine sel_of (fun hc => ?_) (fun hc => ?_)
    ·
      have q14884 := cond_t q14884 hc
      apply go
      apply go
      apply go
      apply go
      apply go
      obtain ⟨x14886, q14887, q14884⟩ := bind_some q14884
      refine ev_index rfl rfl rfl Tryz.underlying22 T45 r14655 q14887 ?_
      intro p14888 c14889 d14890 a14891
      obtain rfl : c14889 = [(.int .u32 x14886)] := d14890
      refine ev (rn_load rfl rfl (run_loadVar1 T45 (a14891.2 0 _ rfl))) ?_
      apply go
      apply go
      obtain ⟨y14899, q14900, q14884⟩ := bind_some q14884
      refine W.cut (γ := Int) (fun g => [(1, v14657), (5, v14834), (6, (.int .u32 x14837)), (8, (.int .u32 x14886)), (9, (.int .u32 (g))), (14, v14654), (15, (.int .i64 (x14653.length : Int))), (16, (.int .i64 x14838))]) (fun g w' => y14899 = (g) ∧ w14882 = w') ?_ ?_
      ·
        apply go
        apply go
        refine ev0 (rn_len rfl rfl Tryz.underlying22 r14658) ?_
        apply go
        refine sel_of (fun hc => ?_) (fun hc => ?_)
        ·
          have q14900 := cond_t q14900 hc
          apply go
          obtain ⟨x14901, q14902, q14900⟩ := bind_some q14900
          refine ev_index rfl rfl rfl Tryz.underlying22 T45 r14658 q14902 ?_
          intro p14903 c14904 d14905 a14906
          obtain rfl : c14904 = [(.int .u32 x14901)] := d14905
          refine ev (rn_load rfl rfl (run_loadVar1 T45 (a14906.2 0 _ rfl))) ?_
          obtain rfl := Option.some.inj q14900
          exact ⟨x14901, (.c rfl (.c rfl (.c rfl (.c rfl (.c rfl (.c rfl (.c rfl (.c rfl .n)))))))), rfl, rfl⟩
        ·
          have q14900 := cond_f q14900 hc
          apply go
          obtain rfl := Option.some.inj q14900
          exact ⟨0, (.c rfl (.c rfl (.c rfl (.c rfl (.c rfl (.c rfl (.c rfl (.c rfl .n)))))))), rfl, rfl⟩
      ·
        rintro x14898 _ ⟨hy, rfl⟩
        replace hy := hy.symm
        subst hy
        apply go
        apply go
        apply go
        apply go
        obtain ⟨⟨x14907, x14908⟩, q14909, q14884⟩ := bind_some q14884
        refine ev_call rfl rfl C71 (((bits_Sub32_ok n) _ _  x14886 x14898 x14837 hp.imm _ q14909).mono ?_)
        rintro _ w14910 ⟨rfl, hc⟩
        have hs := hp.stp hc
        replace hp := hp.ext hc
        replace r14658 := r14658.step hs
        replace o14836 := o14836.step hs
        replace r14655 := r14655.step hs
        apply go
        refine ev_litN (d := (dI .u32)) (xs := [x14907]) (cs := [(.int .u32 x14907)]) hp rfl rfl Tryz.underlying22 T45 (by decide) rfl rfl (Elems.cons (d := (dI .u32)) (xs := _) rfl (Elems.nil _ _ _ _)) ?_
        intro v14911 I14913 w14912 hp hs r14914
        replace r14658 := r14658.step hs
        replace r14655 := r14655.step hs
        replace o14836 := o14836.step hs
        obtain ⟨x14915, q14916, q14884⟩ := bind_some q14884
        refine ev_append hp (i := 0) rfl rfl rfl rfl Tryz.underlying22 T45 rfl rfl o14836 r14914 q14916 ?_
        rintro v14917 e14918 w14919 hp hs o14920
        replace r14658 := r14658.step hs
        replace r14655 := r14655.step hs
        apply go
        exact ⟨_, (Option.some.inj q14884).symm, (v14917, e14918, I14913), (.c rfl (.c rfl (.c rfl (.c rfl (.c rfl (.c rfl .n)))))), ⟨hp, r14658, o14920, r14655⟩⟩
    ·
      have q14884 := cond_f q14884 hc
      apply go
      have q14921 := congrArg some (q14885 _ (Option.some.inj q14884).symm)
      obtain rfl := Option.some.inj q14921
      exact ⟨(x14833, v14834, e14835, I14839), (.c rfl .n), rfl, hp, o14836⟩
  ·
    rintro ⟨x14790, v14791, e14792, I14794⟩ w14795 ⟨hy, hp, o14793⟩
    replace hy := hy.symm
    subst hy
    apply go
    apply go
    apply go
    obtain rfl := Option.some.inj h
    have r14922 := o14793.frz hp (i := 0) rfl
    obtain ⟨hp, hs⟩ := freeze_hp hp (i := 0) rfl
    have hp := hp.sel [] (by decide)
    exact ⟨(Ad I14794 e14792), v14791, rfl, hp, r14922⟩

end Go.Proofs.YthhghkcopfnbiaaGreatDoor

namespace Go.Proofs.YthhghkcopfnbiaaGreatDoor
open Go Go.Proofs.YthhghkcopfnbiaaGreatDoor.Gw Go.RowKit
set_option linter.unusedVariables false
attribute [local irreducible] Ev EvQ EvS EvH
def integer_Add_S (f : Int_2 → Int_2 → Option Int_2) : Prop := ∀ (w0 : World) (I0 : Nat → Prop) (x14923 : Int_2) (v14924 : Value) (r14925 : RepS (dI .u32) w0 I0 v14924 x14923.Mag) (x14926 : Int_2) (v14927 : Value) (r14928 : RepS (dI .u32) w0 I0 v14927 x14926.Mag) (hI : ∀ g, I0 g → g < w0.heap.size) (r : Int_2), f x14923 x14926 = some r →
    Ret Tryz.prog 30 #[(.agg #[(.bool x14923.Neg), v14924]), (.agg #[(.bool x14926.Neg), v14927])] w0 fun v w1 => ∃ (I1 : Nat → Prop) (u14929 : Value), v = (.agg #[(.bool r.Neg), u14929]) ∧ Hp ⟨w0, I0, []⟩ I1 [] w1 ∧ RepS (dI .u32) w1 I1 u14929 r.Mag
theorem integer_Add_ok (n : Nat) : integer_Add_S (integer_Add n) := by
  intro w0 I0 x14923 v14924 r14925 x14926 v14927 r14928 hI r h
  unfold integer_Add at h
  refine enter Tryz.func30 rfl (Nat.le_of_ble_eq_true rfl) ?_
  have hp : Hp ⟨w0, I0, []⟩ I0 [] w0 := Hp.start hI
  apply go
  apply go
  refine ev_boxI hp rfl rfl ?_
  intro p14932 I14933 w14931 hp hs a14934
  replace r14928 := r14928.step hs
  replace r14925 := r14925.step hs
  refine ev_boxI hp rfl rfl ?_
  intro p14937 I14938 w14936 hp hs a14939
  replace a14934 := a14934.step hs
  replace r14925 := r14925.step hs
  replace r14928 := r14928.step hs
  refine ev_alloc hp rfl T24 ?_
  intro g14940 w14941 hp hs
  replace a14934 := a14934.step hs
  replace r14925 := r14925.step hs
  replace a14939 := a14939.step hs
  replace r14928 := r14928.step hs
  apply go
  have hs := hp.stp (Ch.drew [] w14941)
  have hp := hp.drew
  replace a14934 := a14934.step hs
  replace r14925 := r14925.step hs
  replace a14939 := a14939.step hs
  replace r14928 := r14928.step hs
  refine W.held [(0, true), (1, true), (3, true), (4, true), (2, false), (5, false), (6, true), (7, true)] (Stp I14938 w14941.drew I14938) MX (by kernel_rfl) (Stp.refl _ _) ?_
  have hz := Stp.refl I14938 w14941.drew
  refine evh0 (rn_field rfl rfl FO24_1) ?_
  refine evh (fun w' hw => rn_load rfl rfl (run_loadVar1 T22 ((a14934.step hw).2 1 _ rfl))) ?_
  refine evh0 (rn_field rfl rfl FO24_1) ?_
  refine evh (fun w' hw => rn_load rfl rfl (run_loadVar1 T22 ((a14939.step hw).2 1 _ rfl))) ?_
  obtain ⟨x14954, q14955, h⟩ := bind_some h
  refine ev_call rfl rfl C46 (((integer_trim_ok n) _ _  x14923.Mag v14924 r14925 hp.imm _ q14955).mono ?_)
  rintro _ w14956 ⟨I14957, v14958, hv, hq, r14959⟩
  replace hv := hv.symm
  subst hv
  have hs := hq.st
  have hp := hp.join0 hq
  replace hz := hz.trans hs
  replace a14934 := a14934.step hs
  replace r14925 := r14925.step hs
  replace a14939 := a14939.step hs
  replace r14928 := r14928.step hs
  refine ⟨Stp I14957 w14956 I14957, Stp.refl _ _, fun x hx => hz.held hx, ?_⟩
  have hz := Stp.refl I14957 w14956
  obtain ⟨x14960, q14961, h⟩ := bind_some h
  refine ev_call rfl rfl C46 (((integer_trim_ok n) _ _  x14926.Mag v14927 r14928 hp.imm _ q14961).mono ?_)
  rintro _ w14962 ⟨I14963, v14964, hv, hq, r14965⟩
  replace hv := hv.symm
  subst hv
  have hs := hq.st
  have hp := hp.join0 hq
  replace hz := hz.trans hs
  replace a14934 := a14934.step hs
  replace r14925 := r14925.step hs
  replace a14939 := a14939.step hs
  replace r14928 := r14928.step hs
  replace r14959 := r14959.step hs
  refine ⟨Stp I14963 w14962 I14963, Stp.refl _ _, fun x hx => hz.held hx, ?_⟩
  have hz := Stp.refl I14963 w14962
  apply go
  apply go
  apply go
  apply go
  refine ev0 (rn_field rfl rfl FO24_0) ?_
  refine ev (rn_load rfl rfl (run_loadVar1 T4 (a14934.2 0 _ rfl))) ?_
  refine ev0 (rn_field rfl rfl FO24_0) ?_
  refine ev (rn_load rfl rfl (run_loadVar1 T4 (a14939.2 0 _ rfl))) ?_
  refine ev0 (rn_eqB rfl rfl rfl Tryz.underlying4) ?_
  apply go
  refine sel_of (fun hc => ?_) (fun hc => ?_)
  ·
    have h := cond_t h hc
    apply go
    have hs := hp.stp (Ch.drew [] w14962)
    have hp := hp.drew
    replace a14934 := a14934.step hs
    replace r14925 := r14925.step hs
    replace r14959 := r14959.step hs
    replace r14965 := r14965.step hs
    refine W.held [(0, true), (1, true), (2, true), (3, true), (4, false), (5, false), (6, false)] (Stp I14963 w14962.drew I14963) MX (by kernel_rfl) (Stp.refl _ _) ?_
    have hz := Stp.refl I14963 w14962.drew
    refine evh0 (rn_field rfl rfl FO24_0) ?_
    refine evh (fun w' hw => rn_load rfl rfl (run_loadVar1 T4 ((a14934.step hw).2 0 _ rfl))) ?_
    obtain ⟨x14979, q14980, h⟩ := bind_some h
    refine ev_call rfl rfl C65 (((integer_plus_ok n) _ _  x14954 v14958 r14959 x14960 v14964 r14965 hp.imm _ q14980).mono ?_)
    rintro _ w14981 ⟨I14982, v14983, hv, hq, r14984⟩
    replace hv := hv.symm
    subst hv
    have hs := hq.st
    have hp := hp.join0 hq
    replace hz := hz.trans hs
    refine ⟨Stp I14982 w14981 I14982, Stp.refl _ _, fun x hx => hz.held hx, ?_⟩
    have hz := Stp.refl I14982 w14981
    obtain ⟨x14985, q14986, h⟩ := bind_some h
    refine ev_call rfl rfl C49 (((integer_made_ok n) _ _  x14923.Neg x14979 v14983 r14984 hp.imm _ q14986).mono ?_)
    rintro _ w14987 ⟨I14988, v14989, hv, hq, r14990⟩
    replace hv := hv.symm
    subst hv
    have hs := hq.st
    have hp := hp.join0 hq
    replace hz := hz.trans hs
    refine ⟨Stp I14988 w14987 I14988, Stp.refl _ _, fun x hx => hz.held hx, ?_⟩
    have hz := Stp.refl I14988 w14987
    refine ev_storeA hp (i := 0) (off := 0) (vs := [(.bool x14985.Neg), v14989]) rfl rfl rfl rfl T24 rfl (Nat.le_of_ble_eq_true rfl) (ones_cons rfl (ones_cons r14990.one ones_nil)) ?_
    intro w14991 hp hs
    replace hz := hz.trans hs
    replace r14990 := r14990.step hs
    refine ⟨Stp I14988 w14991 I14988, Stp.refl _ _, fun x hx => hz.held hx, ?_⟩
    have hz := Stp.refl I14988 w14991
    apply go
    obtain rfl := Option.some.inj h
    refine ⟨_, run_loadVarA T24 rfl (hp.at_ (i := 0) rfl), ?_⟩
    have hp := hp.sel [] (by decide)
    exact ⟨I14988, v14989, rfl, hp, r14990⟩
  ·
    have h := cond_f h hc
    apply go
    apply go
    obtain ⟨x14992, q14993, h⟩ := bind_some h
    refine ev_call rfl rfl C48 (((integer_compare_ok n) _ _  x14954 v14958 r14959 x14960 v14964 r14965 hp.imm _ q14993).mono ?_)
    rintro _ w14994 ⟨rfl, hc⟩
    have hs := hp.stp hc
    replace hp := hp.ext hc
    replace a14934 := a14934.step hs
    replace r14925 := r14925.step hs
    replace a14939 := a14939.step hs
    replace r14928 := r14928.step hs
    replace r14959 := r14959.step hs
    replace r14965 := r14965.step hs
    apply go
    refine sel_of (fun hc => ?_) (fun hc => ?_)
    ·
      have h := cond_t h hc
      apply go
      have hs := hp.stp (Ch.drew [] w14994)
      have hp := hp.drew
      replace a14934 := a14934.step hs
      replace r14925 := r14925.step hs
      replace r14959 := r14959.step hs
      replace r14965 := r14965.step hs
      refine W.held [(0, true), (1, true), (2, true), (3, true), (4, false), (5, false), (6, false)] (Stp I14963 w14994.drew I14963) MX (by kernel_rfl) (Stp.refl _ _) ?_
      have hz := Stp.refl I14963 w14994.drew
      refine evh0 (rn_field rfl rfl FO24_0) ?_
      refine evh (fun w' hw => rn_load rfl rfl (run_loadVar1 T4 ((a14934.step hw).2 0 _ rfl))) ?_
      obtain ⟨x15008, q15009, h⟩ := bind_some h
      refine ev_call rfl rfl C67 (((integer_minus_ok n) _ _  x14954 v14958 r14959 x14960 v14964 r14965 hp.imm _ q15009).mono ?_)
      rintro _ w15010 ⟨I15011, v15012, hv, hq, r15013⟩
      replace hv := hv.symm
      subst hv
      have hs := hq.st
      have hp := hp.join0 hq
      replace hz := hz.trans hs
      refine ⟨Stp I15011 w15010 I15011, Stp.refl _ _, fun x hx => hz.held hx, ?_⟩
      have hz := Stp.refl I15011 w15010
      obtain ⟨x15014, q15015, h⟩ := bind_some h
      refine ev_call rfl rfl C49 (((integer_made_ok n) _ _  x14923.Neg x15008 v15012 r15013 hp.imm _ q15015).mono ?_)
      rintro _ w15016 ⟨I15017, v15018, hv, hq, r15019⟩
      replace hv := hv.symm
      subst hv
      have hs := hq.st
      have hp := hp.join0 hq
      replace hz := hz.trans hs
      refine ⟨Stp I15017 w15016 I15017, Stp.refl _ _, fun x hx => hz.held hx, ?_⟩
      have hz := Stp.refl I15017 w15016
      refine ev_storeA hp (i := 0) (off := 0) (vs := [(.bool x15014.Neg), v15018]) rfl rfl rfl rfl T24 rfl (Nat.le_of_ble_eq_true rfl) (ones_cons rfl (ones_cons r15019.one ones_nil)) ?_
      intro w15020 hp hs
      replace hz := hz.trans hs
      replace r15019 := r15019.step hs
      refine ⟨Stp I15017 w15020 I15017, Stp.refl _ _, fun x hx => hz.held hx, ?_⟩
      have hz := Stp.refl I15017 w15020
      apply go
      obtain rfl := Option.some.inj h
      refine ⟨_, run_loadVarA T24 rfl (hp.at_ (i := 0) rfl), ?_⟩
      have hp := hp.sel [] (by decide)
      exact ⟨I15017, v15018, rfl, hp, r15019⟩
    ·
      have h := cond_f h hc
      apply go
      apply go
      have hs := hp.stp (Ch.drew [] w14994)
      have hp := hp.drew
      replace a14939 := a14939.step hs
      replace r14928 := r14928.step hs
      replace r14959 := r14959.step hs
      replace r14965 := r14965.step hs
      refine W.held [(0, true), (1, true), (2, true), (3, true), (4, false), (5, false), (6, false)] (Stp I14963 w14994.drew I14963) MX (by kernel_rfl) (Stp.refl _ _) ?_
      have hz := Stp.refl I14963 w14994.drew
      refine evh0 (rn_field rfl rfl FO24_0) ?_
      refine evh (fun w' hw => rn_load rfl rfl (run_loadVar1 T4 ((a14939.step hw).2 0 _ rfl))) ?_
      obtain ⟨x15034, q15035, h⟩ := bind_some h
      refine ev_call rfl rfl C67 (((integer_minus_ok n) _ _  x14960 v14964 r14965 x14954 v14958 r14959 hp.imm _ q15035).mono ?_)
      rintro _ w15036 ⟨I15037, v15038, hv, hq, r15039⟩
      replace hv := hv.symm
      subst hv
      have hs := hq.st
      have hp := hp.join0 hq
      replace hz := hz.trans hs
      refine ⟨Stp I15037 w15036 I15037, Stp.refl _ _, fun x hx => hz.held hx, ?_⟩
      have hz := Stp.refl I15037 w15036
      obtain ⟨x15040, q15041, h⟩ := bind_some h
      refine ev_call rfl rfl C49 (((integer_made_ok n) _ _  x14926.Neg x15034 v15038 r15039 hp.imm _ q15041).mono ?_)
      rintro _ w15042 ⟨I15043, v15044, hv, hq, r15045⟩
      replace hv := hv.symm
      subst hv
      have hs := hq.st
      have hp := hp.join0 hq
      replace hz := hz.trans hs
      refine ⟨Stp I15043 w15042 I15043, Stp.refl _ _, fun x hx => hz.held hx, ?_⟩
      have hz := Stp.refl I15043 w15042
      refine ev_storeA hp (i := 0) (off := 0) (vs := [(.bool x15040.Neg), v15044]) rfl rfl rfl rfl T24 rfl (Nat.le_of_ble_eq_true rfl) (ones_cons rfl (ones_cons r15045.one ones_nil)) ?_
      intro w15046 hp hs
      replace hz := hz.trans hs
      replace r15045 := r15045.step hs
      refine ⟨Stp I15043 w15046 I15043, Stp.refl _ _, fun x hx => hz.held hx, ?_⟩
      have hz := Stp.refl I15043 w15046
      apply go
      obtain rfl := Option.some.inj h
      refine ⟨_, run_loadVarA T24 rfl (hp.at_ (i := 0) rfl), ?_⟩
      have hp := hp.sel [] (by decide)
      exact ⟨I15043, v15044, rfl, hp, r15045⟩

end Go.Proofs.YthhghkcopfnbiaaGreatDoor

namespace Go.Proofs.YthhghkcopfnbiaaGreatDoor
open Go Go.Proofs.YthhghkcopfnbiaaGreatDoor.Gw Go.RowKit
set_option linter.unusedVariables false
attribute [local irreducible] Ev EvQ EvS EvH
def slices_Cloneuint32_uint32__S (f : (List Int) → Option (List Int)) : Prop := ∀ (w0 : World) (I0 : Nat → Prop) (x364 : (List Int)) (v365 : Value) (r366 : RepS (dI .u32) w0 I0 v365 x364) (hI : ∀ g, I0 g → g < w0.heap.size) (r : (List Int)), f x364 = some r →
    Ret Tryz.prog 56 #[v365] w0 fun v w1 => ∃ (I1 : Nat → Prop) (u367 : Value), v = u367 ∧ Hp ⟨w0, I0, []⟩ I1 [] w1 ∧ RepS (dI .u32) w1 I1 u367 r
theorem slices_Cloneuint32_uint32__ok (n : Nat) : slices_Cloneuint32_uint32__S (slices_Cloneuint32_uint32_ n) := by
  intro w0 I0 x364 v365 r366 hI r h
  unfold slices_Cloneuint32_uint32_ at h
  refine enter Tryz.func56 rfl (Nat.le_of_ble_eq_true rfl) ?_
  have hp : Hp ⟨w0, I0, []⟩ I0 [] w0 := Hp.start hI
  apply go
  apply go
  apply go
  apply go
  apply go
  rcases r366.nilcase with ⟨hv, hx⟩ | ⟨n368, hv, hx⟩ | ⟨a369, n368, hv⟩
  ·
    subst hv; subst hx
    replace h : some ([] : (List Int)) = some _ := h
    refine ev0 (rn_eqNil rfl rfl rfl Tryz.underlying22) ?_
    apply go
    apply go
    apply go
    apply go
    obtain rfl := Option.some.inj h
    exact ⟨I0, .slice none 0 0, rfl, hp, RepS.nil _ _ _⟩
  ·
    subst hv; subst hx
    replace h : some ([] : (List Int)) = some _ := h
    refine ev0 (rn_eqNil rfl rfl rfl Tryz.underlying22) ?_
    apply go
    apply go
    apply go
    apply go
    obtain rfl := Option.some.inj h
    exact ⟨I0, .slice none 0 0, rfl, hp, RepS.nil _ _ _⟩
  ·
    subst hv
    refine ev0 (rn_eqNil rfl rfl rfl Tryz.underlying22) ?_
    apply go
    apply go
    apply go
    apply go
    refine ev_litON (d := (dI .u32)) (xs := ([] : List Int)) (cs := []) hp rfl rfl Tryz.underlying22 T45 (by decide) (by decide) rfl rfl (Elems.nil _ _ _ _) ?_
    intro v370 e372 w371 hp hs o373
    replace r366 := r366.step hs
    obtain ⟨x374, q375, h⟩ := bind_some h
    refine ev_append hp (i := 0) rfl rfl rfl rfl Tryz.underlying22 T45 rfl rfl o373 r366 q375 ?_
    rintro v376 e377 w378 hp hs o379
    apply go
    obtain rfl := Option.some.inj h
    have r380 := o379.frz hp (i := 0) rfl
    obtain ⟨hp, hs⟩ := freeze_hp hp (i := 0) rfl
    have hp := hp.sel [] (by decide)
    exact ⟨(Ad I0 e377), v376, rfl, hp, r380⟩

end Go.Proofs.YthhghkcopfnbiaaGreatDoor

namespace Go.Proofs.YthhghkcopfnbiaaGreatDoor
open Go Go.Proofs.YthhghkcopfnbiaaGreatDoor.Gw Go.RowKit
set_option linter.unusedVariables false
attribute [local irreducible] Ev EvQ EvS EvH
def bits_Div32_S (f : Int → Int → Int → Option (Int × Int)) : Prop := ∀ (w0 : World) (I0 : Nat → Prop) (x381 : Int) (x382 : Int) (x383 : Int) (hI : ∀ g, I0 g → g < w0.heap.size) (r : (Int × Int)), f x381 x382 x383 = some r →
    Ret Tryz.prog 73 #[(.int .u32 x381), (.int .u32 x382), (.int .u32 x383)] w0 fun v w1 => v = (.tuple #[(.int .u32 r.1), (.int .u32 r.2)]) ∧ Ch [] w0 w1
theorem bits_Div32_ok (n : Nat) : bits_Div32_S (bits_Div32 n) := by
  intro w0 I0 x381 x382 x383 hI r h
  unfold bits_Div32 at h
  refine enter Tryz.func73 rfl (Nat.le_of_ble_eq_true rfl) ?_
  have hp : Hp ⟨w0, I0, []⟩ I0 [] w0 := Hp.start hI
  apply go
  apply go
  obtain ⟨y387, q388, h⟩ := bind_some h
  refine W.cut (γ := Unit) (fun _ => [(0, (.int .u32 x381)), (1, (.int .u32 x382)), (2, (.int .u32 x383))]) (fun _ w' => y387 = () ∧ w0 = w') ?_ ?_
  ·
    obtain ⟨y390, q391, q388⟩ := bind_some q388
    refine W.cut (γ := Bool) (fun g => [(0, (.int .u32 x381)), (1, (.int .u32 x382)), (2, (.int .u32 x383)), (15, (.bool (g)))]) (fun g w' => y390 = (g) ∧ w0 = w') ?_ ?_
    ·
      apply go
      refine sel_of (fun hc => ?_) (fun hc => ?_)
      ·
        have q391 := cond_t q391 hc
        obtain rfl := Option.some.inj q391
        exact ⟨(decide (x383 ≤ x381)), (.c rfl (.c rfl (.c rfl (.c rfl .n)))), rfl, rfl⟩
      ·
        have q391 := cond_f q391 hc
        obtain rfl := Option.some.inj q391
        exact ⟨false, (.c rfl (.c rfl (.c rfl (.c rfl .n)))), rfl, rfl⟩
    ·
      rintro x389 _ ⟨hy, rfl⟩
      replace hy := hy.symm
      subst hy
      apply go
      refine sel_of (fun hc => ?_) (fun hc => ?_)
      ·
        have q388 := cond_t q388 hc
        apply go
        cases q388
      ·
        have q388 := cond_f q388 hc
        apply go
        obtain rfl := Option.some.inj q388
        exact ⟨(), (.c rfl (.c rfl (.c rfl .n))), rfl, rfl⟩
  ·
    rintro ⟨⟩ _ ⟨hy, rfl⟩
    replace hy := hy.symm
    subst hy
    apply go
    apply go
    refine ev0 (rn_conv rfl rfl U45 Tryz.underlying49) ?_
    refine ⟨by decide, ?_⟩
    refine ev0 (rn_conv rfl rfl U45 Tryz.underlying49) ?_
    apply go
    refine W.quiet (fun w' => Ch [] w0 w') MX (by kernel_rfl) (Ch.drew [] w0) ?_
    refine evq0 (rn_conv rfl rfl U45 Tryz.underlying49) ?_
    obtain ⟨q392, _, h⟩ := need_some h
    refine ⟨q392, ?_⟩
    refine evq0 (rn_conv rfl rfl U49 Tryz.underlying45) ?_
    refine evq0 (rn_conv rfl rfl U45 Tryz.underlying49) ?_
    obtain ⟨q393, _, h⟩ := need_some h
    refine ⟨q393, ?_⟩
    refine evq0 (rn_conv rfl rfl U49 Tryz.underlying45) ?_
    intro w394 hc
    have hs := hp.stp hc
    replace hp := hp.ext hc
    apply go
    obtain rfl := Option.some.inj h
    exact ⟨rfl, hp.ch⟩

end Go.Proofs.YthhghkcopfnbiaaGreatDoor

namespace Go.Proofs.YthhghkcopfnbiaaGreatDoor
open Go Go.Proofs.YthhghkcopfnbiaaGreatDoor.Gw Go.RowKit
set_option linter.unusedVariables false
attribute [local irreducible] Ev EvQ EvS EvH
def integer_short_S (f : (List Int) → Int → Option ((List Int) × Int)) : Prop := ∀ (w0 : World) (I0 : Nat → Prop) (x395 : (List Int)) (v396 : Value) (r397 : RepS (dI .u32) w0 I0 v396 x395) (x398 : Int) (hI : ∀ g, I0 g → g < w0.heap.size) (r : ((List Int) × Int)), f x395 x398 = some r →
    Ret Tryz.prog 57 #[v396, (.int .u32 x398)] w0 fun v w1 => ∃ (I1 : Nat → Prop) (u399 : Value), v = (.tuple #[u399, (.int .u32 r.2)]) ∧ Hp ⟨w0, I0, []⟩ I1 [] w1 ∧ RepS (dI .u32) w1 I1 u399 r.1
theorem integer_short_ok (n : Nat) : integer_short_S (integer_short n) := by
  intro w0 I0 x395 v396 r397 x398 hI r h
  unfold integer_short at h
  refine enter Tryz.func57 rfl (Nat.le_of_ble_eq_true rfl) ?_
  have hp : Hp ⟨w0, I0, []⟩ I0 [] w0 := Hp.start hI
  apply go
  apply go
  apply go
  apply go
  refine ev0 (rn_len rfl rfl Tryz.underlying22 r397) ?_
  obtain ⟨x400, q401, h⟩ := bind_some h
  refine ev_make (d := (dI .u32)) (x0 := 0) hp rfl rfl rfl Tryz.underlying22 T45 (fun _ _ => rfl) (Nat.le_of_ble_eq_true rfl) q401 ?_
  intro v402 e403 w404 hp hs o405
  replace r397 := r397.step hs
  apply go
  apply go
  obtain ⟨y498, q499, h⟩ := bind_some h
  refine W.cut (γ := ((List Int) × Int × Ent)) (fun g => [(6, v402), (7, (.int .u32 (g.2.1)))]) (fun g w' => y498 = ((g.1), (g.2.1)) ∧ Hp ⟨w0, I0, []⟩ I0 [(g.2.2)] w' ∧ OwnS (dI .u32) 45 w' I0 v402 (g.2.2) (g.1)) ?_ ?_
  ·
    apply go
    apply go
    refine ev0 (rn_len rfl rfl Tryz.underlying22 r397) ?_
    apply go
    refine W.loop q499 (γ := Ent) (fun s g => [(0, v396), (1, (.int .u32 x398)), (6, v402), (7, (.int .u32 (s.2.1))), (8, (.int .i64 (s.2.2)))]) (fun s g w' => Hp ⟨w0, I0, []⟩ I0 [(g)] w' ∧ RepS (dI .u32) w' I0 v396 x395 ∧ OwnS (dI .u32) 45 w' I0 v402 (g) (s.1)) e403 (.c rfl (.c rfl (.c rfl (.c rfl (.c rfl .n))))) ⟨hp, r397, o405⟩ ?_
    rintro ⟨x523, x527, x528⟩ e525 w558 y559 ⟨hp, r397, o526⟩ q560 q561
    unfold integer_short_L1 at q560
    apply go
    apply go
    apply go
    apply go
    refine sel_of (fun hc => ?_) (fun hc => ?_)
    ·
      have q560 := cond_t q560 hc
      apply go
      apply go
      apply go
      apply go
      obtain ⟨x562, q563, q560⟩ := bind_some q560
      refine ev_index rfl rfl rfl Tryz.underlying22 T45 r397 q563 ?_
      intro p564 c565 d566 a567
      obtain rfl : c565 = [(.int .u32 x562)] := d566
      refine ev (rn_load rfl rfl (run_loadVar1 T45 (a567.2 0 _ rfl))) ?_
      obtain ⟨⟨x568, x569⟩, q570, q560⟩ := bind_some q560
      refine ev_call rfl rfl C73 (((bits_Div32_ok n) _ _  x527 x562 x398 hp.imm _ q570).mono ?_)
      rintro _ w571 ⟨rfl, hc⟩
      have hs := hp.stp hc
      replace hp := hp.ext hc
      replace r397 := r397.step hs
      replace o526 := o526.step hs
      obtain ⟨x572, q573, q560⟩ := bind_some q560
      refine ev_indexO rfl rfl rfl Tryz.underlying22 T45 o526 q573 ?_
      intro g574 c575 h578 d576 l577
      refine ev_storeE hp (i := 0) rfl h578 rfl rfl rfl T45 o526 q573 (x0 := x568) rfl ?_
      intro e581 w580 hp hs o582
      replace r397 := r397.step hs
      apply go
      exact ⟨_, (Option.some.inj q560).symm, e581, (.c rfl (.c rfl (.c rfl (.c rfl (.c rfl .n))))), ⟨hp, r397, o582⟩⟩
    ·
      have q560 := cond_f q560 hc
      apply go
      have q585 := congrArg some (q561 _ (Option.some.inj q560).symm)
      obtain rfl := Option.some.inj q585
      exact ⟨(x523, x527, e525), (.c rfl (.c rfl .n)), rfl, hp, o526⟩
  ·
    rintro ⟨x492, x496, e494⟩ w497 ⟨hy, hp, o495⟩
    replace hy := hy.symm
    subst hy
    apply go
    apply go
    apply go
    obtain rfl := Option.some.inj h
    have r586 := o495.frz hp (i := 0) rfl
    obtain ⟨hp, hs⟩ := freeze_hp hp (i := 0) rfl
    have hp := hp.sel [] (by decide)
    exact ⟨(Ad I0 e494), v402, rfl, hp, r586⟩

end Go.Proofs.YthhghkcopfnbiaaGreatDoor

namespace Go.Proofs.YthhghkcopfnbiaaGreatDoor
open Go Go.Proofs.YthhghkcopfnbiaaGreatDoor.Gw Go.RowKit
set_option linter.unusedVariables false
attribute [local irreducible] Ev EvQ EvS EvH
def bits_LeadingZeros32_S (f : Int → Option Int) : Prop := ∀ (w0 : World) (I0 : Nat → Prop) (x598 : Int) (hI : ∀ g, I0 g → g < w0.heap.size) (r : Int), f x598 = some r →
    Ret Tryz.prog 69 #[(.int .u32 x598)] w0 fun v w1 => v = (.int .i64 r) ∧ Ch [] w0 w1
theorem bits_LeadingZeros32_ok (n : Nat) : bits_LeadingZeros32_S (bits_LeadingZeros32 n) := by
  intro w0 I0 x598 hI r h
  unfold bits_LeadingZeros32 at h
  refine enter Tryz.func69 rfl (Nat.le_of_ble_eq_true rfl) ?_
  have hp : Hp ⟨w0, I0, []⟩ I0 [] w0 := Hp.start hI
  apply go
  apply go
  apply go
  apply go
  obtain ⟨x599, q600, h⟩ := bind_some h
  refine ev_call rfl rfl C50 (((bits_Len32_ok n) _ _  x598 hp.imm _ q600).mono ?_)
  rintro _ w601 ⟨rfl, hc⟩
  have hs := hp.stp hc
  replace hp := hp.ext hc
  apply go
  obtain rfl := Option.some.inj h
  exact ⟨rfl, hp.ch⟩

end Go.Proofs.YthhghkcopfnbiaaGreatDoor

namespace Go.Proofs.YthhghkcopfnbiaaGreatDoor
open Go Go.Proofs.YthhghkcopfnbiaaGreatDoor.Gw Go.RowKit
set_option linter.unusedVariables false
attribute [local irreducible] Ev EvQ EvS EvH
def integer_shifted_S (f : (List Int) → Int → Option (List Int)) : Prop := ∀ (w0 : World) (I0 : Nat → Prop) (x602 : (List Int)) (v603 : Value) (r604 : RepS (dI .u32) w0 I0 v603 x602) (x605 : Int) (hI : ∀ g, I0 g → g < w0.heap.size) (r : (List Int)), f x602 x605 = some r →
    Ret Tryz.prog 70 #[v603, (.int .u64 x605)] w0 fun v w1 => ∃ (I1 : Nat → Prop) (u606 : Value) (u607 : Ent), v = u606 ∧ Hp ⟨w0, I0, []⟩ I1 [u607] w1 ∧ OwnS (dI .u32) 45 w1 I1 u606 u607 r
theorem integer_shifted_ok (n : Nat) : integer_shifted_S (integer_shifted n) := by
  intro w0 I0 x602 v603 r604 x605 hI r h
  unfold integer_shifted at h
  refine enter Tryz.func70 rfl (Nat.le_of_ble_eq_true rfl) ?_
  have hp : Hp ⟨w0, I0, []⟩ I0 [] w0 := Hp.start hI
  apply go
  apply go
  apply go
  apply go
  refine ev0 (rn_len rfl rfl Tryz.underlying22 r604) ?_
  obtain ⟨x608, q609, h⟩ := bind_some h
  refine ev_make (d := (dI .u32)) (x0 := 0) hp rfl rfl rfl Tryz.underlying22 T45 (fun _ _ => rfl) (Nat.le_of_ble_eq_true rfl) q609 ?_
  intro v610 e611 w612 hp hs o613
  replace r604 := r604.step hs
  obtain ⟨y757, q758, h⟩ := bind_some h
  refine W.cut (γ := ((List Int) × Ent)) (fun g => [(5, v610)]) (fun g w' => y757 = (g.1) ∧ Hp ⟨w0, I0, []⟩ I0 [(g.2)] w' ∧ OwnS (dI .u32) 45 w' I0 v610 (g.2) (g.1)) ?_ ?_
  ·
    apply go
    apply go
    refine ev0 (rn_len rfl rfl Tryz.underlying22 r604) ?_
    apply go
    refine W.loop q758 (γ := Ent) (fun s g => [(1, (.int .u64 x605)), (5, v610), (13, v603), (14, (.int .i64 (x602.length : Int))), (15, (.int .i64 (s.2)))]) (fun s g w' => Hp ⟨w0, I0, []⟩ I0 [(g)] w' ∧ OwnS (dI .u32) 45 w' I0 v610 (g) (s.1) ∧ RepS (dI .u32) w' I0 v603 x602) e611 (.c rfl (.c rfl (.c rfl (.c rfl (.c rfl .n))))) ⟨hp, o613, r604⟩ ?_
    rintro ⟨x800, x804⟩ e802 w851 y852 ⟨hp, o803, r604⟩ q853 q854
    unfold integer_shifted_L1 at q853
    apply go
    apply go
    apply go
    apply go
    refine sel_of (fun hc => ?_) (fun hc => ?_)
    ·
      have q853 := cond_t q853 hc
      apply go
      apply go
      apply go
      apply go
      apply go
      obtain ⟨x855, q856, q853⟩ := bind_some q853
      refine ev_index rfl rfl rfl Tryz.underlying22 T45 r604 q856 ?_
      intro p857 c858 d859 a860
      obtain rfl : c858 = [(.int .u32 x855)] := d859
      refine ev (rn_load rfl rfl (run_loadVar1 T45 (a860.2 0 _ rfl))) ?_
      apply go
      apply go
      refine ev0 (rn_conv rfl rfl U45 Tryz.underlying49) ?_
      obtain ⟨q861, _, q853⟩ := need_some q853
      refine ⟨q861, ?_⟩
      apply go
      apply go
      obtain ⟨x862, q863, q853⟩ := bind_some q853
      refine ev_indexO rfl rfl rfl Tryz.underlying22 T45 o803 q863 ?_
      intro g864 c865 h868 d866 l867
      refine ev (rn_load rfl rfl (run_loadVar1 T45 (hp.cellE (i := 0) rfl h868 d866 (j := 0) rfl))) ?_
      refine ev0 (rn_conv rfl rfl U49 Tryz.underlying45) ?_
      obtain ⟨x870, q871, q853⟩ := bind_some q853
      refine ev_indexO rfl rfl rfl Tryz.underlying22 T45 o803 q871 ?_
      intro g872 c873 h876 d874 l875
      refine ev_storeE hp (i := 0) rfl h876 rfl rfl rfl T45 o803 q871 (x0 := (ib .or .u32 x862 (IntKind.u32.wrap (IntKind.u64.wrap ((IntKind.u64.wrap x855) * 2 ^ min x605.toNat (IntKind.u64).bits))))) rfl ?_
      intro e879 w878 hp hs o880
      replace r604 := r604.step hs
      apply go
      refine ⟨by decide, ?_⟩
      refine ev0 (rn_conv rfl rfl U49 Tryz.underlying45) ?_
      obtain ⟨x883, q884, q853⟩ := bind_some q853
      refine ev_indexO rfl rfl rfl Tryz.underlying22 T45 o880 q884 ?_
      intro g885 c886 h889 d887 l888
      refine ev_storeE hp (i := 0) rfl h889 rfl rfl rfl T45 o880 q884 (x0 := (IntKind.u32.wrap ((IntKind.u64.wrap ((IntKind.u64.wrap x855) * 2 ^ min x605.toNat (IntKind.u64).bits)).fdiv (2 ^ min (32 : Int).toNat (IntKind.u64).bits)))) rfl ?_
      intro e892 w891 hp hs o893
      replace r604 := r604.step hs
      apply go
      exact ⟨_, (Option.some.inj q853).symm, e892, (.c rfl (.c rfl (.c rfl (.c rfl (.c rfl .n))))), ⟨hp, o893, r604⟩⟩
    ·
      have q853 := cond_f q853 hc
      apply go
      have q896 := congrArg some (q854 _ (Option.some.inj q853).symm)
      obtain rfl := Option.some.inj q896
      exact ⟨(x800, e802), (.c rfl .n), rfl, hp, o803⟩
  ·
    rintro ⟨x752, e754⟩ w756 ⟨hy, hp, o755⟩
    replace hy := hy.symm
    subst hy
    apply go
    apply go
    apply go
    obtain rfl := Option.some.inj h
    exact ⟨I0, v610, e754, rfl, hp, o755⟩

end Go.Proofs.YthhghkcopfnbiaaGreatDoor

namespace Go.Proofs.YthhghkcopfnbiaaGreatDoor
open Go Go.Proofs.YthhghkcopfnbiaaGreatDoor.Gw Go.RowKit
set_option linter.unusedVariables false
attribute [local irreducible] Ev EvQ EvS EvH
def integer_divide_S (f : (List Int) → (List Int) → Option ((List Int) × (List Int))) : Prop := ∀ (w0 : World) (I0 : Nat → Prop) (x903 : (List Int)) (v904 : Value) (r905 : RepS (dI .u32) w0 I0 v904 x903) (x906 : (List Int)) (v907 : Value) (r908 : RepS (dI .u32) w0 I0 v907 x906) (hI : ∀ g, I0 g → g < w0.heap.size) (r : ((List Int) × (List Int))), f x903 x906 = some r →
    Ret Tryz.prog 55 #[v904, v907] w0 fun v w1 => ∃ (I1 : Nat → Prop) (u909 : Value) (u910 : Value), v = (.tuple #[u909, u910]) ∧ Hp ⟨w0, I0, []⟩ I1 [] w1 ∧ RepS (dI .u32) w1 I1 u909 r.1 ∧ RepS (dI .u32) w1 I1 u910 r.2
theorem integer_divide_ok (n : Nat) : integer_divide_S (integer_divide n) := by
  intro w0 I0 x903 v904 r905 x906 v907 r908 hI r h
  unfold integer_divide at h
  refine enter Tryz.func55 rfl (Nat.le_of_ble_eq_true rfl) ?_
  have hp : Hp ⟨w0, I0, []⟩ I0 [] w0 := Hp.start hI
  apply go
  apply go
  apply go
  apply go
  apply go
  obtain ⟨x911, q912, h⟩ := bind_some h
  refine ev_call rfl rfl C48 (((integer_compare_ok n) _ _  x903 v904 r905 x906 v907 r908 hp.imm _ q912).mono ?_)
  rintro _ w913 ⟨rfl, hc⟩
  have hs := hp.stp hc
  replace hp := hp.ext hc
  replace r905 := r905.step hs
  replace r908 := r908.step hs
  apply go
  refine sel_of (fun hc => ?_) (fun hc => ?_)
  ·
    have h := cond_t h hc
    apply go
    apply go
    obtain ⟨x914, q915, h⟩ := bind_some h
    refine ev_call rfl rfl C56 (((slices_Cloneuint32_uint32__ok n) _ _  x903 v904 r905 hp.imm _ q915).mono ?_)
    rintro _ w916 ⟨I917, v918, hv, hq, r919⟩
    replace hv := hv.symm
    subst hv
    have hs := hq.st
    have hp := hp.join0 hq
    apply go
    obtain rfl := Option.some.inj h
    exact ⟨I917, .slice none 0 0, v918, rfl, hp, RepS.nil _ _ _, r919⟩
  ·
    have h := cond_f h hc
    apply go
    apply go
    apply go
    apply go
    refine ev0 (rn_len rfl rfl Tryz.underlying22 r908) ?_
    apply go
    refine sel_of (fun hc => ?_) (fun hc => ?_)
    ·
      have h := cond_t h hc
      apply go
      apply go
      obtain ⟨x920, q921, h⟩ := bind_some h
      refine ev_index rfl rfl rfl Tryz.underlying22 T45 r908 q921 ?_
      intro p922 c923 d924 a925
      obtain rfl : c923 = [(.int .u32 x920)] := d924
      refine ev (rn_load rfl rfl (run_loadVar1 T45 (a925.2 0 _ rfl))) ?_
      obtain ⟨⟨x926, x927⟩, q928, h⟩ := bind_some h
      refine ev_call rfl rfl C57 (((integer_short_ok n) _ _  x903 v904 r905 x920 hp.imm _ q928).mono ?_)
      rintro _ w929 ⟨I930, v931, hv, hq, r932⟩
      replace hv := hv.symm
      subst hv
      have hs := hq.st
      have hp := hp.join0 hq
      apply go
      apply go
      refine ev_litN (d := (dI .u32)) (xs := [x927]) (cs := [(.int .u32 x927)]) hp rfl rfl Tryz.underlying22 T45 (by decide) rfl rfl (Elems.cons (d := (dI .u32)) (xs := _) rfl (Elems.nil _ _ _ _)) ?_
      intro v933 I935 w934 hp hs r936
      replace r932 := r932.step hs
      apply go
      obtain rfl := Option.some.inj h
      exact ⟨I935, v931, v933, rfl, hp, r932, r936⟩
    ·
      have h := cond_f h hc
      apply go
      apply go
      apply go
      refine ev0 (rn_len rfl rfl Tryz.underlying22 r908) ?_
      obtain ⟨x937, q938, h⟩ := bind_some h
      refine ev_index rfl rfl rfl Tryz.underlying22 T45 r908 q938 ?_
      intro p939 c940 d941 a942
      obtain rfl : c940 = [(.int .u32 x937)] := d941
      refine ev (rn_load rfl rfl (run_loadVar1 T45 (a942.2 0 _ rfl))) ?_
      obtain ⟨x943, q944, h⟩ := bind_some h
      refine ev_call rfl rfl C69 (((bits_LeadingZeros32_ok n) _ _  x937 hp.imm _ q944).mono ?_)
      rintro _ w945 ⟨rfl, hc⟩
      have hs := hp.stp hc
      replace hp := hp.ext hc
      replace r905 := r905.step hs
      replace r908 := r908.step hs
      refine ev0 (rn_conv rfl rfl U3 Tryz.underlying43) ?_
      apply go
      have hs := hp.stp (Ch.drew [] w945)
      have hp := hp.drew
      replace r905 := r905.step hs
      replace r908 := r908.step hs
      refine W.held [(0, true), (1, true), (3, true), (4, true), (6, true), (7, true), (2, false), (5, false), (9, true), (8, false), (10, true)] (Stp I0 w945.drew I0) MX (by kernel_rfl) (Stp.refl _ _) ?_
      have hz := Stp.refl I0 w945.drew
      refine evh0 (rn_len rfl rfl Tryz.underlying22 r908) ?_
      obtain ⟨x965, q966, h⟩ := bind_some h
      refine ev_call rfl rfl C70 (((integer_shifted_ok n) _ _  x903 v904 r905 (IntKind.u64.wrap x943) hp.imm _ q966).mono ?_)
      rintro _ w967 ⟨I968, v969, e970, hv, hq, o971⟩
      replace hv := hv.symm
      subst hv
      have hs := hq.st
      have hp := hp.join0 hq
      replace hz := hz.trans hs
      replace r908 := r908.step hs
      refine ⟨Stp I968 w967 I968, Stp.refl _ _, fun x hx => hz.held hx, ?_⟩
      have hz := Stp.refl I968 w967
      obtain ⟨x972, q973, h⟩ := bind_some h
      refine ev_call rfl rfl C70 (((integer_shifted_ok n) _ _  x906 v907 r908 (IntKind.u64.wrap x943) hp.imm _ q973).mono ?_)
      rintro _ w974 ⟨I975, v976, e977, hv, hq, o978⟩
      replace hv := hv.symm
      subst hv
      have hs := hq.st
      have hp := hp.join0 hq
      replace hz := hz.trans hs
      replace o971 := o971.step hs
      refine ⟨Stp I975 w974 I975, Stp.refl _ _, fun x hx => hz.held hx, ?_⟩
      have hz := Stp.refl I975 w974
      have r979 := o978.frz hp (i := 0) rfl
      obtain ⟨hp, hs⟩ := freeze_hp hp (i := 0) rfl
      replace hz := hz.trans hs
      replace o971 := o971.step hs
      have hp := hp.sel [1] (by decide)
      obtain ⟨x980, q981, h⟩ := bind_some h
      refine ev_slice (kl := .i64) (kh := .i64) rfl rfl rfl rfl Tryz.underlying22 T45 r979 q981 ?_
      intro v982 r983
      refine ⟨Stp (Ad I975 e977) w974 (Ad I975 e977), Stp.refl _ _, fun x hx => hz.held hx, ?_⟩
      have hz := Stp.refl (Ad I975 e977) w974
      apply go
      apply go
      refine ev0 (rn_len rfl rfl Tryz.underlying22 r983) ?_
      apply go
      apply go
      refine ev0 (x_lenO rfl rfl Tryz.underlying22 o971) ?_
      obtain ⟨x984, q985, h⟩ := bind_some h
      refine ev_make (d := (dI .u32)) (x0 := 0) hp rfl rfl rfl Tryz.underlying22 T45 (fun _ _ => rfl) (Nat.le_of_ble_eq_true rfl) q985 ?_
      intro v986 e987 w988 hp hs o989
      replace o971 := o971.step hs
      replace r983 := r983.step hs
      obtain ⟨y7565, q7566, h⟩ := bind_some h
      refine W.cut (γ := ((List Int) × (List Int) × Ent × Ent)) (fun g => [(8, (.int .u64 (IntKind.u64.wrap x943))), (9, v969), (11, (.int .i64 (x980.length : Int))), (12, v986)]) (fun g w' => y7565 = ((g.1), (g.2.1)) ∧ Hp ⟨w0, I0, []⟩ (Ad I975 e977) [(g.2.2.1), (g.2.2.2)] w' ∧ OwnS (dI .u32) 45 w' (Ad I975 e977) v969 (g.2.2.1) (g.1) ∧ OwnS (dI .u32) 45 w' (Ad I975 e977) v986 (g.2.2.2) (g.2.1)) ?_ ?_
      ·
        apply go
        apply go
        refine ev0 (x_lenO rfl rfl Tryz.underlying22 o971) ?_
        apply go
        have hp := hp.perm [1, 0] (by decide)
        refine W.loop q7566 (γ := (Ent × Ent)) (fun s g => [(8, (.int .u64 (IntKind.u64.wrap x943))), (9, v969), (10, v982), (11, (.int .i64 (x980.length : Int))), (12, v986), (13, (.int .i64 (s.2.2)))]) (fun s g w' => Hp ⟨w0, I0, []⟩ (Ad I975 e977) [(g.1), (g.2)] w' ∧ OwnS (dI .u32) 45 w' (Ad I975 e977) v969 (g.1) (s.1) ∧ RepS (dI .u32) w' (Ad I975 e977) v982 x980 ∧ OwnS (dI .u32) 45 w' (Ad I975 e977) v986 (g.2) (s.2.1)) (e970, e987) (.c rfl (.c rfl (.c rfl (.c rfl (.c rfl (.c rfl .n)))))) ⟨hp, o971, r983, o989⟩ ?_
        rintro ⟨x9748, x9752, x9756⟩ ⟨e9750, e9754⟩ w11947 y11948 ⟨hp, o9751, r983, o9755⟩ q11949 q11950
        unfold integer_divide_L81 at q11949
        apply go
        apply go
        apply go
        apply go
        refine sel_of (fun hc => ?_) (fun hc => ?_)
        ·
          have q11949 := cond_t q11949 hc
          apply go
          obtain ⟨y13045, q13046, q11949⟩ := bind_some q11949
          refine W.cut (γ := ((List Int) × (List Int) × Ent × Ent)) (fun g => [(8, (.int .u64 (IntKind.u64.wrap x943))), (9, v969), (10, v982), (11, (.int .i64 (x980.length : Int))), (12, v986), (13, (.int .i64 x9756))]) (fun g w' => y13045 = ((g.1), (g.2.1)) ∧ Hp ⟨w0, I0, []⟩ (Ad I975 e977) [(g.2.2.1), (g.2.2.2)] w' ∧ OwnS (dI .u32) 45 w' (Ad I975 e977) v969 (g.2.2.1) (g.1) ∧ RepS (dI .u32) w' (Ad I975 e977) v982 x980 ∧ OwnS (dI .u32) 45 w' (Ad I975 e977) v986 (g.2.2.2) (g.2.1)) ?_ ?_
          ·
            apply go
            apply go
            refine W.quiet (fun w' => Ch [] w11947 w') MX (by kernel_rfl) (Ch.drew [] w11947) ?_
            obtain ⟨x13047, q13048, q13046⟩ := bind_some q13046
            refine evq_indexO rfl rfl rfl Tryz.underlying22 T45 o9751 q13048 ?_
            intro g13049 c13050 h13053 d13051 l13052
            refine evq (fun w' hw => rn_load rfl rfl (run_loadVar1 T45 ((hp.ext hw).cellE (i := 0) rfl h13053 d13051 (j := 0) rfl))) ?_
            refine evq0 (rn_conv rfl rfl U45 Tryz.underlying49) ?_
            refine ⟨by decide, ?_⟩
            obtain ⟨x13055, q13056, q13046⟩ := bind_some q13046
            refine evq_indexO rfl rfl rfl Tryz.underlying22 T45 o9751 q13056 ?_
            intro g13057 c13058 h13061 d13059 l13060
            refine evq (fun w' hw => rn_load rfl rfl (run_loadVar1 T45 ((hp.ext hw).cellE (i := 0) rfl h13061 d13059 (j := 0) rfl))) ?_
            refine evq0 (rn_conv rfl rfl U45 Tryz.underlying49) ?_
            intro w13063 hc
            have hs := hp.stp hc
            replace hp := hp.ext hc
            replace o9751 := o9751.step hs
            replace r983 := r983.step hs
            replace o9755 := o9755.step hs
            apply go
            refine W.quiet (fun w' => Ch [] w13063 w') MX (by kernel_rfl) (Ch.drew [] w13063) ?_
            obtain ⟨x13064, q13065, q13046⟩ := bind_some q13046
            refine evq_index rfl rfl rfl Tryz.underlying22 T45 r983 q13065 ?_
            intro p13066 c13067 d13068 a13069
            obtain rfl : c13067 = [(.int .u32 x13064)] := d13068
            refine evq (fun w' hw => rn_load rfl rfl (run_loadVar1 T45 ((a13069.step (hp.stp hw)).2 0 _ rfl))) ?_
            refine evq0 (rn_conv rfl rfl U45 Tryz.underlying49) ?_
            obtain ⟨q13070, _, q13046⟩ := need_some q13046
            refine ⟨q13070, ?_⟩
            obtain ⟨x13071, q13072, q13046⟩ := bind_some q13046
            refine evq_index rfl rfl rfl Tryz.underlying22 T45 r983 q13072 ?_
            intro p13073 c13074 d13075 a13076
            obtain rfl : c13074 = [(.int .u32 x13071)] := d13075
            refine evq (fun w' hw => rn_load rfl rfl (run_loadVar1 T45 ((a13076.step (hp.stp hw)).2 0 _ rfl))) ?_
            refine evq0 (rn_conv rfl rfl U45 Tryz.underlying49) ?_
            obtain ⟨q13077, _, q13046⟩ := need_some q13046
            refine ⟨q13077, ?_⟩
            intro w13078 hc
            have hs := hp.stp hc
            replace hp := hp.ext hc
            replace o9751 := o9751.step hs
            replace r983 := r983.step hs
            replace o9755 := o9755.step hs
            obtain ⟨y13217, q13218, q13046⟩ := bind_some q13046
            refine W.cut (γ := Int) (fun g => [(8, (.int .u64 (IntKind.u64.wrap x943))), (9, v969), (10, v982), (11, (.int .i64 (x980.length : Int))), (12, v986), (13, (.int .i64 x9756)), (15, (.int .u64 (g)))]) (fun g w' => y13217 = (g) ∧ Hp ⟨w0, I0, []⟩ (Ad I975 e977) [e9750, e9754] w' ∧ OwnS (dI .u32) 45 w' (Ad I975 e977) v969 e9750 x9748 ∧ RepS (dI .u32) w' (Ad I975 e977) v982 x980 ∧ OwnS (dI .u32) 45 w' (Ad I975 e977) v986 e9754 x9752) ?_ ?_
            ·
              apply go
              refine W.loop q13218 (γ := Unit) (fun s _ => [(8, (.int .u64 (IntKind.u64.wrap x943))), (9, v969), (10, v982), (11, (.int .i64 (x980.length : Int))), (12, v986), (13, (.int .i64 x9756)), (15, (.int .u64 (s.1))), (16, (.int .u64 (s.2)))]) (fun s _ w' => Hp ⟨w0, I0, []⟩ (Ad I975 e977) [e9750, e9754] w' ∧ OwnS (dI .u32) 45 w' (Ad I975 e977) v969 e9750 x9748 ∧ RepS (dI .u32) w' (Ad I975 e977) v982 x980 ∧ OwnS (dI .u32) 45 w' (Ad I975 e977) v986 e9754 x9752) () (.c rfl (.c rfl (.c rfl (.c rfl (.c rfl (.c rfl (.c rfl (.c rfl .n)))))))) ⟨hp, o9751, r983, o9755⟩ ?_
              rintro ⟨x13261, x13262⟩ ⟨⟩ w13307 y13308 ⟨hp, o9751, r983, o9755⟩ q13309 q13310
              unfold integer_divide_L91 at q13309
              apply go
              obtain ⟨y13329, q13330, q13309⟩ := bind_some q13309
              refine W.cut (γ := Bool) (fun g => [(8, (.int .u64 (IntKind.u64.wrap x943))), (9, v969), (10, v982), (11, (.int .i64 (x980.length : Int))), (12, v986), (13, (.int .i64 x9756)), (15, (.int .u64 x13261)), (16, (.int .u64 x13262)), (136, (.bool (g)))]) (fun g w' => y13329 = (g) ∧ Hp ⟨w0, I0, []⟩ (Ad I975 e977) [e9750, e9754] w' ∧ OwnS (dI .u32) 45 w' (Ad I975 e977) v969 e9750 x9748 ∧ RepS (dI .u32) w' (Ad I975 e977) v982 x980 ∧ OwnS (dI .u32) 45 w' (Ad I975 e977) v986 e9754 x9752) ?_ ?_
              ·
                refine W.quiet (fun w' => Ch [] w13307 w') MX (by kernel_rfl) (Ch.drew [] w13307) ?_
                refine sel_of (fun hc => ?_) (fun hc => ?_)
                ·
                  have q13330 := cond_t q13330 hc
                  intro w13331 hc
                  have hs := hp.stp hc
                  replace hp := hp.ext hc
                  replace o9751 := o9751.step hs
                  replace r983 := r983.step hs
                  replace o9755 := o9755.step hs
                  obtain rfl := Option.some.inj q13330
                  exact ⟨true, (.c rfl (.c rfl (.c rfl (.c rfl (.c rfl (.c rfl (.c rfl (.c rfl (.c rfl .n))))))))), rfl, hp, o9751, r983, o9755⟩
                ·
                  have q13330 := cond_f q13330 hc
                  obtain ⟨x13332, q13333, q13330⟩ := bind_some q13330
                  refine evq_index rfl rfl rfl Tryz.underlying22 T45 r983 q13333 ?_
                  intro p13334 c13335 d13336 a13337
                  obtain rfl : c13335 = [(.int .u32 x13332)] := d13336
                  refine evq (fun w' hw => rn_load rfl rfl (run_loadVar1 T45 ((a13337.step (hp.stp hw)).2 0 _ rfl))) ?_
                  refine evq0 (rn_conv rfl rfl U45 Tryz.underlying49) ?_
                  refine ⟨by decide, ?_⟩
                  obtain ⟨x13338, q13339, q13330⟩ := bind_some q13330
                  refine evq_indexO rfl rfl rfl Tryz.underlying22 T45 o9751 q13339 ?_
                  intro g13340 c13341 h13344 d13342 l13343
                  refine evq (fun w' hw => rn_load rfl rfl (run_loadVar1 T45 ((hp.ext hw).cellE (i := 0) rfl h13344 d13342 (j := 0) rfl))) ?_
                  refine evq0 (rn_conv rfl rfl U45 Tryz.underlying49) ?_
                  intro w13346 hc
                  have hs := hp.stp hc
                  replace hp := hp.ext hc
                  replace o9751 := o9751.step hs
                  replace r983 := r983.step hs
                  replace o9755 := o9755.step hs
                  replace a13337 := a13337.step hs
                  obtain rfl := Option.some.inj q13330
                  exact ⟨(decide ((IntKind.u64.wrap (x13261 * (IntKind.u64.wrap x13332))) > (ib .or .u64 (IntKind.u64.wrap (x13262 * 2 ^ min (32 : Int).toNat (IntKind.u64).bits)) (IntKind.u64.wrap x13338)))), (.c rfl (.c rfl (.c rfl (.c rfl (.c rfl (.c rfl (.c rfl (.c rfl (.c rfl .n))))))))), rfl, hp, o9751, r983, o9755⟩
              ·
                rintro x13327 w13328 ⟨hy, hp, o9751, r983, o9755⟩
                replace hy := hy.symm
                subst hy
                apply go
                refine sel_of (fun hc => ?_) (fun hc => ?_)
                ·
                  have q13309 := cond_t q13309 hc
                  apply go
                  apply go
                  apply go
                  apply go
                  apply go
                  apply go
                  obtain ⟨x13347, q13348, q13309⟩ := bind_some q13309
                  refine ev_index rfl rfl rfl Tryz.underlying22 T45 r983 q13348 ?_
                  intro p13349 c13350 d13351 a13352
                  obtain rfl : c13350 = [(.int .u32 x13347)] := d13351
                  refine ev (rn_load rfl rfl (run_loadVar1 T45 (a13352.2 0 _ rfl))) ?_
                  refine ev0 (rn_conv rfl rfl U45 Tryz.underlying49) ?_
                  apply go
                  apply go
                  apply go
                  refine sel_of (fun hc => ?_) (fun hc => ?_)
                  ·
                    have q13309 := cond_t q13309 hc
                    apply go
                    have q13353 := congrArg some (q13310 _ (Option.some.inj q13309).symm)
                    obtain rfl := Option.some.inj q13353
                    exact ⟨(IntKind.u64.wrap (x13261 - 1)), (.c rfl (.c rfl (.c rfl (.c rfl (.c rfl (.c rfl (.c rfl .n))))))), rfl, hp, o9751, r983, o9755⟩
                  ·
                    have q13309 := cond_f q13309 hc
                    apply go
                    exact ⟨_, (Option.some.inj q13309).symm, (), (.c rfl (.c rfl (.c rfl (.c rfl (.c rfl (.c rfl (.c rfl (.c rfl .n)))))))), ⟨hp, o9751, r983, o9755⟩⟩
                ·
                  have q13309 := cond_f q13309 hc
                  apply go
                  have q13354 := congrArg some (q13310 _ (Option.some.inj q13309).symm)
                  obtain rfl := Option.some.inj q13354
                  exact ⟨x13261, (.c rfl (.c rfl (.c rfl (.c rfl (.c rfl (.c rfl (.c rfl .n))))))), rfl, hp, o9751, r983, o9755⟩
            ·
              rintro x13215 w13216 ⟨hy, hp, o9751, r983, o9755⟩
              replace hy := hy.symm
              subst hy
              apply go
              apply go
              apply go
              apply go
              obtain ⟨y13474, q13475, q13046⟩ := bind_some q13046
              refine W.cut (γ := ((List Int) × Int × Int × Ent)) (fun g => [(8, (.int .u64 (IntKind.u64.wrap x943))), (9, v969), (10, v982), (11, (.int .i64 (x980.length : Int))), (12, v986), (13, (.int .i64 x9756)), (15, (.int .u64 x13215)), (17, (.int .u64 (g.2.1))), (18, (.int .u32 (g.2.2.1)))]) (fun g w' => y13474 = ((g.1), (g.2.1), (g.2.2.1)) ∧ Hp ⟨w0, I0, []⟩ (Ad I975 e977) [(g.2.2.2), e9754] w' ∧ OwnS (dI .u32) 45 w' (Ad I975 e977) v969 (g.2.2.2) (g.1) ∧ RepS (dI .u32) w' (Ad I975 e977) v982 x980 ∧ OwnS (dI .u32) 45 w' (Ad I975 e977) v986 e9754 x9752) ?_ ?_
              ·
                apply go
                apply go
                refine ev0 (rn_len rfl rfl Tryz.underlying22 r983) ?_
                apply go
                refine W.loop q13475 (γ := Ent) (fun s g => [(8, (.int .u64 (IntKind.u64.wrap x943))), (9, v969), (10, v982), (11, (.int .i64 (x980.length : Int))), (12, v986), (13, (.int .i64 x9756)), (15, (.int .u64 x13215)), (17, (.int .u64 (s.2.1))), (18, (.int .u32 (s.2.2.1))), (149, v982), (150, (.int .i64 (x980.length : Int))), (151, (.int .i64 (s.2.2.2)))]) (fun s g w' => Hp ⟨w0, I0, []⟩ (Ad I975 e977) [(g), e9754] w' ∧ OwnS (dI .u32) 45 w' (Ad I975 e977) v969 (g) (s.1) ∧ RepS (dI .u32) w' (Ad I975 e977) v982 x980 ∧ OwnS (dI .u32) 45 w' (Ad I975 e977) v986 e9754 x9752) e9750 (.c rfl (.c rfl (.c rfl (.c rfl (.c rfl (.c rfl (.c rfl (.c rfl (.c rfl (.c rfl (.c rfl (.c rfl .n)))))))))))) ⟨hp, o9751, r983, o9755⟩ ?_
                rintro ⟨x13507, x13511, x13512, x13513⟩ e13509 w13552 y13553 ⟨hp, o13510, r983, o9755⟩ q13554 q13555
                unfold integer_divide_L93 at q13554
                apply go
                apply go
                apply go
                apply go
                refine sel_of (fun hc => ?_) (fun hc => ?_)
                ·
                  have q13554 := cond_t q13554 hc
                  apply go
                  apply go
                  apply go
                  apply go
                  apply go
                  obtain ⟨x13556, q13557, q13554⟩ := bind_some q13554
                  refine ev_index rfl rfl rfl Tryz.underlying22 T45 r983 q13557 ?_
                  intro p13558 c13559 d13560 a13561
                  obtain rfl : c13559 = [(.int .u32 x13556)] := d13560
                  refine ev (rn_load rfl rfl (run_loadVar1 T45 (a13561.2 0 _ rfl))) ?_
                  apply go
                  apply go
                  refine ev0 (rn_conv rfl rfl U45 Tryz.underlying49) ?_
                  apply go
                  apply go
                  refine ⟨by decide, ?_⟩
                  apply go
                  obtain ⟨x13562, q13563, q13554⟩ := bind_some q13554
                  refine ev_indexO rfl rfl rfl Tryz.underlying22 T45 o13510 q13563 ?_
                  intro g13564 c13565 h13568 d13566 l13567
                  refine ev (rn_load rfl rfl (run_loadVar1 T45 (hp.cellE (i := 0) rfl h13568 d13566 (j := 0) rfl))) ?_
                  refine ev0 (rn_conv rfl rfl U49 Tryz.underlying45) ?_
                  obtain ⟨⟨x13570, x13571⟩, q13572, q13554⟩ := bind_some q13554
                  refine ev_call rfl rfl C71 (((bits_Sub32_ok n) _ _  x13562 (IntKind.u32.wrap (IntKind.u64.wrap ((IntKind.u64.wrap (x13215 * (IntKind.u64.wrap x13556))) + x13511))) x13512 hp.imm _ q13572).mono ?_)
                  rintro _ w13573 ⟨rfl, hc⟩
                  have hs := hp.stp hc
                  replace hp := hp.ext hc
                  replace o13510 := o13510.step hs
                  replace r983 := r983.step hs
                  replace o9755 := o9755.step hs
                  obtain ⟨x13574, q13575, q13554⟩ := bind_some q13554
                  refine ev_indexO rfl rfl rfl Tryz.underlying22 T45 o13510 q13575 ?_
                  intro g13576 c13577 h13580 d13578 l13579
                  refine ev_storeE hp (i := 0) rfl h13580 rfl rfl rfl T45 o13510 q13575 (x0 := x13570) rfl ?_
                  intro e13583 w13582 hp hs o13584
                  replace r983 := r983.step hs
                  replace o9755 := o9755.step hs
                  apply go
                  exact ⟨_, (Option.some.inj q13554).symm, e13583, (.c rfl (.c rfl (.c rfl (.c rfl (.c rfl (.c rfl (.c rfl (.c rfl (.c rfl (.c rfl (.c rfl (.c rfl .n)))))))))))), ⟨hp, o13584, r983, o9755⟩⟩
                ·
                  have q13554 := cond_f q13554 hc
                  apply go
                  have q13587 := congrArg some (q13555 _ (Option.some.inj q13554).symm)
                  obtain rfl := Option.some.inj q13587
                  exact ⟨(x13507, x13511, x13512, e13509), (.c rfl (.c rfl (.c rfl (.c rfl (.c rfl (.c rfl (.c rfl (.c rfl (.c rfl .n))))))))), rfl, hp, o13510, r983, o9755⟩
              ·
                rintro ⟨x13467, x13471, x13472, e13469⟩ w13473 ⟨hy, hp, o13470, r983, o9755⟩
                replace hy := hy.symm
                subst hy
                apply go
                apply go
                obtain ⟨x13588, q13589, q13046⟩ := bind_some q13046
                refine ev_indexO rfl rfl rfl Tryz.underlying22 T45 o13470 q13589 ?_
                intro g13590 c13591 h13594 d13592 l13593
                refine ev (rn_load rfl rfl (run_loadVar1 T45 (hp.cellE (i := 0) rfl h13594 d13592 (j := 0) rfl))) ?_
                refine ev0 (rn_conv rfl rfl U49 Tryz.underlying45) ?_
                obtain ⟨⟨x13596, x13597⟩, q13598, q13046⟩ := bind_some q13046
                refine ev_call rfl rfl C71 (((bits_Sub32_ok n) _ _  x13588 (IntKind.u32.wrap x13471) x13472 hp.imm _ q13598).mono ?_)
                rintro _ w13599 ⟨rfl, hc⟩
                have hs := hp.stp hc
                replace hp := hp.ext hc
                replace o13470 := o13470.step hs
                replace r983 := r983.step hs
                replace o9755 := o9755.step hs
                obtain ⟨x13600, q13601, q13046⟩ := bind_some q13046
                refine ev_indexO rfl rfl rfl Tryz.underlying22 T45 o13470 q13601 ?_
                intro g13602 c13603 h13606 d13604 l13605
                refine ev_storeE hp (i := 0) rfl h13606 rfl rfl rfl T45 o13470 q13601 (x0 := x13596) rfl ?_
                intro e13609 w13608 hp hs o13610
                replace r983 := r983.step hs
                replace o9755 := o9755.step hs
                obtain ⟨y13868, q13869, q13046⟩ := bind_some q13046
                refine W.cut (γ := ((List Int) × Int × Ent)) (fun g => [(8, (.int .u64 (IntKind.u64.wrap x943))), (9, v969), (10, v982), (11, (.int .i64 (x980.length : Int))), (12, v986), (13, (.int .i64 x9756)), (15, (.int .u64 (g.2.1)))]) (fun g w' => y13868 = ((g.1), (g.2.1)) ∧ Hp ⟨w0, I0, []⟩ (Ad I975 e977) [(g.2.2), e9754] w' ∧ OwnS (dI .u32) 45 w' (Ad I975 e977) v969 (g.2.2) (g.1) ∧ RepS (dI .u32) w' (Ad I975 e977) v982 x980 ∧ OwnS (dI .u32) 45 w' (Ad I975 e977) v986 e9754 x9752) ?_ ?_
                ·
                  apply go
                  apply go
                  apply go
                  refine sel_of (fun hc => ?_) (fun hc => ?_)
                  ·
                    have q13869 := cond_t q13869 hc
                    apply go
                    apply go
                    apply go
                    apply go
                    obtain ⟨y13986, q13987, q13869⟩ := bind_some q13869
                    refine W.cut (γ := ((List Int) × Int × Ent)) (fun g => [(8, (.int .u64 (IntKind.u64.wrap x943))), (9, v969), (10, v982), (11, (.int .i64 (x980.length : Int))), (12, v986), (13, (.int .i64 x9756)), (15, (.int .u64 (IntKind.u64.wrap (x13215 - 1)))), (22, (.int .u32 (g.2.1)))]) (fun g w' => y13986 = ((g.1), (g.2.1)) ∧ Hp ⟨w0, I0, []⟩ (Ad I975 e977) [(g.2.2), e9754] w' ∧ OwnS (dI .u32) 45 w' (Ad I975 e977) v969 (g.2.2) (g.1) ∧ RepS (dI .u32) w' (Ad I975 e977) v982 x980 ∧ OwnS (dI .u32) 45 w' (Ad I975 e977) v986 e9754 x9752) ?_ ?_
                    ·
                      apply go
                      apply go
                      refine ev0 (rn_len rfl rfl Tryz.underlying22 r983) ?_
                      apply go
                      refine W.loop q13987 (γ := Ent) (fun s g => [(8, (.int .u64 (IntKind.u64.wrap x943))), (9, v969), (10, v982), (11, (.int .i64 (x980.length : Int))), (12, v986), (13, (.int .i64 x9756)), (15, (.int .u64 (IntKind.u64.wrap (x13215 - 1)))), (22, (.int .u32 (s.2.1))), (205, v982), (206, (.int .i64 (x980.length : Int))), (207, (.int .i64 (s.2.2)))]) (fun s g w' => Hp ⟨w0, I0, []⟩ (Ad I975 e977) [(g), e9754] w' ∧ OwnS (dI .u32) 45 w' (Ad I975 e977) v969 (g) (s.1) ∧ RepS (dI .u32) w' (Ad I975 e977) v982 x980 ∧ OwnS (dI .u32) 45 w' (Ad I975 e977) v986 e9754 x9752) e13609 (.c rfl (.c rfl (.c rfl (.c rfl (.c rfl (.c rfl (.c rfl (.c rfl (.c rfl (.c rfl (.c rfl .n))))))))))) ⟨hp, o13610, r983, o9755⟩ ?_
                      rintro ⟨x14019, x14023, x14024⟩ e14021 w14062 y14063 ⟨hp, o14022, r983, o9755⟩ q14064 q14065
                      unfold integer_divide_L97 at q14064
                      apply go
                      apply go
                      apply go
                      apply go
                      refine sel_of (fun hc => ?_) (fun hc => ?_)
                      ·
                        have q14064 := cond_t q14064 hc
                        apply go
                        apply go
                        apply go
                        apply go
                        apply go
                        obtain ⟨x14066, q14067, q14064⟩ := bind_some q14064
                        refine ev_index rfl rfl rfl Tryz.underlying22 T45 r983 q14067 ?_
                        intro p14068 c14069 d14070 a14071
                        obtain rfl : c14069 = [(.int .u32 x14066)] := d14070
                        refine ev (rn_load rfl rfl (run_loadVar1 T45 (a14071.2 0 _ rfl))) ?_
                        apply go
                        obtain ⟨x14072, q14073, q14064⟩ := bind_some q14064
                        refine ev_indexO rfl rfl rfl Tryz.underlying22 T45 o14022 q14073 ?_
                        intro g14074 c14075 h14078 d14076 l14077
                        refine ev (rn_load rfl rfl (run_loadVar1 T45 (hp.cellE (i := 0) rfl h14078 d14076 (j := 0) rfl))) ?_
                        obtain ⟨⟨x14080, x14081⟩, q14082, q14064⟩ := bind_some q14064
                        refine ev_call rfl rfl C72 (((bits_Add32_ok n) _ _  x14072 x14066 x14023 hp.imm _ q14082).mono ?_)
                        rintro _ w14083 ⟨rfl, hc⟩
                        have hs := hp.stp hc
                        replace hp := hp.ext hc
                        replace o14022 := o14022.step hs
                        replace r983 := r983.step hs
                        replace o9755 := o9755.step hs
                        obtain ⟨x14084, q14085, q14064⟩ := bind_some q14064
                        refine ev_indexO rfl rfl rfl Tryz.underlying22 T45 o14022 q14085 ?_
                        intro g14086 c14087 h14090 d14088 l14089
                        refine ev_storeE hp (i := 0) rfl h14090 rfl rfl rfl T45 o14022 q14085 (x0 := x14080) rfl ?_
                        intro e14093 w14092 hp hs o14094
                        replace r983 := r983.step hs
                        replace o9755 := o9755.step hs
                        apply go
                        exact ⟨_, (Option.some.inj q14064).symm, e14093, (.c rfl (.c rfl (.c rfl (.c rfl (.c rfl (.c rfl (.c rfl (.c rfl (.c rfl (.c rfl (.c rfl .n))))))))))), ⟨hp, o14094, r983, o9755⟩⟩
                      ·
                        have q14064 := cond_f q14064 hc
                        apply go
                        have q14097 := congrArg some (q14065 _ (Option.some.inj q14064).symm)
                        obtain rfl := Option.some.inj q14097
                        exact ⟨(x14019, x14023, e14021), (.c rfl (.c rfl (.c rfl (.c rfl (.c rfl (.c rfl (.c rfl (.c rfl .n)))))))), rfl, hp, o14022, r983, o9755⟩
                    ·
                      rintro ⟨x13980, x13984, e13982⟩ w13985 ⟨hy, hp, o13983, r983, o9755⟩
                      replace hy := hy.symm
                      subst hy
                      apply go
                      obtain ⟨x14098, q14099, q13869⟩ := bind_some q13869
                      refine ev_indexO rfl rfl rfl Tryz.underlying22 T45 o13983 q14099 ?_
                      intro g14100 c14101 h14104 d14102 l14103
                      refine ev (rn_load rfl rfl (run_loadVar1 T45 (hp.cellE (i := 0) rfl h14104 d14102 (j := 0) rfl))) ?_
                      obtain ⟨x14106, q14107, q13869⟩ := bind_some q13869
                      refine ev_indexO rfl rfl rfl Tryz.underlying22 T45 o13983 q14107 ?_
                      intro g14108 c14109 h14112 d14110 l14111
                      refine ev_storeE hp (i := 0) rfl h14112 rfl rfl rfl T45 o13983 q14107 (x0 := (IntKind.u32.wrap (x14098 + x13984))) rfl ?_
                      intro e14115 w14114 hp hs o14116
                      replace r983 := r983.step hs
                      replace o9755 := o9755.step hs
                      obtain rfl := Option.some.inj q13869
                      exact ⟨((upd x13980 (IntKind.i64.wrap (x9756 + (x980.length : Int))) (IntKind.u32.wrap (x14098 + x13984))), (IntKind.u64.wrap (x13215 - 1)), e14115), (.c rfl (.c rfl (.c rfl (.c rfl (.c rfl (.c rfl (.c rfl .n))))))), rfl, hp, o14116, r983, o9755⟩
                  ·
                    have q13869 := cond_f q13869 hc
                    apply go
                    obtain rfl := Option.some.inj q13869
                    exact ⟨((upd x13467 (IntKind.i64.wrap (x9756 + (x980.length : Int))) x13596), x13215, e13609), (.c rfl (.c rfl (.c rfl (.c rfl (.c rfl (.c rfl (.c rfl .n))))))), rfl, hp, o13610, r983, o9755⟩
                ·
                  rintro ⟨x13862, x13866, e13864⟩ w13867 ⟨hy, hp, o13865, r983, o9755⟩
                  replace hy := hy.symm
                  subst hy
                  apply go
                  refine ev0 (rn_conv rfl rfl U49 Tryz.underlying45) ?_
                  obtain ⟨x14119, q14120, q13046⟩ := bind_some q13046
                  refine ev_indexO rfl rfl rfl Tryz.underlying22 T45 o9755 q14120 ?_
                  intro g14121 c14122 h14125 d14123 l14124
                  refine ev_storeE hp (i := 1) rfl h14125 rfl rfl rfl T45 o9755 q14120 (x0 := (IntKind.u32.wrap x13866)) rfl ?_
                  intro e14128 w14127 hp hs o14129
                  replace o13865 := o13865.step hs
                  replace r983 := r983.step hs
                  obtain rfl := Option.some.inj q13046
                  exact ⟨(x13862, (upd x9752 x9756 (IntKind.u32.wrap x13866)), e13864, e14128), (.c rfl (.c rfl (.c rfl (.c rfl (.c rfl (.c rfl .n)))))), rfl, hp, o13865, r983, o14129⟩
          ·
            rintro ⟨x13036, x13040, e13038, e13042⟩ w13044 ⟨hy, hp, o13039, r983, o13043⟩
            replace hy := hy.symm
            subst hy
            apply go
            exact ⟨_, (Option.some.inj q11949).symm, (e13038, e13042), (.c rfl (.c rfl (.c rfl (.c rfl (.c rfl (.c rfl .n)))))), ⟨hp, o13039, r983, o13043⟩⟩
        ·
          have q11949 := cond_f q11949 hc
          apply go
          have q14132 := congrArg some (q11950 _ (Option.some.inj q11949).symm)
          obtain rfl := Option.some.inj q14132
          exact ⟨(x9748, x9752, e9750, e9754), (.c rfl (.c rfl (.c rfl (.c rfl .n)))), rfl, hp, o9751, o9755⟩
      ·
        rintro ⟨x7556, x7560, e7558, e7562⟩ w7564 ⟨hy, hp, o7559, o7563⟩
        replace hy := hy.symm
        subst hy
        apply go
        apply go
        obtain ⟨x14133, q14134, h⟩ := bind_some h
        refine ev_make (d := (dI .u32)) (x0 := 0) hp rfl rfl rfl Tryz.underlying22 T45 (fun _ _ => rfl) (Nat.le_of_ble_eq_true rfl) q14134 ?_
        intro v14135 e14136 w14137 hp hs o14138
        replace o7559 := o7559.step hs
        replace o7563 := o7563.step hs
        obtain ⟨y14252, q14253, h⟩ := bind_some h
        refine W.cut (γ := ((List Int) × Ent)) (fun g => [(12, v986), (25, v14135)]) (fun g w' => y14252 = (g.1) ∧ Hp ⟨w0, I0, []⟩ (Ad I975 e977) [e7562, (g.2)] w' ∧ OwnS (dI .u32) 45 w' (Ad I975 e977) v986 e7562 x7560 ∧ OwnS (dI .u32) 45 w' (Ad I975 e977) v14135 (g.2) (g.1)) ?_ ?_
        ·
          apply go
          apply go
          refine ev0 (x_lenO rfl rfl Tryz.underlying22 o14138) ?_
          apply go
          have hp := hp.perm [1, 2, 0] (by decide)
          refine W.loop q14253 (γ := Ent) (fun s g => [(8, (.int .u64 (IntKind.u64.wrap x943))), (9, v969), (12, v986), (25, v14135), (247, (.int .i64 (x14133.length : Int))), (248, (.int .i64 (s.2)))]) (fun s g w' => Hp ⟨w0, I0, []⟩ (Ad I975 e977) [e7558, e7562, (g)] w' ∧ OwnS (dI .u32) 45 w' (Ad I975 e977) v969 e7558 x7556 ∧ OwnS (dI .u32) 45 w' (Ad I975 e977) v986 e7562 x7560 ∧ OwnS (dI .u32) 45 w' (Ad I975 e977) v14135 (g) (s.1)) e14136 (.c rfl (.c rfl (.c rfl (.c rfl (.c rfl (.c rfl .n)))))) ⟨hp, o7559, o7563, o14138⟩ ?_
          rintro ⟨x14285, x14289⟩ e14287 w14326 y14327 ⟨hp, o7559, o7563, o14288⟩ q14328 q14329
          unfold integer_divide_L99 at q14328
          apply go
          apply go
          apply go
          apply go
          refine sel_of (fun hc => ?_) (fun hc => ?_)
          ·
            have q14328 := cond_t q14328 hc
            apply go
            apply go
            apply go
            apply go
            apply go
            have hs := hp.stp (Ch.drew [] w14326)
            have hp := hp.drew
            replace o7559 := o7559.step hs
            replace o7563 := o7563.step hs
            replace o14288 := o14288.step hs
            refine W.tail 19 MX (by kernel_rfl) ?_
            obtain ⟨x14331, q14332, q14328⟩ := bind_some q14328
            refine evs_indexO rfl rfl rfl Tryz.underlying22 T45 o7559 q14332 ?_
            intro g14333 c14334 h14337 d14335 l14336
            refine evs (rn_load rfl rfl (run_loadVar1 T45 (hp.cellE (i := 0) rfl h14337 d14335 (j := 0) rfl))) ?_
            refine evs0 (rn_conv rfl rfl U45 Tryz.underlying49) ?_
            refine ⟨by decide, ?_⟩
            obtain ⟨x14339, q14340, q14328⟩ := bind_some q14328
            refine evs_indexO rfl rfl rfl Tryz.underlying22 T45 o7559 q14340 ?_
            intro g14341 c14342 h14345 d14343 l14344
            refine evs (rn_load rfl rfl (run_loadVar1 T45 (hp.cellE (i := 0) rfl h14345 d14343 (j := 0) rfl))) ?_
            refine evs0 (rn_conv rfl rfl U45 Tryz.underlying49) ?_
            obtain ⟨q14347, _, q14328⟩ := need_some q14328
            refine ⟨q14347, ?_⟩
            refine evs0 (rn_conv rfl rfl U49 Tryz.underlying45) ?_
            obtain ⟨x14348, q14349, q14328⟩ := bind_some q14328
            refine evs_indexO rfl rfl rfl Tryz.underlying22 T45 o14288 q14349 ?_
            intro g14350 c14351 h14354 d14352 l14353
            refine ev_storeE hp (i := 2) rfl h14354 rfl rfl rfl T45 o14288 q14349 (x0 := (IntKind.u32.wrap ((ib .or .u64 (IntKind.u64.wrap ((IntKind.u64.wrap x14331) * 2 ^ min (32 : Int).toNat (IntKind.u64).bits)) (IntKind.u64.wrap x14339)).fdiv (2 ^ min (IntKind.u64.wrap x943).toNat (IntKind.u64).bits)))) rfl ?_
            intro e14357 w14356 hp hs o14358
            replace o7559 := o7559.step hs
            replace o7563 := o7563.step hs
            apply go
            exact ⟨_, (Option.some.inj q14328).symm, e14357, (.c rfl (.c rfl (.c rfl (.c rfl (.c rfl (.c rfl .n)))))), ⟨hp, o7559, o7563, o14358⟩⟩
          ·
            have q14328 := cond_f q14328 hc
            apply go
            have q14361 := congrArg some (q14329 _ (Option.some.inj q14328).symm)
            obtain rfl := Option.some.inj q14361
            have hp := hp.sel [1, 2] (by decide)
            exact ⟨(x14285, e14287), (.c rfl (.c rfl .n)), rfl, hp, o7563, o14288⟩
        ·
          rintro ⟨x14247, e14249⟩ w14251 ⟨hy, hp, o7563, o14250⟩
          replace hy := hy.symm
          subst hy
          apply go
          apply go
          apply go
          obtain rfl := Option.some.inj h
          have r14362 := o7563.frz hp (i := 0) rfl
          obtain ⟨hp, hs⟩ := freeze_hp hp (i := 0) rfl
          replace o14250 := o14250.step hs
          have hp := hp.sel [1] (by decide)
          have r14363 := o14250.frz hp (i := 0) rfl
          obtain ⟨hp, hs⟩ := freeze_hp hp (i := 0) rfl
          replace r14362 := r14362.step hs
          have hp := hp.sel [] (by decide)
          exact ⟨(Ad (Ad (Ad I975 e977) e7562) e14249), v986, v14135, rfl, hp, r14362, r14363⟩

end Go.Proofs.YthhghkcopfnbiaaGreatDoor

namespace Go.Proofs.YthhghkcopfnbiaaGreatDoor
open Go Go.Proofs.YthhghkcopfnbiaaGreatDoor.Gw Go.RowKit
set_option linter.unusedVariables false
attribute [local irreducible] Ev EvQ EvS EvH
def integer_DivMod_S (f : Int_2 → Int_2 → Option (Int_2 × Int_2 × Int)) : Prop := ∀ (w0 : World) (I0 : Nat → Prop) (x15260 : Int_2) (v15261 : Value) (r15262 : RepS (dI .u32) w0 I0 v15261 x15260.Mag) (x15263 : Int_2) (v15264 : Value) (r15265 : RepS (dI .u32) w0 I0 v15264 x15263.Mag) (hI : ∀ g, I0 g → g < w0.heap.size) (r : (Int_2 × Int_2 × Int)), f x15260 x15263 = some r →
    Ret Tryz.prog 24 #[(.agg #[(.bool x15260.Neg), v15261]), (.agg #[(.bool x15263.Neg), v15264])] w0 fun v w1 => ∃ (I1 : Nat → Prop) (u15266 : Value) (u15267 : Value), v = (.tuple #[(.agg #[(.bool r.1.Neg), u15266]), (.agg #[(.bool r.2.1.Neg), u15267]), (.int .i64 r.2.2)]) ∧ Hp ⟨w0, I0, []⟩ I1 [] w1 ∧ RepS (dI .u32) w1 I1 u15266 r.1.Mag ∧ RepS (dI .u32) w1 I1 u15267 r.2.1.Mag
theorem integer_DivMod_ok (n : Nat) : integer_DivMod_S (integer_DivMod n) := by
  intro w0 I0 x15260 v15261 r15262 x15263 v15264 r15265 hI r h
  unfold integer_DivMod at h
  refine enter Tryz.func24 rfl (Nat.le_of_ble_eq_true rfl) ?_
  have hp : Hp ⟨w0, I0, []⟩ I0 [] w0 := Hp.start hI
  apply go
  apply go
  refine ev_boxI hp rfl rfl ?_
  intro p15270 I15271 w15269 hp hs a15272
  replace r15265 := r15265.step hs
  replace r15262 := r15262.step hs
  refine ev_boxI hp rfl rfl ?_
  intro p15275 I15276 w15274 hp hs a15277
  replace a15272 := a15272.step hs
  replace r15262 := r15262.step hs
  replace r15265 := r15265.step hs
  refine ev_alloc hp rfl T24 ?_
  intro g15278 w15279 hp hs
  replace a15272 := a15272.step hs
  replace r15262 := r15262.step hs
  replace a15277 := a15277.step hs
  replace r15265 := r15265.step hs
  refine ev_alloc hp rfl T24 ?_
  intro g15280 w15281 hp hs
  replace a15272 := a15272.step hs
  replace r15262 := r15262.step hs
  replace a15277 := a15277.step hs
  replace r15265 := r15265.step hs
  apply go
  have hs := hp.stp (Ch.drew [] w15281)
  have hp := hp.drew
  replace a15272 := a15272.step hs
  replace r15262 := r15262.step hs
  replace a15277 := a15277.step hs
  replace r15265 := r15265.step hs
  refine W.held [(0, true), (1, true), (3, true), (4, true), (2, false), (5, false), (6, true), (7, true)] (Stp I15276 w15281.drew I15276) MX (by kernel_rfl) (Stp.refl _ _) ?_
  have hz := Stp.refl I15276 w15281.drew
  refine evh0 (rn_field rfl rfl FO24_1) ?_
  refine evh (fun w' hw => rn_load rfl rfl (run_loadVar1 T22 ((a15272.step hw).2 1 _ rfl))) ?_
  refine evh0 (rn_field rfl rfl FO24_1) ?_
  refine evh (fun w' hw => rn_load rfl rfl (run_loadVar1 T22 ((a15277.step hw).2 1 _ rfl))) ?_
  obtain ⟨x15294, q15295, h⟩ := bind_some h
  refine ev_call rfl rfl C46 (((integer_trim_ok n) _ _  x15260.Mag v15261 r15262 hp.imm _ q15295).mono ?_)
  rintro _ w15296 ⟨I15297, v15298, hv, hq, r15299⟩
  replace hv := hv.symm
  subst hv
  have hs := hq.st
  have hp := hp.join0 hq
  replace hz := hz.trans hs
  replace a15272 := a15272.step hs
  replace r15262 := r15262.step hs
  replace a15277 := a15277.step hs
  replace r15265 := r15265.step hs
  refine ⟨Stp I15297 w15296 I15297, Stp.refl _ _, fun x hx => hz.held hx, ?_⟩
  have hz := Stp.refl I15297 w15296
  obtain ⟨x15300, q15301, h⟩ := bind_some h
  refine ev_call rfl rfl C46 (((integer_trim_ok n) _ _  x15263.Mag v15264 r15265 hp.imm _ q15301).mono ?_)
  rintro _ w15302 ⟨I15303, v15304, hv, hq, r15305⟩
  replace hv := hv.symm
  subst hv
  have hs := hq.st
  have hp := hp.join0 hq
  replace hz := hz.trans hs
  replace a15272 := a15272.step hs
  replace r15262 := r15262.step hs
  replace a15277 := a15277.step hs
  replace r15265 := r15265.step hs
  replace r15299 := r15299.step hs
  refine ⟨Stp I15303 w15302 I15303, Stp.refl _ _, fun x hx => hz.held hx, ?_⟩
  have hz := Stp.refl I15303 w15302
  apply go
  apply go
  apply go
  refine ev0 (rn_len rfl rfl Tryz.underlying22 r15305) ?_
  apply go
  refine sel_of (fun hc => ?_) (fun hc => ?_)
  ·
    have h := cond_t h hc
    apply go
    apply go
    refine ev0 (fun w => rn_build (cs := [(.bool false), (.slice none 0 0)]) rfl rfl T24 PL24 rfl) ?_
    refine ev0 (fun w => rn_build (cs := [(.bool false), (.slice none 0 0)]) rfl rfl T24 PL24 rfl) ?_
    refine ev_storeA hp (i := 1) (off := 0) (vs := [(.bool false), (.slice none 0 0)]) rfl rfl rfl rfl T24 rfl (Nat.le_of_ble_eq_true rfl) (ones_of rfl) ?_
    intro w15306 hp hs
    refine ev_storeA hp (i := 0) (off := 0) (vs := [(.bool false), (.slice none 0 0)]) rfl rfl rfl rfl T24 rfl (Nat.le_of_ble_eq_true rfl) (ones_of rfl) ?_
    intro w15307 hp hs
    apply go
    obtain rfl := Option.some.inj h
    refine ⟨_, run_loadVarA T24 rfl (hp.at_ (i := 1) rfl), ?_⟩
    refine ⟨_, run_loadVarA T24 rfl (hp.at_ (i := 0) rfl), ?_⟩
    have hp := hp.sel [] (by decide)
    exact ⟨I15303, .slice none 0 0, .slice none 0 0, rfl, hp, RepS.nil _ _ _, RepS.nil _ _ _⟩
  ·
    have h := cond_f h hc
    apply go
    apply go
    apply go
    obtain ⟨⟨x15308, x15309⟩, q15310, h⟩ := bind_some h
    refine ev_call rfl rfl C55 (((integer_divide_ok n) _ _  x15294 v15298 r15299 x15300 v15304 r15305 hp.imm _ q15310).mono ?_)
    rintro _ w15311 ⟨I15312, v15313, v15315, hv, hq, r15314, r15316⟩
    replace hv := hv.symm
    subst hv
    have hs := hq.st
    have hp := hp.join0 hq
    replace a15272 := a15272.step hs
    replace r15262 := r15262.step hs
    replace a15277 := a15277.step hs
    replace r15265 := r15265.step hs
    replace r15305 := r15305.step hs
    obtain ⟨y15641, q15642, h⟩ := bind_some h
    refine W.cut (γ := (Bool × (List Int) × Bool × (List Int) × Nat × Value × Nat × Value × (Nat → Prop))) (fun g => [(3, (.pointer (some (p15275)))), (4, (.pointer (some ⟨g15278, 0, none⟩))), (5, (.pointer (some ⟨g15280, 0, none⟩))), (8, v15304), (11, (.pointer (some ⟨(g.2.2.2.2.1), 0, none⟩))), (12, (.pointer (some ⟨(g.2.2.2.2.2.2.1), 0, none⟩)))]) (fun g w' => y15641 = ((g.1), (g.2.1), (g.2.2.1), (g.2.2.2.1)) ∧ Hp ⟨w0, I0, []⟩ (g.2.2.2.2.2.2.2.2) [some (g15278, [(.bool false), (.slice none 0 0)], 24), some (g15280, [(.bool false), (.slice none 0 0)], 24), some ((g.2.2.2.2.1), [(.bool (g.1)), (g.2.2.2.2.2.1)], 24), some ((g.2.2.2.2.2.2.1), [(.bool (g.2.2.1)), (g.2.2.2.2.2.2.2.1)], 24)] w' ∧ RepS (dI .u32) w' (g.2.2.2.2.2.2.2.2) v15264 x15263.Mag ∧ At w' (g.2.2.2.2.2.2.2.2) p15275 [(.bool x15263.Neg), v15264] ∧ RepS (dI .u32) w' (g.2.2.2.2.2.2.2.2) v15304 x15300 ∧ RepS (dI .u32) w' (g.2.2.2.2.2.2.2.2) (g.2.2.2.2.2.1) (g.2.1) ∧ RepS (dI .u32) w' (g.2.2.2.2.2.2.2.2) (g.2.2.2.2.2.2.2.1) (g.2.2.2.1)) ?_ ?_
    ·
      have hs := hp.stp (Ch.drew [] w15311)
      have hp := hp.drew
      replace a15272 := a15272.step hs
      replace r15262 := r15262.step hs
      replace a15277 := a15277.step hs
      replace r15265 := r15265.step hs
      replace r15305 := r15305.step hs
      replace r15314 := r15314.step hs
      replace r15316 := r15316.step hs
      refine W.heldG (.q 0 (.q 1 (.q 2 (.q 3 (.q 4 (.q 5 (.q 7 (.q 8 (.q 9 (.l 6 (.l 10 (.l 11 (.l 12 (.l 13 (.l 14 .done .no) .no) .no) (.l 12 (.l 11 (.l 13 (.l 14 .done .no) .no) .no) .no)) (.l 11 (.l 10 (.l 12 (.l 13 (.l 14 .done .no) .no) .no) (.l 12 (.l 10 (.l 13 (.l 14 .done .no) .no) .no) .no)) (.l 12 (.l 10 (.l 11 (.l 13 (.l 14 .done .no) .no) .no) (.l 11 (.l 10 (.l 13 (.l 14 .done .no) .no) .no) .no)) .no))) (.l 11 (.l 6 (.l 10 (.l 12 (.l 13 (.l 14 .done .no) .no) .no) (.l 12 (.l 10 (.l 13 (.l 14 .done .no) .no) .no) .no)) (.l 12 (.l 6 (.l 10 (.l 13 (.l 14 .done .no) .no) .no) .no) .no)) (.l 12 (.l 6 (.l 10 (.l 11 (.l 13 (.l 14 .done .no) .no) .no) (.l 11 (.l 10 (.l 13 (.l 14 .done .no) .no) .no) .no)) (.l 11 (.l 6 (.l 10 (.l 13 (.l 14 .done .no) .no) .no) .no) .no)) .no)))))))))))) (SK (Stp I15312 w15311.drew I15312) [] []) MX (by kernel_rfl) ⟨Stp.refl _ _, kp_nil⟩ ?_
      have hz := Stp.refl I15312 w15311.drew
      refine ⟨SK.same (by kernel_rfl), ?_⟩
      refine evh0 (rn_field rfl rfl FO24_0) ?_
      refine ⟨SK.same (by kernel_rfl), ?_⟩
      refine evh (fun w' hw => rn_load rfl rfl (run_loadVar1 T4 ((a15272.step (S0.si hw)).2 0 _ rfl))) ?_
      refine ⟨SK.same (by kernel_rfl), ?_⟩
      refine evh0 (rn_field rfl rfl FO24_0) ?_
      refine ⟨SK.same (by kernel_rfl), ?_⟩
      refine evh (fun w' hw => rn_load rfl rfl (run_loadVar1 T4 ((a15277.step (S0.si hw)).2 0 _ rfl))) ?_
      refine ⟨SK.same (by kernel_rfl), ?_⟩
      refine evh0 (rn_neB rfl rfl rfl Tryz.underlying4) ?_
      refine ⟨SK.same (by kernel_rfl), ?_⟩
      refine ⟨SK.same (by kernel_rfl), ?_⟩
      refine evh0 (rn_field rfl rfl FO24_0) ?_
      refine ⟨SK.same (by kernel_rfl), ?_⟩
      refine evh (fun w' hw => rn_load rfl rfl (run_loadVar1 T4 ((a15272.step (S0.si hw)).2 0 _ rfl))) ?_
      refine ⟨SK.same (by kernel_rfl), ?_⟩
      refine ⟨?_, ?_⟩
      ·
        obtain ⟨x15799, q15800, q15642⟩ := bind_some q15642
        refine ev_call rfl rfl C49 (((integer_made_ok n) _ _  (!(x15260.Neg == x15263.Neg)) x15308 v15313 r15314 hp.imm _ q15800).mono ?_)
        rintro _ w15801 ⟨I15802, v15803, hv, hq, r15804⟩
        replace hv := hv.symm
        subst hv
        have hs := hq.st
        have hp := hp.join0 hq
        replace hz := hz.trans hs
        replace a15277 := a15277.step hs
        replace r15265 := r15265.step hs
        replace r15305 := r15305.step hs
        replace r15316 := r15316.step hs
        refine ⟨SK (Stp I15802 w15801 I15802) [] [], ⟨Stp.refl _ _, kp_nil⟩, fun L x h => ⟨hz.held h.1, h.2⟩, ?_⟩
        have hz := Stp.refl I15802 w15801
        refine ⟨?_, ?_⟩
        ·
          obtain ⟨x15805, q15806, q15642⟩ := bind_some q15642
          refine ev_call rfl rfl C49 (((integer_made_ok n) _ _  x15260.Neg x15309 v15315 r15316 hp.imm _ q15806).mono ?_)
          rintro _ w15807 ⟨I15808, v15809, hv, hq, r15810⟩
          replace hv := hv.symm
          subst hv
          have hs := hq.st
          have hp := hp.join0 hq
          replace hz := hz.trans hs
          replace a15277 := a15277.step hs
          replace r15265 := r15265.step hs
          replace r15305 := r15305.step hs
          replace r15804 := r15804.step hs
          refine ⟨SK (Stp I15808 w15807 I15808) [] [], ⟨Stp.refl _ _, kp_nil⟩, fun L x h => ⟨hz.held h.1, h.2⟩, ?_⟩
          have hz := Stp.refl I15808 w15807
          refine ⟨?_, ?_⟩
          ·
            refine ev_alloc hp rfl T24 ?_
            intro g15811 w15812 hp hs
            replace hz := hz.trans hs
            replace a15277 := a15277.step hs
            replace r15265 := r15265.step hs
            replace r15305 := r15305.step hs
            replace r15804 := r15804.step hs
            replace r15810 := r15810.step hs
            refine ⟨SK (Stp I15808 w15812 I15808) [] [], ⟨Stp.refl _ _, kp_nil⟩, fun L x h => ⟨hz.held h.1, h.2⟩, ?_⟩
            have hz := Stp.refl I15808 w15812
            refine ⟨?_, trivial⟩
            refine ev_alloc hp rfl T24 ?_
            intro g15813 w15814 hp hs
            replace hz := hz.trans hs
            replace a15277 := a15277.step hs
            replace r15265 := r15265.step hs
            replace r15305 := r15305.step hs
            replace r15804 := r15804.step hs
            replace r15810 := r15810.step hs
            refine ⟨SK (Stp I15808 w15814 I15808) [] [], ⟨Stp.refl _ _, kp_nil⟩, fun L x h => ⟨hz.held h.1, h.2⟩, ?_⟩
            have hz := Stp.refl I15808 w15814
            refine ⟨?_, trivial⟩
            refine ev_storeA hp (i := 1) (off := 0) (vs := [(.bool x15799.Neg), v15803]) rfl rfl rfl rfl T24 rfl (Nat.le_of_ble_eq_true rfl) (ones_cons rfl (ones_cons r15804.one ones_nil)) ?_
            intro w15815 hp hs
            replace hz := hz.trans hs
            replace a15277 := a15277.step hs
            replace r15265 := r15265.step hs
            replace r15305 := r15305.step hs
            replace r15810 := r15810.step hs
            replace r15804 := r15804.step hs
            refine ⟨SK (Stp I15808 w15815 I15808) [] [], ⟨Stp.refl _ _, kp_nil⟩, fun L x h => ⟨hz.held h.1, h.2⟩, ?_⟩
            have hz := Stp.refl I15808 w15815
            refine ⟨?_, trivial⟩
            refine ev_storeA hp (i := 0) (off := 0) (vs := [(.bool x15805.Neg), v15809]) rfl rfl rfl rfl T24 rfl (Nat.le_of_ble_eq_true rfl) (ones_cons rfl (ones_cons r15810.one ones_nil)) ?_
            intro w15816 hp hs
            replace hz := hz.trans hs
            replace a15277 := a15277.step hs
            replace r15265 := r15265.step hs
            replace r15305 := r15305.step hs
            replace r15810 := r15810.step hs
            replace r15804 := r15804.step hs
            refine ⟨SK (Stp I15808 w15816 I15808) [] [], ⟨Stp.refl _ _, kp_nil⟩, fun L x h => ⟨hz.held h.1, h.2⟩, ?_⟩
            have hz := Stp.refl I15808 w15816
            obtain rfl := Option.some.inj q15642
            have hp := hp.perm [3, 2, 1, 0] (by decide)
            exact ⟨(x15799.Neg, x15799.Mag, x15805.Neg, x15805.Mag, g15811, v15803, g15813, v15809, I15808), (.c rfl (.c rfl (.c rfl (.c rfl (.c rfl (.c rfl .n)))))), rfl, hp, r15265, a15277, r15305, r15804, r15810⟩
          refine ⟨?_, trivial⟩
          refine ev_alloc hp rfl T24 ?_
          intro g15817 w15818 hp hs
          replace hz := hz.trans hs
          replace a15277 := a15277.step hs
          replace r15265 := r15265.step hs
          replace r15305 := r15305.step hs
          replace r15804 := r15804.step hs
          replace r15810 := r15810.step hs
          refine ⟨SK (Stp I15808 w15818 I15808) [] [], ⟨Stp.refl _ _, kp_nil⟩, fun L x h => ⟨hz.held h.1, h.2⟩, ?_⟩
          have hz := Stp.refl I15808 w15818
          refine ⟨?_, trivial⟩
          refine ev_alloc hp rfl T24 ?_
          intro g15819 w15820 hp hs
          replace hz := hz.trans hs
          replace a15277 := a15277.step hs
          replace r15265 := r15265.step hs
          replace r15305 := r15305.step hs
          replace r15804 := r15804.step hs
          replace r15810 := r15810.step hs
          refine ⟨SK (Stp I15808 w15820 I15808) [] [], ⟨Stp.refl _ _, kp_nil⟩, fun L x h => ⟨hz.held h.1, h.2⟩, ?_⟩
          have hz := Stp.refl I15808 w15820
          refine ⟨?_, trivial⟩
          refine ev_storeA hp (i := 0) (off := 0) (vs := [(.bool x15799.Neg), v15803]) rfl rfl rfl rfl T24 rfl (Nat.le_of_ble_eq_true rfl) (ones_cons rfl (ones_cons r15804.one ones_nil)) ?_
          intro w15821 hp hs
          replace hz := hz.trans hs
          replace a15277 := a15277.step hs
          replace r15265 := r15265.step hs
          replace r15305 := r15305.step hs
          replace r15810 := r15810.step hs
          replace r15804 := r15804.step hs
          refine ⟨SK (Stp I15808 w15821 I15808) [] [], ⟨Stp.refl _ _, kp_nil⟩, fun L x h => ⟨hz.held h.1, h.2⟩, ?_⟩
          have hz := Stp.refl I15808 w15821
          refine ⟨?_, trivial⟩
          refine ev_storeA hp (i := 1) (off := 0) (vs := [(.bool x15805.Neg), v15809]) rfl rfl rfl rfl T24 rfl (Nat.le_of_ble_eq_true rfl) (ones_cons rfl (ones_cons r15810.one ones_nil)) ?_
          intro w15822 hp hs
          replace hz := hz.trans hs
          replace a15277 := a15277.step hs
          replace r15265 := r15265.step hs
          replace r15305 := r15305.step hs
          replace r15804 := r15804.step hs
          replace r15810 := r15810.step hs
          refine ⟨SK (Stp I15808 w15822 I15808) [] [], ⟨Stp.refl _ _, kp_nil⟩, fun L x h => ⟨hz.held h.1, h.2⟩, ?_⟩
          have hz := Stp.refl I15808 w15822
          obtain rfl := Option.some.inj q15642
          have hp := hp.perm [3, 2, 0, 1] (by decide)
          exact ⟨(x15799.Neg, x15799.Mag, x15805.Neg, x15805.Mag, g15819, v15803, g15817, v15809, I15808), (.c rfl (.c rfl (.c rfl (.c rfl (.c rfl (.c rfl .n)))))), rfl, hp, r15265, a15277, r15305, r15804, r15810⟩
        refine ⟨?_, ?_⟩
        ·
          refine ev_alloc hp rfl T24 ?_
          intro g15823 w15824 hp hs
          replace hz := hz.trans hs
          replace a15277 := a15277.step hs
          replace r15265 := r15265.step hs
          replace r15305 := r15305.step hs
          replace r15316 := r15316.step hs
          replace r15804 := r15804.step hs
          refine ⟨SK (Stp I15802 w15824 I15802) [] [], ⟨Stp.refl _ _, kp_nil⟩, fun L x h => ⟨hz.held h.1, h.2⟩, ?_⟩
          have hz := Stp.refl I15802 w15824
          refine ⟨?_, ?_⟩
          ·
            obtain ⟨x15825, q15826, q15642⟩ := bind_some q15642
            refine ev_call rfl rfl C49 (((integer_made_ok n) _ _  x15260.Neg x15309 v15315 r15316 hp.imm _ q15826).mono ?_)
            rintro _ w15827 ⟨I15828, v15829, hv, hq, r15830⟩
            replace hv := hv.symm
            subst hv
            have hs := hq.st
            have hp := hp.join0 hq
            replace hz := hz.trans hs
            replace a15277 := a15277.step hs
            replace r15265 := r15265.step hs
            replace r15305 := r15305.step hs
            replace r15804 := r15804.step hs
            refine ⟨SK (Stp I15828 w15827 I15828) [] [], ⟨Stp.refl _ _, kp_nil⟩, fun L x h => ⟨hz.held h.1, h.2⟩, ?_⟩
            have hz := Stp.refl I15828 w15827
            refine ⟨?_, trivial⟩
            refine ev_alloc hp rfl T24 ?_
            intro g15831 w15832 hp hs
            replace hz := hz.trans hs
            replace a15277 := a15277.step hs
            replace r15265 := r15265.step hs
            replace r15305 := r15305.step hs
            replace r15804 := r15804.step hs
            replace r15830 := r15830.step hs
            refine ⟨SK (Stp I15828 w15832 I15828) [] [], ⟨Stp.refl _ _, kp_nil⟩, fun L x h => ⟨hz.held h.1, h.2⟩, ?_⟩
            have hz := Stp.refl I15828 w15832
            refine ⟨?_, trivial⟩
            refine ev_storeA hp (i := 1) (off := 0) (vs := [(.bool x15799.Neg), v15803]) rfl rfl rfl rfl T24 rfl (Nat.le_of_ble_eq_true rfl) (ones_cons rfl (ones_cons r15804.one ones_nil)) ?_
            intro w15833 hp hs
            replace hz := hz.trans hs
            replace a15277 := a15277.step hs
            replace r15265 := r15265.step hs
            replace r15305 := r15305.step hs
            replace r15830 := r15830.step hs
            replace r15804 := r15804.step hs
            refine ⟨SK (Stp I15828 w15833 I15828) [] [], ⟨Stp.refl _ _, kp_nil⟩, fun L x h => ⟨hz.held h.1, h.2⟩, ?_⟩
            have hz := Stp.refl I15828 w15833
            refine ⟨?_, trivial⟩
            refine ev_storeA hp (i := 0) (off := 0) (vs := [(.bool x15825.Neg), v15829]) rfl rfl rfl rfl T24 rfl (Nat.le_of_ble_eq_true rfl) (ones_cons rfl (ones_cons r15830.one ones_nil)) ?_
            intro w15834 hp hs
            replace hz := hz.trans hs
            replace a15277 := a15277.step hs
            replace r15265 := r15265.step hs
            replace r15305 := r15305.step hs
            replace r15830 := r15830.step hs
            replace r15804 := r15804.step hs
            refine ⟨SK (Stp I15828 w15834 I15828) [] [], ⟨Stp.refl _ _, kp_nil⟩, fun L x h => ⟨hz.held h.1, h.2⟩, ?_⟩
            have hz := Stp.refl I15828 w15834
            obtain rfl := Option.some.inj q15642
            have hp := hp.perm [3, 2, 1, 0] (by decide)
            exact ⟨(x15799.Neg, x15799.Mag, x15825.Neg, x15825.Mag, g15823, v15803, g15831, v15829, I15828), (.c rfl (.c rfl (.c rfl (.c rfl (.c rfl (.c rfl .n)))))), rfl, hp, r15265, a15277, r15305, r15804, r15830⟩
          refine ⟨?_, trivial⟩
          refine ev_alloc hp rfl T24 ?_
          intro g15835 w15836 hp hs
          replace hz := hz.trans hs
          replace a15277 := a15277.step hs
          replace r15265 := r15265.step hs
          replace r15305 := r15305.step hs
          replace r15316 := r15316.step hs
          replace r15804 := r15804.step hs
          refine ⟨SK (Stp I15802 w15836 I15802) [] [], ⟨Stp.refl _ _, kp_nil⟩, fun L x h => ⟨hz.held h.1, h.2⟩, ?_⟩
          have hz := Stp.refl I15802 w15836
          refine ⟨?_, trivial⟩
          obtain ⟨x15837, q15838, q15642⟩ := bind_some q15642
          refine ev_call rfl rfl C49 (((integer_made_ok n) _ _  x15260.Neg x15309 v15315 r15316 hp.imm _ q15838).mono ?_)
          rintro _ w15839 ⟨I15840, v15841, hv, hq, r15842⟩
          replace hv := hv.symm
          subst hv
          have hs := hq.st
          have hp := hp.join0 hq
          replace hz := hz.trans hs
          replace a15277 := a15277.step hs
          replace r15265 := r15265.step hs
          replace r15305 := r15305.step hs
          replace r15804 := r15804.step hs
          refine ⟨SK (Stp I15840 w15839 I15840) [] [], ⟨Stp.refl _ _, kp_nil⟩, fun L x h => ⟨hz.held h.1, h.2⟩, ?_⟩
          have hz := Stp.refl I15840 w15839
          refine ⟨?_, trivial⟩
          refine ev_storeA hp (i := 1) (off := 0) (vs := [(.bool x15799.Neg), v15803]) rfl rfl rfl rfl T24 rfl (Nat.le_of_ble_eq_true rfl) (ones_cons rfl (ones_cons r15804.one ones_nil)) ?_
          intro w15843 hp hs
          replace hz := hz.trans hs
          replace a15277 := a15277.step hs
          replace r15265 := r15265.step hs
          replace r15305 := r15305.step hs
          replace r15842 := r15842.step hs
          replace r15804 := r15804.step hs
          refine ⟨SK (Stp I15840 w15843 I15840) [] [], ⟨Stp.refl _ _, kp_nil⟩, fun L x h => ⟨hz.held h.1, h.2⟩, ?_⟩
          have hz := Stp.refl I15840 w15843
          refine ⟨?_, trivial⟩
          refine ev_storeA hp (i := 0) (off := 0) (vs := [(.bool x15837.Neg), v15841]) rfl rfl rfl rfl T24 rfl (Nat.le_of_ble_eq_true rfl) (ones_cons rfl (ones_cons r15842.one ones_nil)) ?_
          intro w15844 hp hs
          replace hz := hz.trans hs
          replace a15277 := a15277.step hs
          replace r15265 := r15265.step hs
          replace r15305 := r15305.step hs
          replace r15842 := r15842.step hs
          replace r15804 := r15804.step hs
          refine ⟨SK (Stp I15840 w15844 I15840) [] [], ⟨Stp.refl _ _, kp_nil⟩, fun L x h => ⟨hz.held h.1, h.2⟩, ?_⟩
          have hz := Stp.refl I15840 w15844
          obtain rfl := Option.some.inj q15642
          have hp := hp.perm [3, 2, 1, 0] (by decide)
          exact ⟨(x15799.Neg, x15799.Mag, x15837.Neg, x15837.Mag, g15823, v15803, g15835, v15841, I15840), (.c rfl (.c rfl (.c rfl (.c rfl (.c rfl (.c rfl .n)))))), rfl, hp, r15265, a15277, r15305, r15804, r15842⟩
        refine ⟨?_, trivial⟩
        refine ev_alloc hp rfl T24 ?_
        intro g15845 w15846 hp hs
        replace hz := hz.trans hs
        replace a15277 := a15277.step hs
        replace r15265 := r15265.step hs
        replace r15305 := r15305.step hs
        replace r15316 := r15316.step hs
        replace r15804 := r15804.step hs
        refine ⟨SK (Stp I15802 w15846 I15802) [] [], ⟨Stp.refl _ _, kp_nil⟩, fun L x h => ⟨hz.held h.1, h.2⟩, ?_⟩
        have hz := Stp.refl I15802 w15846
        refine ⟨?_, ?_⟩
        ·
          obtain ⟨x15847, q15848, q15642⟩ := bind_some q15642
          refine ev_call rfl rfl C49 (((integer_made_ok n) _ _  x15260.Neg x15309 v15315 r15316 hp.imm _ q15848).mono ?_)
          rintro _ w15849 ⟨I15850, v15851, hv, hq, r15852⟩
          replace hv := hv.symm
          subst hv
          have hs := hq.st
          have hp := hp.join0 hq
          replace hz := hz.trans hs
          replace a15277 := a15277.step hs
          replace r15265 := r15265.step hs
          replace r15305 := r15305.step hs
          replace r15804 := r15804.step hs
          refine ⟨SK (Stp I15850 w15849 I15850) [] [], ⟨Stp.refl _ _, kp_nil⟩, fun L x h => ⟨hz.held h.1, h.2⟩, ?_⟩
          have hz := Stp.refl I15850 w15849
          refine ⟨?_, trivial⟩
          refine ev_alloc hp rfl T24 ?_
          intro g15853 w15854 hp hs
          replace hz := hz.trans hs
          replace a15277 := a15277.step hs
          replace r15265 := r15265.step hs
          replace r15305 := r15305.step hs
          replace r15804 := r15804.step hs
          replace r15852 := r15852.step hs
          refine ⟨SK (Stp I15850 w15854 I15850) [] [], ⟨Stp.refl _ _, kp_nil⟩, fun L x h => ⟨hz.held h.1, h.2⟩, ?_⟩
          have hz := Stp.refl I15850 w15854
          refine ⟨?_, trivial⟩
          refine ev_storeA hp (i := 0) (off := 0) (vs := [(.bool x15799.Neg), v15803]) rfl rfl rfl rfl T24 rfl (Nat.le_of_ble_eq_true rfl) (ones_cons rfl (ones_cons r15804.one ones_nil)) ?_
          intro w15855 hp hs
          replace hz := hz.trans hs
          replace a15277 := a15277.step hs
          replace r15265 := r15265.step hs
          replace r15305 := r15305.step hs
          replace r15852 := r15852.step hs
          replace r15804 := r15804.step hs
          refine ⟨SK (Stp I15850 w15855 I15850) [] [], ⟨Stp.refl _ _, kp_nil⟩, fun L x h => ⟨hz.held h.1, h.2⟩, ?_⟩
          have hz := Stp.refl I15850 w15855
          refine ⟨?_, trivial⟩
          refine ev_storeA hp (i := 1) (off := 0) (vs := [(.bool x15847.Neg), v15851]) rfl rfl rfl rfl T24 rfl (Nat.le_of_ble_eq_true rfl) (ones_cons rfl (ones_cons r15852.one ones_nil)) ?_
          intro w15856 hp hs
          replace hz := hz.trans hs
          replace a15277 := a15277.step hs
          replace r15265 := r15265.step hs
          replace r15305 := r15305.step hs
          replace r15804 := r15804.step hs
          replace r15852 := r15852.step hs
          refine ⟨SK (Stp I15850 w15856 I15850) [] [], ⟨Stp.refl _ _, kp_nil⟩, fun L x h => ⟨hz.held h.1, h.2⟩, ?_⟩
          have hz := Stp.refl I15850 w15856
          obtain rfl := Option.some.inj q15642
          have hp := hp.perm [3, 2, 0, 1] (by decide)
          exact ⟨(x15799.Neg, x15799.Mag, x15847.Neg, x15847.Mag, g15853, v15803, g15845, v15851, I15850), (.c rfl (.c rfl (.c rfl (.c rfl (.c rfl (.c rfl .n)))))), rfl, hp, r15265, a15277, r15305, r15804, r15852⟩
        refine ⟨?_, trivial⟩
        refine ev_alloc hp rfl T24 ?_
        intro g15857 w15858 hp hs
        replace hz := hz.trans hs
        replace a15277 := a15277.step hs
        replace r15265 := r15265.step hs
        replace r15305 := r15305.step hs
        replace r15316 := r15316.step hs
        replace r15804 := r15804.step hs
        refine ⟨SK (Stp I15802 w15858 I15802) [] [], ⟨Stp.refl _ _, kp_nil⟩, fun L x h => ⟨hz.held h.1, h.2⟩, ?_⟩
        have hz := Stp.refl I15802 w15858
        refine ⟨?_, trivial⟩
        obtain ⟨x15859, q15860, q15642⟩ := bind_some q15642
        refine ev_call rfl rfl C49 (((integer_made_ok n) _ _  x15260.Neg x15309 v15315 r15316 hp.imm _ q15860).mono ?_)
        rintro _ w15861 ⟨I15862, v15863, hv, hq, r15864⟩
        replace hv := hv.symm
        subst hv
        have hs := hq.st
        have hp := hp.join0 hq
        replace hz := hz.trans hs
        replace a15277 := a15277.step hs
        replace r15265 := r15265.step hs
        replace r15305 := r15305.step hs
        replace r15804 := r15804.step hs
        refine ⟨SK (Stp I15862 w15861 I15862) [] [], ⟨Stp.refl _ _, kp_nil⟩, fun L x h => ⟨hz.held h.1, h.2⟩, ?_⟩
        have hz := Stp.refl I15862 w15861
        refine ⟨?_, trivial⟩
        refine ev_storeA hp (i := 0) (off := 0) (vs := [(.bool x15799.Neg), v15803]) rfl rfl rfl rfl T24 rfl (Nat.le_of_ble_eq_true rfl) (ones_cons rfl (ones_cons r15804.one ones_nil)) ?_
        intro w15865 hp hs
        replace hz := hz.trans hs
        replace a15277 := a15277.step hs
        replace r15265 := r15265.step hs
        replace r15305 := r15305.step hs
        replace r15864 := r15864.step hs
        replace r15804 := r15804.step hs
        refine ⟨SK (Stp I15862 w15865 I15862) [] [], ⟨Stp.refl _ _, kp_nil⟩, fun L x h => ⟨hz.held h.1, h.2⟩, ?_⟩
        have hz := Stp.refl I15862 w15865
        refine ⟨?_, trivial⟩
        refine ev_storeA hp (i := 1) (off := 0) (vs := [(.bool x15859.Neg), v15863]) rfl rfl rfl rfl T24 rfl (Nat.le_of_ble_eq_true rfl) (ones_cons rfl (ones_cons r15864.one ones_nil)) ?_
        intro w15866 hp hs
        replace hz := hz.trans hs
        replace a15277 := a15277.step hs
        replace r15265 := r15265.step hs
        replace r15305 := r15305.step hs
        replace r15804 := r15804.step hs
        replace r15864 := r15864.step hs
        refine ⟨SK (Stp I15862 w15866 I15862) [] [], ⟨Stp.refl _ _, kp_nil⟩, fun L x h => ⟨hz.held h.1, h.2⟩, ?_⟩
        have hz := Stp.refl I15862 w15866
        obtain rfl := Option.some.inj q15642
        have hp := hp.perm [3, 2, 0, 1] (by decide)
        exact ⟨(x15799.Neg, x15799.Mag, x15859.Neg, x15859.Mag, g15857, v15803, g15845, v15863, I15862), (.c rfl (.c rfl (.c rfl (.c rfl (.c rfl (.c rfl .n)))))), rfl, hp, r15265, a15277, r15305, r15804, r15864⟩
      refine ⟨?_, ?_⟩
      ·
        refine ev_alloc hp rfl T24 ?_
        intro g15867 w15868 hp hs
        replace hz := hz.trans hs
        replace a15277 := a15277.step hs
        replace r15265 := r15265.step hs
        replace r15305 := r15305.step hs
        replace r15314 := r15314.step hs
        replace r15316 := r15316.step hs
        refine ⟨SK (Stp I15312 w15868 I15312) [] [], ⟨Stp.refl _ _, kp_nil⟩, fun L x h => ⟨hz.held h.1, h.2⟩, ?_⟩
        have hz := Stp.refl I15312 w15868
        refine ⟨?_, ?_⟩
        ·
          obtain ⟨x15869, q15870, q15642⟩ := bind_some q15642
          refine ev_call rfl rfl C49 (((integer_made_ok n) _ _  (!(x15260.Neg == x15263.Neg)) x15308 v15313 r15314 hp.imm _ q15870).mono ?_)
          rintro _ w15871 ⟨I15872, v15873, hv, hq, r15874⟩
          replace hv := hv.symm
          subst hv
          have hs := hq.st
          have hp := hp.join0 hq
          replace hz := hz.trans hs
          replace a15277 := a15277.step hs
          replace r15265 := r15265.step hs
          replace r15305 := r15305.step hs
          replace r15316 := r15316.step hs
          refine ⟨SK (Stp I15872 w15871 I15872) [] [], ⟨Stp.refl _ _, kp_nil⟩, fun L x h => ⟨hz.held h.1, h.2⟩, ?_⟩
          have hz := Stp.refl I15872 w15871
          refine ⟨?_, ?_⟩
          ·
            obtain ⟨x15875, q15876, q15642⟩ := bind_some q15642
            refine ev_call rfl rfl C49 (((integer_made_ok n) _ _  x15260.Neg x15309 v15315 r15316 hp.imm _ q15876).mono ?_)
            rintro _ w15877 ⟨I15878, v15879, hv, hq, r15880⟩
            replace hv := hv.symm
            subst hv
            have hs := hq.st
            have hp := hp.join0 hq
            replace hz := hz.trans hs
            replace a15277 := a15277.step hs
            replace r15265 := r15265.step hs
            replace r15305 := r15305.step hs
            replace r15874 := r15874.step hs
            refine ⟨SK (Stp I15878 w15877 I15878) [] [], ⟨Stp.refl _ _, kp_nil⟩, fun L x h => ⟨hz.held h.1, h.2⟩, ?_⟩
            have hz := Stp.refl I15878 w15877
            refine ⟨?_, trivial⟩
            refine ev_alloc hp rfl T24 ?_
            intro g15881 w15882 hp hs
            replace hz := hz.trans hs
            replace a15277 := a15277.step hs
            replace r15265 := r15265.step hs
            replace r15305 := r15305.step hs
            replace r15874 := r15874.step hs
            replace r15880 := r15880.step hs
            refine ⟨SK (Stp I15878 w15882 I15878) [] [], ⟨Stp.refl _ _, kp_nil⟩, fun L x h => ⟨hz.held h.1, h.2⟩, ?_⟩
            have hz := Stp.refl I15878 w15882
            refine ⟨?_, trivial⟩
            refine ev_storeA hp (i := 1) (off := 0) (vs := [(.bool x15869.Neg), v15873]) rfl rfl rfl rfl T24 rfl (Nat.le_of_ble_eq_true rfl) (ones_cons rfl (ones_cons r15874.one ones_nil)) ?_
            intro w15883 hp hs
            replace hz := hz.trans hs
            replace a15277 := a15277.step hs
            replace r15265 := r15265.step hs
            replace r15305 := r15305.step hs
            replace r15880 := r15880.step hs
            replace r15874 := r15874.step hs
            refine ⟨SK (Stp I15878 w15883 I15878) [] [], ⟨Stp.refl _ _, kp_nil⟩, fun L x h => ⟨hz.held h.1, h.2⟩, ?_⟩
            have hz := Stp.refl I15878 w15883
            refine ⟨?_, trivial⟩
            refine ev_storeA hp (i := 0) (off := 0) (vs := [(.bool x15875.Neg), v15879]) rfl rfl rfl rfl T24 rfl (Nat.le_of_ble_eq_true rfl) (ones_cons rfl (ones_cons r15880.one ones_nil)) ?_
            intro w15884 hp hs
            replace hz := hz.trans hs
            replace a15277 := a15277.step hs
            replace r15265 := r15265.step hs
            replace r15305 := r15305.step hs
            replace r15880 := r15880.step hs
            replace r15874 := r15874.step hs
            refine ⟨SK (Stp I15878 w15884 I15878) [] [], ⟨Stp.refl _ _, kp_nil⟩, fun L x h => ⟨hz.held h.1, h.2⟩, ?_⟩
            have hz := Stp.refl I15878 w15884
            obtain rfl := Option.some.inj q15642
            have hp := hp.perm [3, 2, 1, 0] (by decide)
            exact ⟨(x15869.Neg, x15869.Mag, x15875.Neg, x15875.Mag, g15867, v15873, g15881, v15879, I15878), (.c rfl (.c rfl (.c rfl (.c rfl (.c rfl (.c rfl .n)))))), rfl, hp, r15265, a15277, r15305, r15874, r15880⟩
          refine ⟨?_, trivial⟩
          refine ev_alloc hp rfl T24 ?_
          intro g15885 w15886 hp hs
          replace hz := hz.trans hs
          replace a15277 := a15277.step hs
          replace r15265 := r15265.step hs
          replace r15305 := r15305.step hs
          replace r15316 := r15316.step hs
          replace r15874 := r15874.step hs
          refine ⟨SK (Stp I15872 w15886 I15872) [] [], ⟨Stp.refl _ _, kp_nil⟩, fun L x h => ⟨hz.held h.1, h.2⟩, ?_⟩
          have hz := Stp.refl I15872 w15886
          refine ⟨?_, trivial⟩
          obtain ⟨x15887, q15888, q15642⟩ := bind_some q15642
          refine ev_call rfl rfl C49 (((integer_made_ok n) _ _  x15260.Neg x15309 v15315 r15316 hp.imm _ q15888).mono ?_)
          rintro _ w15889 ⟨I15890, v15891, hv, hq, r15892⟩
          replace hv := hv.symm
          subst hv
          have hs := hq.st
          have hp := hp.join0 hq
          replace hz := hz.trans hs
          replace a15277 := a15277.step hs
          replace r15265 := r15265.step hs
          replace r15305 := r15305.step hs
          replace r15874 := r15874.step hs
          refine ⟨SK (Stp I15890 w15889 I15890) [] [], ⟨Stp.refl _ _, kp_nil⟩, fun L x h => ⟨hz.held h.1, h.2⟩, ?_⟩
          have hz := Stp.refl I15890 w15889
          refine ⟨?_, trivial⟩
          refine ev_storeA hp (i := 1) (off := 0) (vs := [(.bool x15869.Neg), v15873]) rfl rfl rfl rfl T24 rfl (Nat.le_of_ble_eq_true rfl) (ones_cons rfl (ones_cons r15874.one ones_nil)) ?_
          intro w15893 hp hs
          replace hz := hz.trans hs
          replace a15277 := a15277.step hs
          replace r15265 := r15265.step hs
          replace r15305 := r15305.step hs
          replace r15892 := r15892.step hs
          replace r15874 := r15874.step hs
          refine ⟨SK (Stp I15890 w15893 I15890) [] [], ⟨Stp.refl _ _, kp_nil⟩, fun L x h => ⟨hz.held h.1, h.2⟩, ?_⟩
          have hz := Stp.refl I15890 w15893
          refine ⟨?_, trivial⟩
          refine ev_storeA hp (i := 0) (off := 0) (vs := [(.bool x15887.Neg), v15891]) rfl rfl rfl rfl T24 rfl (Nat.le_of_ble_eq_true rfl) (ones_cons rfl (ones_cons r15892.one ones_nil)) ?_
          intro w15894 hp hs
          replace hz := hz.trans hs
          replace a15277 := a15277.step hs
          replace r15265 := r15265.step hs
          replace r15305 := r15305.step hs
          replace r15892 := r15892.step hs
          replace r15874 := r15874.step hs
          refine ⟨SK (Stp I15890 w15894 I15890) [] [], ⟨Stp.refl _ _, kp_nil⟩, fun L x h => ⟨hz.held h.1, h.2⟩, ?_⟩
          have hz := Stp.refl I15890 w15894
          obtain rfl := Option.some.inj q15642
          have hp := hp.perm [3, 2, 1, 0] (by decide)
          exact ⟨(x15869.Neg, x15869.Mag, x15887.Neg, x15887.Mag, g15867, v15873, g15885, v15891, I15890), (.c rfl (.c rfl (.c rfl (.c rfl (.c rfl (.c rfl .n)))))), rfl, hp, r15265, a15277, r15305, r15874, r15892⟩
        refine ⟨?_, trivial⟩
        refine ev_alloc hp rfl T24 ?_
        intro g15895 w15896 hp hs
        replace hz := hz.trans hs
        replace a15277 := a15277.step hs
        replace r15265 := r15265.step hs
        replace r15305 := r15305.step hs
        replace r15314 := r15314.step hs
        replace r15316 := r15316.step hs
        refine ⟨SK (Stp I15312 w15896 I15312) [] [], ⟨Stp.refl _ _, kp_nil⟩, fun L x h => ⟨hz.held h.1, h.2⟩, ?_⟩
        have hz := Stp.refl I15312 w15896
        refine ⟨?_, trivial⟩
        obtain ⟨x15897, q15898, q15642⟩ := bind_some q15642
        refine ev_call rfl rfl C49 (((integer_made_ok n) _ _  (!(x15260.Neg == x15263.Neg)) x15308 v15313 r15314 hp.imm _ q15898).mono ?_)
        rintro _ w15899 ⟨I15900, v15901, hv, hq, r15902⟩
        replace hv := hv.symm
        subst hv
        have hs := hq.st
        have hp := hp.join0 hq
        replace hz := hz.trans hs
        replace a15277 := a15277.step hs
        replace r15265 := r15265.step hs
        replace r15305 := r15305.step hs
        replace r15316 := r15316.step hs
        refine ⟨SK (Stp I15900 w15899 I15900) [] [], ⟨Stp.refl _ _, kp_nil⟩, fun L x h => ⟨hz.held h.1, h.2⟩, ?_⟩
        have hz := Stp.refl I15900 w15899
        refine ⟨?_, trivial⟩
        obtain ⟨x15903, q15904, q15642⟩ := bind_some q15642
        refine ev_call rfl rfl C49 (((integer_made_ok n) _ _  x15260.Neg x15309 v15315 r15316 hp.imm _ q15904).mono ?_)
        rintro _ w15905 ⟨I15906, v15907, hv, hq, r15908⟩
        replace hv := hv.symm
        subst hv
        have hs := hq.st
        have hp := hp.join0 hq
        replace hz := hz.trans hs
        replace a15277 := a15277.step hs
        replace r15265 := r15265.step hs
        replace r15305 := r15305.step hs
        replace r15902 := r15902.step hs
        refine ⟨SK (Stp I15906 w15905 I15906) [] [], ⟨Stp.refl _ _, kp_nil⟩, fun L x h => ⟨hz.held h.1, h.2⟩, ?_⟩
        have hz := Stp.refl I15906 w15905
        refine ⟨?_, trivial⟩
        refine ev_storeA hp (i := 1) (off := 0) (vs := [(.bool x15897.Neg), v15901]) rfl rfl rfl rfl T24 rfl (Nat.le_of_ble_eq_true rfl) (ones_cons rfl (ones_cons r15902.one ones_nil)) ?_
        intro w15909 hp hs
        replace hz := hz.trans hs
        replace a15277 := a15277.step hs
        replace r15265 := r15265.step hs
        replace r15305 := r15305.step hs
        replace r15908 := r15908.step hs
        replace r15902 := r15902.step hs
        refine ⟨SK (Stp I15906 w15909 I15906) [] [], ⟨Stp.refl _ _, kp_nil⟩, fun L x h => ⟨hz.held h.1, h.2⟩, ?_⟩
        have hz := Stp.refl I15906 w15909
        refine ⟨?_, trivial⟩
        refine ev_storeA hp (i := 0) (off := 0) (vs := [(.bool x15903.Neg), v15907]) rfl rfl rfl rfl T24 rfl (Nat.le_of_ble_eq_true rfl) (ones_cons rfl (ones_cons r15908.one ones_nil)) ?_
        intro w15910 hp hs
        replace hz := hz.trans hs
        replace a15277 := a15277.step hs
        replace r15265 := r15265.step hs
        replace r15305 := r15305.step hs
        replace r15908 := r15908.step hs
        replace r15902 := r15902.step hs
        refine ⟨SK (Stp I15906 w15910 I15906) [] [], ⟨Stp.refl _ _, kp_nil⟩, fun L x h => ⟨hz.held h.1, h.2⟩, ?_⟩
        have hz := Stp.refl I15906 w15910
        obtain rfl := Option.some.inj q15642
        have hp := hp.perm [3, 2, 1, 0] (by decide)
        exact ⟨(x15897.Neg, x15897.Mag, x15903.Neg, x15903.Mag, g15867, v15901, g15895, v15907, I15906), (.c rfl (.c rfl (.c rfl (.c rfl (.c rfl (.c rfl .n)))))), rfl, hp, r15265, a15277, r15305, r15902, r15908⟩
      refine ⟨?_, trivial⟩
      refine ev_alloc hp rfl T24 ?_
      intro g15911 w15912 hp hs
      replace hz := hz.trans hs
      replace a15277 := a15277.step hs
      replace r15265 := r15265.step hs
      replace r15305 := r15305.step hs
      replace r15314 := r15314.step hs
      replace r15316 := r15316.step hs
      refine ⟨SK (Stp I15312 w15912 I15312) [] [], ⟨Stp.refl _ _, kp_nil⟩, fun L x h => ⟨hz.held h.1, h.2⟩, ?_⟩
      have hz := Stp.refl I15312 w15912
      refine ⟨?_, ?_⟩
      ·
        obtain ⟨x15913, q15914, q15642⟩ := bind_some q15642
        refine ev_call rfl rfl C49 (((integer_made_ok n) _ _  (!(x15260.Neg == x15263.Neg)) x15308 v15313 r15314 hp.imm _ q15914).mono ?_)
        rintro _ w15915 ⟨I15916, v15917, hv, hq, r15918⟩
        replace hv := hv.symm
        subst hv
        have hs := hq.st
        have hp := hp.join0 hq
        replace hz := hz.trans hs
        replace a15277 := a15277.step hs
        replace r15265 := r15265.step hs
        replace r15305 := r15305.step hs
        replace r15316 := r15316.step hs
        refine ⟨SK (Stp I15916 w15915 I15916) [] [], ⟨Stp.refl _ _, kp_nil⟩, fun L x h => ⟨hz.held h.1, h.2⟩, ?_⟩
        have hz := Stp.refl I15916 w15915
        refine ⟨?_, ?_⟩
        ·
          obtain ⟨x15919, q15920, q15642⟩ := bind_some q15642
          refine ev_call rfl rfl C49 (((integer_made_ok n) _ _  x15260.Neg x15309 v15315 r15316 hp.imm _ q15920).mono ?_)
          rintro _ w15921 ⟨I15922, v15923, hv, hq, r15924⟩
          replace hv := hv.symm
          subst hv
          have hs := hq.st
          have hp := hp.join0 hq
          replace hz := hz.trans hs
          replace a15277 := a15277.step hs
          replace r15265 := r15265.step hs
          replace r15305 := r15305.step hs
          replace r15918 := r15918.step hs
          refine ⟨SK (Stp I15922 w15921 I15922) [] [], ⟨Stp.refl _ _, kp_nil⟩, fun L x h => ⟨hz.held h.1, h.2⟩, ?_⟩
          have hz := Stp.refl I15922 w15921
          refine ⟨?_, trivial⟩
          refine ev_alloc hp rfl T24 ?_
          intro g15925 w15926 hp hs
          replace hz := hz.trans hs
          replace a15277 := a15277.step hs
          replace r15265 := r15265.step hs
          replace r15305 := r15305.step hs
          replace r15918 := r15918.step hs
          replace r15924 := r15924.step hs
          refine ⟨SK (Stp I15922 w15926 I15922) [] [], ⟨Stp.refl _ _, kp_nil⟩, fun L x h => ⟨hz.held h.1, h.2⟩, ?_⟩
          have hz := Stp.refl I15922 w15926
          refine ⟨?_, trivial⟩
          refine ev_storeA hp (i := 0) (off := 0) (vs := [(.bool x15913.Neg), v15917]) rfl rfl rfl rfl T24 rfl (Nat.le_of_ble_eq_true rfl) (ones_cons rfl (ones_cons r15918.one ones_nil)) ?_
          intro w15927 hp hs
          replace hz := hz.trans hs
          replace a15277 := a15277.step hs
          replace r15265 := r15265.step hs
          replace r15305 := r15305.step hs
          replace r15924 := r15924.step hs
          replace r15918 := r15918.step hs
          refine ⟨SK (Stp I15922 w15927 I15922) [] [], ⟨Stp.refl _ _, kp_nil⟩, fun L x h => ⟨hz.held h.1, h.2⟩, ?_⟩
          have hz := Stp.refl I15922 w15927
          refine ⟨?_, trivial⟩
          refine ev_storeA hp (i := 1) (off := 0) (vs := [(.bool x15919.Neg), v15923]) rfl rfl rfl rfl T24 rfl (Nat.le_of_ble_eq_true rfl) (ones_cons rfl (ones_cons r15924.one ones_nil)) ?_
          intro w15928 hp hs
          replace hz := hz.trans hs
          replace a15277 := a15277.step hs
          replace r15265 := r15265.step hs
          replace r15305 := r15305.step hs
          replace r15918 := r15918.step hs
          replace r15924 := r15924.step hs
          refine ⟨SK (Stp I15922 w15928 I15922) [] [], ⟨Stp.refl _ _, kp_nil⟩, fun L x h => ⟨hz.held h.1, h.2⟩, ?_⟩
          have hz := Stp.refl I15922 w15928
          obtain rfl := Option.some.inj q15642
          have hp := hp.perm [3, 2, 0, 1] (by decide)
          exact ⟨(x15913.Neg, x15913.Mag, x15919.Neg, x15919.Mag, g15925, v15917, g15911, v15923, I15922), (.c rfl (.c rfl (.c rfl (.c rfl (.c rfl (.c rfl .n)))))), rfl, hp, r15265, a15277, r15305, r15918, r15924⟩
        refine ⟨?_, trivial⟩
        refine ev_alloc hp rfl T24 ?_
        intro g15929 w15930 hp hs
        replace hz := hz.trans hs
        replace a15277 := a15277.step hs
        replace r15265 := r15265.step hs
        replace r15305 := r15305.step hs
        replace r15316 := r15316.step hs
        replace r15918 := r15918.step hs
        refine ⟨SK (Stp I15916 w15930 I15916) [] [], ⟨Stp.refl _ _, kp_nil⟩, fun L x h => ⟨hz.held h.1, h.2⟩, ?_⟩
        have hz := Stp.refl I15916 w15930
        refine ⟨?_, trivial⟩
        obtain ⟨x15931, q15932, q15642⟩ := bind_some q15642
        refine ev_call rfl rfl C49 (((integer_made_ok n) _ _  x15260.Neg x15309 v15315 r15316 hp.imm _ q15932).mono ?_)
        rintro _ w15933 ⟨I15934, v15935, hv, hq, r15936⟩
        replace hv := hv.symm
        subst hv
        have hs := hq.st
        have hp := hp.join0 hq
        replace hz := hz.trans hs
        replace a15277 := a15277.step hs
        replace r15265 := r15265.step hs
        replace r15305 := r15305.step hs
        replace r15918 := r15918.step hs
        refine ⟨SK (Stp I15934 w15933 I15934) [] [], ⟨Stp.refl _ _, kp_nil⟩, fun L x h => ⟨hz.held h.1, h.2⟩, ?_⟩
        have hz := Stp.refl I15934 w15933
        refine ⟨?_, trivial⟩
        refine ev_storeA hp (i := 0) (off := 0) (vs := [(.bool x15913.Neg), v15917]) rfl rfl rfl rfl T24 rfl (Nat.le_of_ble_eq_true rfl) (ones_cons rfl (ones_cons r15918.one ones_nil)) ?_
        intro w15937 hp hs
        replace hz := hz.trans hs
        replace a15277 := a15277.step hs
        replace r15265 := r15265.step hs
        replace r15305 := r15305.step hs
        replace r15936 := r15936.step hs
        replace r15918 := r15918.step hs
        refine ⟨SK (Stp I15934 w15937 I15934) [] [], ⟨Stp.refl _ _, kp_nil⟩, fun L x h => ⟨hz.held h.1, h.2⟩, ?_⟩
        have hz := Stp.refl I15934 w15937
        refine ⟨?_, trivial⟩
        refine ev_storeA hp (i := 1) (off := 0) (vs := [(.bool x15931.Neg), v15935]) rfl rfl rfl rfl T24 rfl (Nat.le_of_ble_eq_true rfl) (ones_cons rfl (ones_cons r15936.one ones_nil)) ?_
        intro w15938 hp hs
        replace hz := hz.trans hs
        replace a15277 := a15277.step hs
        replace r15265 := r15265.step hs
        replace r15305 := r15305.step hs
        replace r15918 := r15918.step hs
        replace r15936 := r15936.step hs
        refine ⟨SK (Stp I15934 w15938 I15934) [] [], ⟨Stp.refl _ _, kp_nil⟩, fun L x h => ⟨hz.held h.1, h.2⟩, ?_⟩
        have hz := Stp.refl I15934 w15938
        obtain rfl := Option.some.inj q15642
        have hp := hp.perm [3, 2, 0, 1] (by decide)
        exact ⟨(x15913.Neg, x15913.Mag, x15931.Neg, x15931.Mag, g15929, v15917, g15911, v15935, I15934), (.c rfl (.c rfl (.c rfl (.c rfl (.c rfl (.c rfl .n)))))), rfl, hp, r15265, a15277, r15305, r15918, r15936⟩
      refine ⟨?_, trivial⟩
      refine ev_alloc hp rfl T24 ?_
      intro g15939 w15940 hp hs
      replace hz := hz.trans hs
      replace a15277 := a15277.step hs
      replace r15265 := r15265.step hs
      replace r15305 := r15305.step hs
      replace r15314 := r15314.step hs
      replace r15316 := r15316.step hs
      refine ⟨SK (Stp I15312 w15940 I15312) [] [], ⟨Stp.refl _ _, kp_nil⟩, fun L x h => ⟨hz.held h.1, h.2⟩, ?_⟩
      have hz := Stp.refl I15312 w15940
      refine ⟨?_, trivial⟩
      obtain ⟨x15941, q15942, q15642⟩ := bind_some q15642
      refine ev_call rfl rfl C49 (((integer_made_ok n) _ _  (!(x15260.Neg == x15263.Neg)) x15308 v15313 r15314 hp.imm _ q15942).mono ?_)
      rintro _ w15943 ⟨I15944, v15945, hv, hq, r15946⟩
      replace hv := hv.symm
      subst hv
      have hs := hq.st
      have hp := hp.join0 hq
      replace hz := hz.trans hs
      replace a15277 := a15277.step hs
      replace r15265 := r15265.step hs
      replace r15305 := r15305.step hs
      replace r15316 := r15316.step hs
      refine ⟨SK (Stp I15944 w15943 I15944) [] [], ⟨Stp.refl _ _, kp_nil⟩, fun L x h => ⟨hz.held h.1, h.2⟩, ?_⟩
      have hz := Stp.refl I15944 w15943
      refine ⟨?_, trivial⟩
      obtain ⟨x15947, q15948, q15642⟩ := bind_some q15642
      refine ev_call rfl rfl C49 (((integer_made_ok n) _ _  x15260.Neg x15309 v15315 r15316 hp.imm _ q15948).mono ?_)
      rintro _ w15949 ⟨I15950, v15951, hv, hq, r15952⟩
      replace hv := hv.symm
      subst hv
      have hs := hq.st
      have hp := hp.join0 hq
      replace hz := hz.trans hs
      replace a15277 := a15277.step hs
      replace r15265 := r15265.step hs
      replace r15305 := r15305.step hs
      replace r15946 := r15946.step hs
      refine ⟨SK (Stp I15950 w15949 I15950) [] [], ⟨Stp.refl _ _, kp_nil⟩, fun L x h => ⟨hz.held h.1, h.2⟩, ?_⟩
      have hz := Stp.refl I15950 w15949
      refine ⟨?_, trivial⟩
      refine ev_storeA hp (i := 0) (off := 0) (vs := [(.bool x15941.Neg), v15945]) rfl rfl rfl rfl T24 rfl (Nat.le_of_ble_eq_true rfl) (ones_cons rfl (ones_cons r15946.one ones_nil)) ?_
      intro w15953 hp hs
      replace hz := hz.trans hs
      replace a15277 := a15277.step hs
      replace r15265 := r15265.step hs
      replace r15305 := r15305.step hs
      replace r15952 := r15952.step hs
      replace r15946 := r15946.step hs
      refine ⟨SK (Stp I15950 w15953 I15950) [] [], ⟨Stp.refl _ _, kp_nil⟩, fun L x h => ⟨hz.held h.1, h.2⟩, ?_⟩
      have hz := Stp.refl I15950 w15953
      refine ⟨?_, trivial⟩
      refine ev_storeA hp (i := 1) (off := 0) (vs := [(.bool x15947.Neg), v15951]) rfl rfl rfl rfl T24 rfl (Nat.le_of_ble_eq_true rfl) (ones_cons rfl (ones_cons r15952.one ones_nil)) ?_
      intro w15954 hp hs
      replace hz := hz.trans hs
      replace a15277 := a15277.step hs
      replace r15265 := r15265.step hs
      replace r15305 := r15305.step hs
      replace r15946 := r15946.step hs
      replace r15952 := r15952.step hs
      refine ⟨SK (Stp I15950 w15954 I15950) [] [], ⟨Stp.refl _ _, kp_nil⟩, fun L x h => ⟨hz.held h.1, h.2⟩, ?_⟩
      have hz := Stp.refl I15950 w15954
      obtain rfl := Option.some.inj q15642
      have hp := hp.perm [3, 2, 0, 1] (by decide)
      exact ⟨(x15941.Neg, x15941.Mag, x15947.Neg, x15947.Mag, g15939, v15945, g15911, v15951, I15950), (.c rfl (.c rfl (.c rfl (.c rfl (.c rfl (.c rfl .n)))))), rfl, hp, r15265, a15277, r15305, r15946, r15952⟩
    ·
      rintro ⟨x15630, x15631, x15635, x15636, g15629, v15632, g15634, v15637, I15639⟩ w15640 ⟨hy, hp, r15265, a15277, r15305, r15633, r15638⟩
      replace hy := hy.symm
      subst hy
      obtain ⟨y15991, q15992, h⟩ := bind_some h
      refine W.cut (γ := (Bool × (List Int) × Bool × (List Int) × Value × Value × (Nat → Prop))) (fun g => [(4, (.pointer (some ⟨g15278, 0, none⟩))), (5, (.pointer (some ⟨g15280, 0, none⟩))), (11, (.pointer (some ⟨g15629, 0, none⟩))), (12, (.pointer (some ⟨g15634, 0, none⟩)))]) (fun g w' => y15991 = ((g.1), (g.2.1), (g.2.2.1), (g.2.2.2.1)) ∧ Hp ⟨w0, I0, []⟩ (g.2.2.2.2.2.2) [some (g15278, [(.bool false), (.slice none 0 0)], 24), some (g15280, [(.bool false), (.slice none 0 0)], 24), some (g15629, [(.bool (g.1)), (g.2.2.2.2.1)], 24), some (g15634, [(.bool (g.2.2.1)), (g.2.2.2.2.2.1)], 24)] w' ∧ RepS (dI .u32) w' (g.2.2.2.2.2.2) (g.2.2.2.2.1) (g.2.1) ∧ RepS (dI .u32) w' (g.2.2.2.2.2.2) (g.2.2.2.2.2.1) (g.2.2.2.1)) ?_ ?_
      ·
        apply go
        apply go
        refine ev0 (rn_field rfl rfl FO24_0) ?_
        refine ev (rn_load rfl rfl (run_loadVar1 T4 (hp.cell (i := 3) (off := 0) rfl rfl))) ?_
        apply go
        refine sel_of (fun hc => ?_) (fun hc => ?_)
        ·
          have q15992 := cond_t q15992 hc
          apply go
          apply go
          refine ev (rn_load rfl rfl (run_loadVarA T24 rfl (hp.at_ (i := 3) rfl))) ?_
          obtain ⟨A15993, m15994, m15995, rfl⟩ := r15305.isSl
          refine ev0 (fun w => rn_build (cs := [(.bool false), (.slice A15993 m15994 m15995)]) rfl rfl T24 PL24 rfl) ?_
          obtain ⟨x15997, q15998, q15992⟩ := bind_some q15992
          refine ev_call rfl rfl C30 (((integer_Add_ok n) _ _  (Int_2.mk x15635 x15636) v15637 r15638 (Int_2.mk false x15300) (.slice A15993 m15994 m15995) r15305 hp.imm _ q15998).mono ?_)
          rintro _ w15999 ⟨I16000, v16001, hv, hq, r16002⟩
          replace hv := hv.symm
          subst hv
          have hs := hq.st
          have hp := hp.join0 hq
          replace a15277 := a15277.step hs
          replace r15265 := r15265.step hs
          replace r15633 := r15633.step hs
          replace r15638 := r15638.step hs
          refine ev_storeA hp (i := 3) (off := 0) (vs := [(.bool x15997.Neg), v16001]) rfl rfl rfl rfl T24 rfl (Nat.le_of_ble_eq_true rfl) (ones_cons rfl (ones_cons r16002.one ones_nil)) ?_
          intro w16003 hp hs
          replace a15277 := a15277.step hs
          replace r15265 := r15265.step hs
          replace r15633 := r15633.step hs
          replace r16002 := r16002.step hs
          apply go
          refine ev (rn_load rfl rfl (run_loadVarA T24 rfl (hp.at_ (i := 2) rfl))) ?_
          refine ev0 (rn_field rfl rfl FO24_0) ?_
          refine ev (rn_load rfl rfl (run_loadVar1 T4 (a15277.2 0 _ rfl))) ?_
          refine ev_litN (d := (dI .u32)) (xs := [1]) (cs := [(.int .u32 1)]) hp rfl rfl Tryz.underlying22 T45 (by decide) rfl rfl (Elems.cons (d := (dI .u32)) (xs := _) rfl (Elems.nil _ _ _ _)) ?_
          intro v16004 I16006 w16005 hp hs r16007
          replace r15633 := r15633.step hs
          replace r16002 := r16002.step hs
          obtain ⟨A16008, m16009, m16010, rfl⟩ := r16007.isSl
          refine ev0 (fun w => rn_build (cs := [(.bool (!x15263.Neg)), (.slice A16008 m16009 m16010)]) rfl rfl T24 PL24 rfl) ?_
          obtain ⟨x16012, q16013, q15992⟩ := bind_some q15992
          refine ev_call rfl rfl C30 (((integer_Add_ok n) _ _  (Int_2.mk x15630 x15631) v15632 r15633 (Int_2.mk (!x15263.Neg) [1]) (.slice A16008 m16009 m16010) r16007 hp.imm _ q16013).mono ?_)
          rintro _ w16014 ⟨I16015, v16016, hv, hq, r16017⟩
          replace hv := hv.symm
          subst hv
          have hs := hq.st
          have hp := hp.join0 hq
          replace r15633 := r15633.step hs
          replace r16002 := r16002.step hs
          refine ev_storeA hp (i := 2) (off := 0) (vs := [(.bool x16012.Neg), v16016]) rfl rfl rfl rfl T24 rfl (Nat.le_of_ble_eq_true rfl) (ones_cons rfl (ones_cons r16017.one ones_nil)) ?_
          intro w16018 hp hs
          replace r16017 := r16017.step hs
          replace r16002 := r16002.step hs
          obtain rfl := Option.some.inj q15992
          exact ⟨(x16012.Neg, x16012.Mag, x15997.Neg, x15997.Mag, v16016, v16001, I16015), (.c rfl (.c rfl (.c rfl (.c rfl .n)))), rfl, hp, r16017, r16002⟩
        ·
          have q15992 := cond_f q15992 hc
          apply go
          obtain rfl := Option.some.inj q15992
          exact ⟨(x15630, x15631, x15635, x15636, v15632, v15637, I15639), (.c rfl (.c rfl (.c rfl (.c rfl .n)))), rfl, hp, r15633, r15638⟩
      ·
        rintro ⟨x15981, x15982, x15985, x15986, v15983, v15987, I15989⟩ w15990 ⟨hy, hp, r15984, r15988⟩
        replace hy := hy.symm
        subst hy
        apply go
        have hs := hp.stp (Ch.drew [] w15990)
        have hp := hp.drew
        replace r15984 := r15984.step hs
        replace r15988 := r15988.step hs
        refine W.held [(0, true), (1, true), (2, false), (3, false), (4, true)] (fun x => Stp I15989 w15990.drew I15989 x ∧ OwnK [(g15629, [(.bool x15981), v15983], 24), (g15634, [(.bool x15985), v15987], 24)] x) MX (by kernel_rfl) ⟨Stp.refl _ _, (OwnK.cons (hp.own 2 _ _ _ rfl).1 (OwnK.cons (hp.own 3 _ _ _ rfl).1 OwnK.nil))⟩ ?_
        have hz := Stp.refl I15989 w15990.drew
        refine evh (fun w' hw => rn_load rfl rfl (run_loadVarA T24 rfl (hw.2.at_ (i := 0) rfl))) ?_
        refine evh (fun w' hw => rn_load rfl rfl (run_loadVarA T24 rfl (hw.2.at_ (i := 1) rfl))) ?_
        refine ev_storeA hp (i := 0) (off := 0) (vs := [(.bool x15981), v15983]) rfl rfl rfl rfl T24 rfl (Nat.le_of_ble_eq_true rfl) (ones_cons rfl (ones_cons r15984.one ones_nil)) ?_
        intro w16021 hp hs
        replace hz := hz.trans hs
        replace r15988 := r15988.step hs
        replace r15984 := r15984.step hs
        refine ⟨fun x => Stp I15989 w16021 I15989 x ∧ OwnK [(g15629, [(.bool x15981), v15983], 24), (g15634, [(.bool x15985), v15987], 24)] x, ⟨Stp.refl _ _, (OwnK.cons (hp.own 2 _ _ _ rfl).1 (OwnK.cons (hp.own 3 _ _ _ rfl).1 OwnK.nil))⟩, fun x hx => ⟨hz.held hx.1, hx.2⟩, ?_⟩
        have hz := Stp.refl I15989 w16021
        refine ev_storeA hp (i := 1) (off := 0) (vs := [(.bool x15985), v15987]) rfl rfl rfl rfl T24 rfl (Nat.le_of_ble_eq_true rfl) (ones_cons rfl (ones_cons r15988.one ones_nil)) ?_
        intro w16022 hp hs
        replace hz := hz.trans hs
        replace r15984 := r15984.step hs
        replace r15988 := r15988.step hs
        refine ⟨fun x => Stp I15989 w16022 I15989 x ∧ OwnK [(g15629, [(.bool x15981), v15983], 24), (g15634, [(.bool x15985), v15987], 24)] x, ⟨Stp.refl _ _, (OwnK.cons (hp.own 2 _ _ _ rfl).1 (OwnK.cons (hp.own 3 _ _ _ rfl).1 OwnK.nil))⟩, fun x hx => ⟨hz.held hx.1, hx.2⟩, ?_⟩
        have hz := Stp.refl I15989 w16022
        apply go
        obtain rfl := Option.some.inj h
        refine ⟨_, run_loadVarA T24 rfl (hp.at_ (i := 0) rfl), ?_⟩
        refine ⟨_, run_loadVarA T24 rfl (hp.at_ (i := 1) rfl), ?_⟩
        have hp := hp.sel [] (by decide)
        exact ⟨I15989, v15983, v15987, rfl, hp, r15984, r15988⟩

end Go.Proofs.YthhghkcopfnbiaaGreatDoor

namespace Go.Proofs.YthhghkcopfnbiaaGreatDoor
open Go Go.Proofs.YthhghkcopfnbiaaGreatDoor.Gw Go.RowKit
set_option linter.unusedVariables false
attribute [local irreducible] Ev EvQ EvS EvH
def integer_Abs_S (f : Int_2 → Option Int_2) : Prop := ∀ (w0 : World) (I0 : Nat → Prop) (x20971 : Int_2) (v20972 : Value) (r20973 : RepS (dI .u32) w0 I0 v20972 x20971.Mag) (hI : ∀ g, I0 g → g < w0.heap.size) (r : Int_2), f x20971 = some r →
    Ret Tryz.prog 32 #[(.agg #[(.bool x20971.Neg), v20972])] w0 fun v w1 => ∃ (I1 : Nat → Prop) (u20974 : Value), v = (.agg #[(.bool r.Neg), u20974]) ∧ Hp ⟨w0, I0, []⟩ I1 [] w1 ∧ RepS (dI .u32) w1 I1 u20974 r.Mag
theorem integer_Abs_ok (n : Nat) : integer_Abs_S (integer_Abs n) := by
  intro w0 I0 x20971 v20972 r20973 hI r h
  unfold integer_Abs at h
  refine enter Tryz.func32 rfl (Nat.le_of_ble_eq_true rfl) ?_
  have hp : Hp ⟨w0, I0, []⟩ I0 [] w0 := Hp.start hI
  apply go
  apply go
  refine ev_boxI hp rfl rfl ?_
  intro p20977 I20978 w20976 hp hs a20979
  replace r20973 := r20973.step hs
  refine ev_alloc hp rfl T24 ?_
  intro g20980 w20981 hp hs
  replace a20979 := a20979.step hs
  replace r20973 := r20973.step hs
  apply go
  apply go
  refine ev0 (rn_field rfl rfl FO24_1) ?_
  refine ev (rn_load rfl rfl (run_loadVar1 T22 (a20979.2 1 _ rfl))) ?_
  obtain ⟨x20982, q20983, h⟩ := bind_some h
  refine ev_call rfl rfl C46 (((integer_trim_ok n) _ _  x20971.Mag v20972 r20973 hp.imm _ q20983).mono ?_)
  rintro _ w20984 ⟨I20985, v20986, hv, hq, r20987⟩
  replace hv := hv.symm
  subst hv
  have hs := hq.st
  have hp := hp.join0 hq
  obtain ⟨x20988, q20989, h⟩ := bind_some h
  refine ev_call rfl rfl C56 (((slices_Cloneuint32_uint32__ok n) _ _  x20982 v20986 r20987 hp.imm _ q20989).mono ?_)
  rintro _ w20990 ⟨I20991, v20992, hv, hq, r20993⟩
  replace hv := hv.symm
  subst hv
  have hs := hq.st
  have hp := hp.join0 hq
  obtain ⟨x20994, q20995, h⟩ := bind_some h
  refine ev_call rfl rfl C49 (((integer_made_ok n) _ _  false x20988 v20992 r20993 hp.imm _ q20995).mono ?_)
  rintro _ w20996 ⟨I20997, v20998, hv, hq, r20999⟩
  replace hv := hv.symm
  subst hv
  have hs := hq.st
  have hp := hp.join0 hq
  refine ev_storeA hp (i := 0) (off := 0) (vs := [(.bool x20994.Neg), v20998]) rfl rfl rfl rfl T24 rfl (Nat.le_of_ble_eq_true rfl) (ones_cons rfl (ones_cons r20999.one ones_nil)) ?_
  intro w21000 hp hs
  replace r20999 := r20999.step hs
  apply go
  obtain rfl := Option.some.inj h
  refine ⟨_, run_loadVarA T24 rfl (hp.at_ (i := 0) rfl), ?_⟩
  have hp := hp.sel [] (by decide)
  exact ⟨I20997, v20998, rfl, hp, r20999⟩

end Go.Proofs.YthhghkcopfnbiaaGreatDoor

namespace Go.Proofs.YthhghkcopfnbiaaGreatDoor
open Go Go.Proofs.YthhghkcopfnbiaaGreatDoor.Gw Go.RowKit
set_option linter.unusedVariables false
attribute [local irreducible] Ev EvQ EvS EvH
def integer_Gcd_S (f : Int_2 → Int_2 → Option Int_2) : Prop := ∀ (w0 : World) (I0 : Nat → Prop) (x21176 : Int_2) (v21177 : Value) (r21178 : RepS (dI .u32) w0 I0 v21177 x21176.Mag) (x21179 : Int_2) (v21180 : Value) (r21181 : RepS (dI .u32) w0 I0 v21180 x21179.Mag) (hI : ∀ g, I0 g → g < w0.heap.size) (r : Int_2), f x21176 x21179 = some r →
    Ret Tryz.prog 20 #[(.agg #[(.bool x21176.Neg), v21177]), (.agg #[(.bool x21179.Neg), v21180])] w0 fun v w1 => ∃ (I1 : Nat → Prop) (u21182 : Value), v = (.agg #[(.bool r.Neg), u21182]) ∧ Hp ⟨w0, I0, []⟩ I1 [] w1 ∧ RepS (dI .u32) w1 I1 u21182 r.Mag
theorem integer_Gcd_ok (n : Nat) : integer_Gcd_S (integer_Gcd n) := by
  intro w0 I0 x21176 v21177 r21178 x21179 v21180 r21181 hI r h
  unfold integer_Gcd at h
  refine enter Tryz.func20 rfl (Nat.le_of_ble_eq_true rfl) ?_
  have hp : Hp ⟨w0, I0, []⟩ I0 [] w0 := Hp.start hI
  apply go
  apply go
  refine ev_boxI hp rfl rfl ?_
  intro p21185 I21186 w21184 hp hs a21187
  replace r21181 := r21181.step hs
  replace r21178 := r21178.step hs
  refine ev_boxI hp rfl rfl ?_
  intro p21190 I21191 w21189 hp hs a21192
  replace a21187 := a21187.step hs
  replace r21178 := r21178.step hs
  replace r21181 := r21181.step hs
  refine ev_alloc hp rfl T24 ?_
  intro g21193 w21194 hp hs
  replace a21187 := a21187.step hs
  replace r21178 := r21178.step hs
  replace a21192 := a21192.step hs
  replace r21181 := r21181.step hs
  obtain ⟨y21519, q21520, h⟩ := bind_some h
  refine W.cut (γ := (Bool × (List Int) × Bool × (List Int) × Nat × Value × Nat × Value × (Nat → Prop))) (fun g => [(4, (.pointer (some ⟨g21193, 0, none⟩))), (5, (.pointer (some ⟨(g.2.2.2.2.1), 0, none⟩))), (6, (.pointer (some ⟨(g.2.2.2.2.2.2.1), 0, none⟩)))]) (fun g w' => y21519 = ((g.1), (g.2.1), (g.2.2.1), (g.2.2.2.1)) ∧ Hp ⟨w0, I0, []⟩ (g.2.2.2.2.2.2.2.2) [some (g21193, [(.bool false), (.slice none 0 0)], 24), some ((g.2.2.2.2.1), [(.bool (g.1)), (g.2.2.2.2.2.1)], 24), some ((g.2.2.2.2.2.2.1), [(.bool (g.2.2.1)), (g.2.2.2.2.2.2.2.1)], 24)] w' ∧ RepS (dI .u32) w' (g.2.2.2.2.2.2.2.2) (g.2.2.2.2.2.1) (g.2.1) ∧ RepS (dI .u32) w' (g.2.2.2.2.2.2.2.2) (g.2.2.2.2.2.2.2.1) (g.2.2.2.1)) ?_ ?_
  ·
    have hs := hp.stp (Ch.drew [] w21194)
    have hp := hp.drew
    replace a21187 := a21187.step hs
    replace r21178 := r21178.step hs
    replace a21192 := a21192.step hs
    replace r21181 := r21181.step hs
    refine W.heldG (.q 0 (.q 2 (.l 1 (.l 3 (.l 4 (.l 5 (.l 6 (.l 7 .done .no) .no) .no) (.l 5 (.l 4 (.l 6 (.l 7 .done .no) .no) .no) .no)) (.l 4 (.l 3 (.l 5 (.l 6 (.l 7 .done .no) .no) .no) (.l 5 (.l 3 (.l 6 (.l 7 .done .no) .no) .no) .no)) (.l 5 (.l 3 (.l 4 (.l 6 (.l 7 .done .no) .no) .no) (.l 4 (.l 3 (.l 6 (.l 7 .done .no) .no) .no) .no)) .no))) (.l 4 (.l 1 (.l 3 (.l 5 (.l 6 (.l 7 .done .no) .no) .no) (.l 5 (.l 3 (.l 6 (.l 7 .done .no) .no) .no) .no)) (.l 5 (.l 1 (.l 3 (.l 6 (.l 7 .done .no) .no) .no) .no) .no)) (.l 5 (.l 1 (.l 3 (.l 4 (.l 6 (.l 7 .done .no) .no) .no) (.l 4 (.l 3 (.l 6 (.l 7 .done .no) .no) .no) .no)) (.l 4 (.l 1 (.l 3 (.l 6 (.l 7 .done .no) .no) .no) .no) .no)) .no))))) (SK (Stp I21191 w21194.drew I21191) [] []) MX (by kernel_rfl) ⟨Stp.refl _ _, kp_nil⟩ ?_
    have hz := Stp.refl I21191 w21194.drew
    refine ⟨SK.same (by kernel_rfl), ?_⟩
    refine evh (fun w' hw => rn_load rfl rfl (run_loadVarA T24 rfl (a21187.step (S0.si hw)))) ?_
    refine ⟨SK.same (by kernel_rfl), ?_⟩
    refine evh (fun w' hw => rn_load rfl rfl (run_loadVarA T24 rfl (a21192.step (S0.si hw)))) ?_
    refine ⟨?_, ?_⟩
    ·
      obtain ⟨x21677, q21678, q21520⟩ := bind_some q21520
      refine ev_call rfl rfl C32 (((integer_Abs_ok n) _ _  (Int_2.mk x21176.Neg x21176.Mag) v21177 r21178 hp.imm _ q21678).mono ?_)
      rintro _ w21679 ⟨I21680, v21681, hv, hq, r21682⟩
      replace hv := hv.symm
      subst hv
      have hs := hq.st
      have hp := hp.join0 hq
      replace hz := hz.trans hs
      replace r21181 := r21181.step hs
      refine ⟨SK (Stp I21680 w21679 I21680) [] [], ⟨Stp.refl _ _, kp_nil⟩, fun L x h => ⟨hz.held h.1, h.2⟩, ?_⟩
      have hz := Stp.refl I21680 w21679
      refine ⟨?_, ?_⟩
      ·
        obtain ⟨x21683, q21684, q21520⟩ := bind_some q21520
        refine ev_call rfl rfl C32 (((integer_Abs_ok n) _ _  (Int_2.mk x21179.Neg x21179.Mag) v21180 r21181 hp.imm _ q21684).mono ?_)
        rintro _ w21685 ⟨I21686, v21687, hv, hq, r21688⟩
        replace hv := hv.symm
        subst hv
        have hs := hq.st
        have hp := hp.join0 hq
        replace hz := hz.trans hs
        replace r21682 := r21682.step hs
        refine ⟨SK (Stp I21686 w21685 I21686) [] [], ⟨Stp.refl _ _, kp_nil⟩, fun L x h => ⟨hz.held h.1, h.2⟩, ?_⟩
        have hz := Stp.refl I21686 w21685
        refine ⟨?_, ?_⟩
        ·
          refine ev_alloc hp rfl T24 ?_
          intro g21689 w21690 hp hs
          replace hz := hz.trans hs
          replace r21682 := r21682.step hs
          replace r21688 := r21688.step hs
          refine ⟨SK (Stp I21686 w21690 I21686) [] [], ⟨Stp.refl _ _, kp_nil⟩, fun L x h => ⟨hz.held h.1, h.2⟩, ?_⟩
          have hz := Stp.refl I21686 w21690
          refine ⟨?_, trivial⟩
          refine ev_alloc hp rfl T24 ?_
          intro g21691 w21692 hp hs
          replace hz := hz.trans hs
          replace r21682 := r21682.step hs
          replace r21688 := r21688.step hs
          refine ⟨SK (Stp I21686 w21692 I21686) [] [], ⟨Stp.refl _ _, kp_nil⟩, fun L x h => ⟨hz.held h.1, h.2⟩, ?_⟩
          have hz := Stp.refl I21686 w21692
          refine ⟨?_, trivial⟩
          refine ev_storeA hp (i := 1) (off := 0) (vs := [(.bool x21677.Neg), v21681]) rfl rfl rfl rfl T24 rfl (Nat.le_of_ble_eq_true rfl) (ones_cons rfl (ones_cons r21682.one ones_nil)) ?_
          intro w21693 hp hs
          replace hz := hz.trans hs
          replace r21688 := r21688.step hs
          replace r21682 := r21682.step hs
          refine ⟨SK (Stp I21686 w21693 I21686) [] [], ⟨Stp.refl _ _, kp_nil⟩, fun L x h => ⟨hz.held h.1, h.2⟩, ?_⟩
          have hz := Stp.refl I21686 w21693
          refine ⟨?_, trivial⟩
          refine ev_storeA hp (i := 0) (off := 0) (vs := [(.bool x21683.Neg), v21687]) rfl rfl rfl rfl T24 rfl (Nat.le_of_ble_eq_true rfl) (ones_cons rfl (ones_cons r21688.one ones_nil)) ?_
          intro w21694 hp hs
          replace hz := hz.trans hs
          replace r21688 := r21688.step hs
          replace r21682 := r21682.step hs
          refine ⟨SK (Stp I21686 w21694 I21686) [] [], ⟨Stp.refl _ _, kp_nil⟩, fun L x h => ⟨hz.held h.1, h.2⟩, ?_⟩
          have hz := Stp.refl I21686 w21694
          obtain rfl := Option.some.inj q21520
          have hp := hp.perm [2, 1, 0] (by decide)
          exact ⟨(x21677.Neg, x21677.Mag, x21683.Neg, x21683.Mag, g21689, v21681, g21691, v21687, I21686), (.c rfl (.c rfl (.c rfl .n))), rfl, hp, r21682, r21688⟩
        refine ⟨?_, trivial⟩
        refine ev_alloc hp rfl T24 ?_
        intro g21695 w21696 hp hs
        replace hz := hz.trans hs
        replace r21682 := r21682.step hs
        replace r21688 := r21688.step hs
        refine ⟨SK (Stp I21686 w21696 I21686) [] [], ⟨Stp.refl _ _, kp_nil⟩, fun L x h => ⟨hz.held h.1, h.2⟩, ?_⟩
        have hz := Stp.refl I21686 w21696
        refine ⟨?_, trivial⟩
        refine ev_alloc hp rfl T24 ?_
        intro g21697 w21698 hp hs
        replace hz := hz.trans hs
        replace r21682 := r21682.step hs
        replace r21688 := r21688.step hs
        refine ⟨SK (Stp I21686 w21698 I21686) [] [], ⟨Stp.refl _ _, kp_nil⟩, fun L x h => ⟨hz.held h.1, h.2⟩, ?_⟩
        have hz := Stp.refl I21686 w21698
        refine ⟨?_, trivial⟩
        refine ev_storeA hp (i := 0) (off := 0) (vs := [(.bool x21677.Neg), v21681]) rfl rfl rfl rfl T24 rfl (Nat.le_of_ble_eq_true rfl) (ones_cons rfl (ones_cons r21682.one ones_nil)) ?_
        intro w21699 hp hs
        replace hz := hz.trans hs
        replace r21688 := r21688.step hs
        replace r21682 := r21682.step hs
        refine ⟨SK (Stp I21686 w21699 I21686) [] [], ⟨Stp.refl _ _, kp_nil⟩, fun L x h => ⟨hz.held h.1, h.2⟩, ?_⟩
        have hz := Stp.refl I21686 w21699
        refine ⟨?_, trivial⟩
        refine ev_storeA hp (i := 1) (off := 0) (vs := [(.bool x21683.Neg), v21687]) rfl rfl rfl rfl T24 rfl (Nat.le_of_ble_eq_true rfl) (ones_cons rfl (ones_cons r21688.one ones_nil)) ?_
        intro w21700 hp hs
        replace hz := hz.trans hs
        replace r21682 := r21682.step hs
        replace r21688 := r21688.step hs
        refine ⟨SK (Stp I21686 w21700 I21686) [] [], ⟨Stp.refl _ _, kp_nil⟩, fun L x h => ⟨hz.held h.1, h.2⟩, ?_⟩
        have hz := Stp.refl I21686 w21700
        obtain rfl := Option.some.inj q21520
        have hp := hp.perm [2, 0, 1] (by decide)
        exact ⟨(x21677.Neg, x21677.Mag, x21683.Neg, x21683.Mag, g21697, v21681, g21695, v21687, I21686), (.c rfl (.c rfl (.c rfl .n))), rfl, hp, r21682, r21688⟩
      refine ⟨?_, ?_⟩
      ·
        refine ev_alloc hp rfl T24 ?_
        intro g21701 w21702 hp hs
        replace hz := hz.trans hs
        replace r21181 := r21181.step hs
        replace r21682 := r21682.step hs
        refine ⟨SK (Stp I21680 w21702 I21680) [] [], ⟨Stp.refl _ _, kp_nil⟩, fun L x h => ⟨hz.held h.1, h.2⟩, ?_⟩
        have hz := Stp.refl I21680 w21702
        refine ⟨?_, ?_⟩
        ·
          obtain ⟨x21703, q21704, q21520⟩ := bind_some q21520
          refine ev_call rfl rfl C32 (((integer_Abs_ok n) _ _  (Int_2.mk x21179.Neg x21179.Mag) v21180 r21181 hp.imm _ q21704).mono ?_)
          rintro _ w21705 ⟨I21706, v21707, hv, hq, r21708⟩
          replace hv := hv.symm
          subst hv
          have hs := hq.st
          have hp := hp.join0 hq
          replace hz := hz.trans hs
          replace r21682 := r21682.step hs
          refine ⟨SK (Stp I21706 w21705 I21706) [] [], ⟨Stp.refl _ _, kp_nil⟩, fun L x h => ⟨hz.held h.1, h.2⟩, ?_⟩
          have hz := Stp.refl I21706 w21705
          refine ⟨?_, trivial⟩
          refine ev_alloc hp rfl T24 ?_
          intro g21709 w21710 hp hs
          replace hz := hz.trans hs
          replace r21682 := r21682.step hs
          replace r21708 := r21708.step hs
          refine ⟨SK (Stp I21706 w21710 I21706) [] [], ⟨Stp.refl _ _, kp_nil⟩, fun L x h => ⟨hz.held h.1, h.2⟩, ?_⟩
          have hz := Stp.refl I21706 w21710
          refine ⟨?_, trivial⟩
          refine ev_storeA hp (i := 1) (off := 0) (vs := [(.bool x21677.Neg), v21681]) rfl rfl rfl rfl T24 rfl (Nat.le_of_ble_eq_true rfl) (ones_cons rfl (ones_cons r21682.one ones_nil)) ?_
          intro w21711 hp hs
          replace hz := hz.trans hs
          replace r21708 := r21708.step hs
          replace r21682 := r21682.step hs
          refine ⟨SK (Stp I21706 w21711 I21706) [] [], ⟨Stp.refl _ _, kp_nil⟩, fun L x h => ⟨hz.held h.1, h.2⟩, ?_⟩
          have hz := Stp.refl I21706 w21711
          refine ⟨?_, trivial⟩
          refine ev_storeA hp (i := 0) (off := 0) (vs := [(.bool x21703.Neg), v21707]) rfl rfl rfl rfl T24 rfl (Nat.le_of_ble_eq_true rfl) (ones_cons rfl (ones_cons r21708.one ones_nil)) ?_
          intro w21712 hp hs
          replace hz := hz.trans hs
          replace r21708 := r21708.step hs
          replace r21682 := r21682.step hs
          refine ⟨SK (Stp I21706 w21712 I21706) [] [], ⟨Stp.refl _ _, kp_nil⟩, fun L x h => ⟨hz.held h.1, h.2⟩, ?_⟩
          have hz := Stp.refl I21706 w21712
          obtain rfl := Option.some.inj q21520
          have hp := hp.perm [2, 1, 0] (by decide)
          exact ⟨(x21677.Neg, x21677.Mag, x21703.Neg, x21703.Mag, g21701, v21681, g21709, v21707, I21706), (.c rfl (.c rfl (.c rfl .n))), rfl, hp, r21682, r21708⟩
        refine ⟨?_, trivial⟩
        refine ev_alloc hp rfl T24 ?_
        intro g21713 w21714 hp hs
        replace hz := hz.trans hs
        replace r21181 := r21181.step hs
        replace r21682 := r21682.step hs
        refine ⟨SK (Stp I21680 w21714 I21680) [] [], ⟨Stp.refl _ _, kp_nil⟩, fun L x h => ⟨hz.held h.1, h.2⟩, ?_⟩
        have hz := Stp.refl I21680 w21714
        refine ⟨?_, trivial⟩
        obtain ⟨x21715, q21716, q21520⟩ := bind_some q21520
        refine ev_call rfl rfl C32 (((integer_Abs_ok n) _ _  (Int_2.mk x21179.Neg x21179.Mag) v21180 r21181 hp.imm _ q21716).mono ?_)
        rintro _ w21717 ⟨I21718, v21719, hv, hq, r21720⟩
        replace hv := hv.symm
        subst hv
        have hs := hq.st
        have hp := hp.join0 hq
        replace hz := hz.trans hs
        replace r21682 := r21682.step hs
        refine ⟨SK (Stp I21718 w21717 I21718) [] [], ⟨Stp.refl _ _, kp_nil⟩, fun L x h => ⟨hz.held h.1, h.2⟩, ?_⟩
        have hz := Stp.refl I21718 w21717
        refine ⟨?_, trivial⟩
        refine ev_storeA hp (i := 1) (off := 0) (vs := [(.bool x21677.Neg), v21681]) rfl rfl rfl rfl T24 rfl (Nat.le_of_ble_eq_true rfl) (ones_cons rfl (ones_cons r21682.one ones_nil)) ?_
        intro w21721 hp hs
        replace hz := hz.trans hs
        replace r21720 := r21720.step hs
        replace r21682 := r21682.step hs
        refine ⟨SK (Stp I21718 w21721 I21718) [] [], ⟨Stp.refl _ _, kp_nil⟩, fun L x h => ⟨hz.held h.1, h.2⟩, ?_⟩
        have hz := Stp.refl I21718 w21721
        refine ⟨?_, trivial⟩
        refine ev_storeA hp (i := 0) (off := 0) (vs := [(.bool x21715.Neg), v21719]) rfl rfl rfl rfl T24 rfl (Nat.le_of_ble_eq_true rfl) (ones_cons rfl (ones_cons r21720.one ones_nil)) ?_
        intro w21722 hp hs
        replace hz := hz.trans hs
        replace r21720 := r21720.step hs
        replace r21682 := r21682.step hs
        refine ⟨SK (Stp I21718 w21722 I21718) [] [], ⟨Stp.refl _ _, kp_nil⟩, fun L x h => ⟨hz.held h.1, h.2⟩, ?_⟩
        have hz := Stp.refl I21718 w21722
        obtain rfl := Option.some.inj q21520
        have hp := hp.perm [2, 1, 0] (by decide)
        exact ⟨(x21677.Neg, x21677.Mag, x21715.Neg, x21715.Mag, g21701, v21681, g21713, v21719, I21718), (.c rfl (.c rfl (.c rfl .n))), rfl, hp, r21682, r21720⟩
      refine ⟨?_, trivial⟩
      refine ev_alloc hp rfl T24 ?_
      intro g21723 w21724 hp hs
      replace hz := hz.trans hs
      replace r21181 := r21181.step hs
      replace r21682 := r21682.step hs
      refine ⟨SK (Stp I21680 w21724 I21680) [] [], ⟨Stp.refl _ _, kp_nil⟩, fun L x h => ⟨hz.held h.1, h.2⟩, ?_⟩
      have hz := Stp.refl I21680 w21724
      refine ⟨?_, ?_⟩
      ·
        obtain ⟨x21725, q21726, q21520⟩ := bind_some q21520
        refine ev_call rfl rfl C32 (((integer_Abs_ok n) _ _  (Int_2.mk x21179.Neg x21179.Mag) v21180 r21181 hp.imm _ q21726).mono ?_)
        rintro _ w21727 ⟨I21728, v21729, hv, hq, r21730⟩
        replace hv := hv.symm
        subst hv
        have hs := hq.st
        have hp := hp.join0 hq
        replace hz := hz.trans hs
        replace r21682 := r21682.step hs
        refine ⟨SK (Stp I21728 w21727 I21728) [] [], ⟨Stp.refl _ _, kp_nil⟩, fun L x h => ⟨hz.held h.1, h.2⟩, ?_⟩
        have hz := Stp.refl I21728 w21727
        refine ⟨?_, trivial⟩
        refine ev_alloc hp rfl T24 ?_
        intro g21731 w21732 hp hs
        replace hz := hz.trans hs
        replace r21682 := r21682.step hs
        replace r21730 := r21730.step hs
        refine ⟨SK (Stp I21728 w21732 I21728) [] [], ⟨Stp.refl _ _, kp_nil⟩, fun L x h => ⟨hz.held h.1, h.2⟩, ?_⟩
        have hz := Stp.refl I21728 w21732
        refine ⟨?_, trivial⟩
        refine ev_storeA hp (i := 0) (off := 0) (vs := [(.bool x21677.Neg), v21681]) rfl rfl rfl rfl T24 rfl (Nat.le_of_ble_eq_true rfl) (ones_cons rfl (ones_cons r21682.one ones_nil)) ?_
        intro w21733 hp hs
        replace hz := hz.trans hs
        replace r21730 := r21730.step hs
        replace r21682 := r21682.step hs
        refine ⟨SK (Stp I21728 w21733 I21728) [] [], ⟨Stp.refl _ _, kp_nil⟩, fun L x h => ⟨hz.held h.1, h.2⟩, ?_⟩
        have hz := Stp.refl I21728 w21733
        refine ⟨?_, trivial⟩
        refine ev_storeA hp (i := 1) (off := 0) (vs := [(.bool x21725.Neg), v21729]) rfl rfl rfl rfl T24 rfl (Nat.le_of_ble_eq_true rfl) (ones_cons rfl (ones_cons r21730.one ones_nil)) ?_
        intro w21734 hp hs
        replace hz := hz.trans hs
        replace r21682 := r21682.step hs
        replace r21730 := r21730.step hs
        refine ⟨SK (Stp I21728 w21734 I21728) [] [], ⟨Stp.refl _ _, kp_nil⟩, fun L x h => ⟨hz.held h.1, h.2⟩, ?_⟩
        have hz := Stp.refl I21728 w21734
        obtain rfl := Option.some.inj q21520
        have hp := hp.perm [2, 0, 1] (by decide)
        exact ⟨(x21677.Neg, x21677.Mag, x21725.Neg, x21725.Mag, g21731, v21681, g21723, v21729, I21728), (.c rfl (.c rfl (.c rfl .n))), rfl, hp, r21682, r21730⟩
      refine ⟨?_, trivial⟩
      refine ev_alloc hp rfl T24 ?_
      intro g21735 w21736 hp hs
      replace hz := hz.trans hs
      replace r21181 := r21181.step hs
      replace r21682 := r21682.step hs
      refine ⟨SK (Stp I21680 w21736 I21680) [] [], ⟨Stp.refl _ _, kp_nil⟩, fun L x h => ⟨hz.held h.1, h.2⟩, ?_⟩
      have hz := Stp.refl I21680 w21736
      refine ⟨?_, trivial⟩
      obtain ⟨x21737, q21738, q21520⟩ := bind_some q21520
      refine ev_call rfl rfl C32 (((integer_Abs_ok n) _ _  (Int_2.mk x21179.Neg x21179.Mag) v21180 r21181 hp.imm _ q21738).mono ?_)
      rintro _ w21739 ⟨I21740, v21741, hv, hq, r21742⟩
      replace hv := hv.symm
      subst hv
      have hs := hq.st
      have hp := hp.join0 hq
      replace hz := hz.trans hs
      replace r21682 := r21682.step hs
      refine ⟨SK (Stp I21740 w21739 I21740) [] [], ⟨Stp.refl _ _, kp_nil⟩, fun L x h => ⟨hz.held h.1, h.2⟩, ?_⟩
      have hz := Stp.refl I21740 w21739
      refine ⟨?_, trivial⟩
      refine ev_storeA hp (i := 0) (off := 0) (vs := [(.bool x21677.Neg), v21681]) rfl rfl rfl rfl T24 rfl (Nat.le_of_ble_eq_true rfl) (ones_cons rfl (ones_cons r21682.one ones_nil)) ?_
      intro w21743 hp hs
      replace hz := hz.trans hs
      replace r21742 := r21742.step hs
      replace r21682 := r21682.step hs
      refine ⟨SK (Stp I21740 w21743 I21740) [] [], ⟨Stp.refl _ _, kp_nil⟩, fun L x h => ⟨hz.held h.1, h.2⟩, ?_⟩
      have hz := Stp.refl I21740 w21743
      refine ⟨?_, trivial⟩
      refine ev_storeA hp (i := 1) (off := 0) (vs := [(.bool x21737.Neg), v21741]) rfl rfl rfl rfl T24 rfl (Nat.le_of_ble_eq_true rfl) (ones_cons rfl (ones_cons r21742.one ones_nil)) ?_
      intro w21744 hp hs
      replace hz := hz.trans hs
      replace r21682 := r21682.step hs
      replace r21742 := r21742.step hs
      refine ⟨SK (Stp I21740 w21744 I21740) [] [], ⟨Stp.refl _ _, kp_nil⟩, fun L x h => ⟨hz.held h.1, h.2⟩, ?_⟩
      have hz := Stp.refl I21740 w21744
      obtain rfl := Option.some.inj q21520
      have hp := hp.perm [2, 0, 1] (by decide)
      exact ⟨(x21677.Neg, x21677.Mag, x21737.Neg, x21737.Mag, g21735, v21681, g21723, v21741, I21740), (.c rfl (.c rfl (.c rfl .n))), rfl, hp, r21682, r21742⟩
    refine ⟨?_, ?_⟩
    ·
      refine ev_alloc hp rfl T24 ?_
      intro g21745 w21746 hp hs
      replace hz := hz.trans hs
      replace r21178 := r21178.step hs
      replace r21181 := r21181.step hs
      refine ⟨SK (Stp I21191 w21746 I21191) [] [], ⟨Stp.refl _ _, kp_nil⟩, fun L x h => ⟨hz.held h.1, h.2⟩, ?_⟩
      have hz := Stp.refl I21191 w21746
      refine ⟨?_, ?_⟩
      ·
        obtain ⟨x21747, q21748, q21520⟩ := bind_some q21520
        refine ev_call rfl rfl C32 (((integer_Abs_ok n) _ _  (Int_2.mk x21176.Neg x21176.Mag) v21177 r21178 hp.imm _ q21748).mono ?_)
        rintro _ w21749 ⟨I21750, v21751, hv, hq, r21752⟩
        replace hv := hv.symm
        subst hv
        have hs := hq.st
        have hp := hp.join0 hq
        replace hz := hz.trans hs
        replace r21181 := r21181.step hs
        refine ⟨SK (Stp I21750 w21749 I21750) [] [], ⟨Stp.refl _ _, kp_nil⟩, fun L x h => ⟨hz.held h.1, h.2⟩, ?_⟩
        have hz := Stp.refl I21750 w21749
        refine ⟨?_, ?_⟩
        ·
          obtain ⟨x21753, q21754, q21520⟩ := bind_some q21520
          refine ev_call rfl rfl C32 (((integer_Abs_ok n) _ _  (Int_2.mk x21179.Neg x21179.Mag) v21180 r21181 hp.imm _ q21754).mono ?_)
          rintro _ w21755 ⟨I21756, v21757, hv, hq, r21758⟩
          replace hv := hv.symm
          subst hv
          have hs := hq.st
          have hp := hp.join0 hq
          replace hz := hz.trans hs
          replace r21752 := r21752.step hs
          refine ⟨SK (Stp I21756 w21755 I21756) [] [], ⟨Stp.refl _ _, kp_nil⟩, fun L x h => ⟨hz.held h.1, h.2⟩, ?_⟩
          have hz := Stp.refl I21756 w21755
          refine ⟨?_, trivial⟩
          refine ev_alloc hp rfl T24 ?_
          intro g21759 w21760 hp hs
          replace hz := hz.trans hs
          replace r21752 := r21752.step hs
          replace r21758 := r21758.step hs
          refine ⟨SK (Stp I21756 w21760 I21756) [] [], ⟨Stp.refl _ _, kp_nil⟩, fun L x h => ⟨hz.held h.1, h.2⟩, ?_⟩
          have hz := Stp.refl I21756 w21760
          refine ⟨?_, trivial⟩
          refine ev_storeA hp (i := 1) (off := 0) (vs := [(.bool x21747.Neg), v21751]) rfl rfl rfl rfl T24 rfl (Nat.le_of_ble_eq_true rfl) (ones_cons rfl (ones_cons r21752.one ones_nil)) ?_
          intro w21761 hp hs
          replace hz := hz.trans hs
          replace r21758 := r21758.step hs
          replace r21752 := r21752.step hs
          refine ⟨SK (Stp I21756 w21761 I21756) [] [], ⟨Stp.refl _ _, kp_nil⟩, fun L x h => ⟨hz.held h.1, h.2⟩, ?_⟩
          have hz := Stp.refl I21756 w21761
          refine ⟨?_, trivial⟩
          refine ev_storeA hp (i := 0) (off := 0) (vs := [(.bool x21753.Neg), v21757]) rfl rfl rfl rfl T24 rfl (Nat.le_of_ble_eq_true rfl) (ones_cons rfl (ones_cons r21758.one ones_nil)) ?_
          intro w21762 hp hs
          replace hz := hz.trans hs
          replace r21758 := r21758.step hs
          replace r21752 := r21752.step hs
          refine ⟨SK (Stp I21756 w21762 I21756) [] [], ⟨Stp.refl _ _, kp_nil⟩, fun L x h => ⟨hz.held h.1, h.2⟩, ?_⟩
          have hz := Stp.refl I21756 w21762
          obtain rfl := Option.some.inj q21520
          have hp := hp.perm [2, 1, 0] (by decide)
          exact ⟨(x21747.Neg, x21747.Mag, x21753.Neg, x21753.Mag, g21745, v21751, g21759, v21757, I21756), (.c rfl (.c rfl (.c rfl .n))), rfl, hp, r21752, r21758⟩
        refine ⟨?_, trivial⟩
        refine ev_alloc hp rfl T24 ?_
        intro g21763 w21764 hp hs
        replace hz := hz.trans hs
        replace r21181 := r21181.step hs
        replace r21752 := r21752.step hs
        refine ⟨SK (Stp I21750 w21764 I21750) [] [], ⟨Stp.refl _ _, kp_nil⟩, fun L x h => ⟨hz.held h.1, h.2⟩, ?_⟩
        have hz := Stp.refl I21750 w21764
        refine ⟨?_, trivial⟩
        obtain ⟨x21765, q21766, q21520⟩ := bind_some q21520
        refine ev_call rfl rfl C32 (((integer_Abs_ok n) _ _  (Int_2.mk x21179.Neg x21179.Mag) v21180 r21181 hp.imm _ q21766).mono ?_)
        rintro _ w21767 ⟨I21768, v21769, hv, hq, r21770⟩
        replace hv := hv.symm
        subst hv
        have hs := hq.st
        have hp := hp.join0 hq
        replace hz := hz.trans hs
        replace r21752 := r21752.step hs
        refine ⟨SK (Stp I21768 w21767 I21768) [] [], ⟨Stp.refl _ _, kp_nil⟩, fun L x h => ⟨hz.held h.1, h.2⟩, ?_⟩
        have hz := Stp.refl I21768 w21767
        refine ⟨?_, trivial⟩
        refine ev_storeA hp (i := 1) (off := 0) (vs := [(.bool x21747.Neg), v21751]) rfl rfl rfl rfl T24 rfl (Nat.le_of_ble_eq_true rfl) (ones_cons rfl (ones_cons r21752.one ones_nil)) ?_
        intro w21771 hp hs
        replace hz := hz.trans hs
        replace r21770 := r21770.step hs
        replace r21752 := r21752.step hs
        refine ⟨SK (Stp I21768 w21771 I21768) [] [], ⟨Stp.refl _ _, kp_nil⟩, fun L x h => ⟨hz.held h.1, h.2⟩, ?_⟩
        have hz := Stp.refl I21768 w21771
        refine ⟨?_, trivial⟩
        refine ev_storeA hp (i := 0) (off := 0) (vs := [(.bool x21765.Neg), v21769]) rfl rfl rfl rfl T24 rfl (Nat.le_of_ble_eq_true rfl) (ones_cons rfl (ones_cons r21770.one ones_nil)) ?_
        intro w21772 hp hs
        replace hz := hz.trans hs
        replace r21770 := r21770.step hs
        replace r21752 := r21752.step hs
        refine ⟨SK (Stp I21768 w21772 I21768) [] [], ⟨Stp.refl _ _, kp_nil⟩, fun L x h => ⟨hz.held h.1, h.2⟩, ?_⟩
        have hz := Stp.refl I21768 w21772
        obtain rfl := Option.some.inj q21520
        have hp := hp.perm [2, 1, 0] (by decide)
        exact ⟨(x21747.Neg, x21747.Mag, x21765.Neg, x21765.Mag, g21745, v21751, g21763, v21769, I21768), (.c rfl (.c rfl (.c rfl .n))), rfl, hp, r21752, r21770⟩
      refine ⟨?_, trivial⟩
      refine ev_alloc hp rfl T24 ?_
      intro g21773 w21774 hp hs
      replace hz := hz.trans hs
      replace r21178 := r21178.step hs
      replace r21181 := r21181.step hs
      refine ⟨SK (Stp I21191 w21774 I21191) [] [], ⟨Stp.refl _ _, kp_nil⟩, fun L x h => ⟨hz.held h.1, h.2⟩, ?_⟩
      have hz := Stp.refl I21191 w21774
      refine ⟨?_, trivial⟩
      obtain ⟨x21775, q21776, q21520⟩ := bind_some q21520
      refine ev_call rfl rfl C32 (((integer_Abs_ok n) _ _  (Int_2.mk x21176.Neg x21176.Mag) v21177 r21178 hp.imm _ q21776).mono ?_)
      rintro _ w21777 ⟨I21778, v21779, hv, hq, r21780⟩
      replace hv := hv.symm
      subst hv
      have hs := hq.st
      have hp := hp.join0 hq
      replace hz := hz.trans hs
      replace r21181 := r21181.step hs
      refine ⟨SK (Stp I21778 w21777 I21778) [] [], ⟨Stp.refl _ _, kp_nil⟩, fun L x h => ⟨hz.held h.1, h.2⟩, ?_⟩
      have hz := Stp.refl I21778 w21777
      refine ⟨?_, trivial⟩
      obtain ⟨x21781, q21782, q21520⟩ := bind_some q21520
      refine ev_call rfl rfl C32 (((integer_Abs_ok n) _ _  (Int_2.mk x21179.Neg x21179.Mag) v21180 r21181 hp.imm _ q21782).mono ?_)
      rintro _ w21783 ⟨I21784, v21785, hv, hq, r21786⟩
      replace hv := hv.symm
      subst hv
      have hs := hq.st
      have hp := hp.join0 hq
      replace hz := hz.trans hs
      replace r21780 := r21780.step hs
      refine ⟨SK (Stp I21784 w21783 I21784) [] [], ⟨Stp.refl _ _, kp_nil⟩, fun L x h => ⟨hz.held h.1, h.2⟩, ?_⟩
      have hz := Stp.refl I21784 w21783
      refine ⟨?_, trivial⟩
      refine ev_storeA hp (i := 1) (off := 0) (vs := [(.bool x21775.Neg), v21779]) rfl rfl rfl rfl T24 rfl (Nat.le_of_ble_eq_true rfl) (ones_cons rfl (ones_cons r21780.one ones_nil)) ?_
      intro w21787 hp hs
      replace hz := hz.trans hs
      replace r21786 := r21786.step hs
      replace r21780 := r21780.step hs
      refine ⟨SK (Stp I21784 w21787 I21784) [] [], ⟨Stp.refl _ _, kp_nil⟩, fun L x h => ⟨hz.held h.1, h.2⟩, ?_⟩
      have hz := Stp.refl I21784 w21787
      refine ⟨?_, trivial⟩
      refine ev_storeA hp (i := 0) (off := 0) (vs := [(.bool x21781.Neg), v21785]) rfl rfl rfl rfl T24 rfl (Nat.le_of_ble_eq_true rfl) (ones_cons rfl (ones_cons r21786.one ones_nil)) ?_
      intro w21788 hp hs
      replace hz := hz.trans hs
      replace r21786 := r21786.step hs
      replace r21780 := r21780.step hs
      refine ⟨SK (Stp I21784 w21788 I21784) [] [], ⟨Stp.refl _ _, kp_nil⟩, fun L x h => ⟨hz.held h.1, h.2⟩, ?_⟩
      have hz := Stp.refl I21784 w21788
      obtain rfl := Option.some.inj q21520
      have hp := hp.perm [2, 1, 0] (by decide)
      exact ⟨(x21775.Neg, x21775.Mag, x21781.Neg, x21781.Mag, g21745, v21779, g21773, v21785, I21784), (.c rfl (.c rfl (.c rfl .n))), rfl, hp, r21780, r21786⟩
    refine ⟨?_, trivial⟩
    refine ev_alloc hp rfl T24 ?_
    intro g21789 w21790 hp hs
    replace hz := hz.trans hs
    replace r21178 := r21178.step hs
    replace r21181 := r21181.step hs
    refine ⟨SK (Stp I21191 w21790 I21191) [] [], ⟨Stp.refl _ _, kp_nil⟩, fun L x h => ⟨hz.held h.1, h.2⟩, ?_⟩
    have hz := Stp.refl I21191 w21790
    refine ⟨?_, ?_⟩
    ·
      obtain ⟨x21791, q21792, q21520⟩ := bind_some q21520
      refine ev_call rfl rfl C32 (((integer_Abs_ok n) _ _  (Int_2.mk x21176.Neg x21176.Mag) v21177 r21178 hp.imm _ q21792).mono ?_)
      rintro _ w21793 ⟨I21794, v21795, hv, hq, r21796⟩
      replace hv := hv.symm
      subst hv
      have hs := hq.st
      have hp := hp.join0 hq
      replace hz := hz.trans hs
      replace r21181 := r21181.step hs
      refine ⟨SK (Stp I21794 w21793 I21794) [] [], ⟨Stp.refl _ _, kp_nil⟩, fun L x h => ⟨hz.held h.1, h.2⟩, ?_⟩
      have hz := Stp.refl I21794 w21793
      refine ⟨?_, ?_⟩
      ·
        obtain ⟨x21797, q21798, q21520⟩ := bind_some q21520
        refine ev_call rfl rfl C32 (((integer_Abs_ok n) _ _  (Int_2.mk x21179.Neg x21179.Mag) v21180 r21181 hp.imm _ q21798).mono ?_)
        rintro _ w21799 ⟨I21800, v21801, hv, hq, r21802⟩
        replace hv := hv.symm
        subst hv
        have hs := hq.st
        have hp := hp.join0 hq
        replace hz := hz.trans hs
        replace r21796 := r21796.step hs
        refine ⟨SK (Stp I21800 w21799 I21800) [] [], ⟨Stp.refl _ _, kp_nil⟩, fun L x h => ⟨hz.held h.1, h.2⟩, ?_⟩
        have hz := Stp.refl I21800 w21799
        refine ⟨?_, trivial⟩
        refine ev_alloc hp rfl T24 ?_
        intro g21803 w21804 hp hs
        replace hz := hz.trans hs
        replace r21796 := r21796.step hs
        replace r21802 := r21802.step hs
        refine ⟨SK (Stp I21800 w21804 I21800) [] [], ⟨Stp.refl _ _, kp_nil⟩, fun L x h => ⟨hz.held h.1, h.2⟩, ?_⟩
        have hz := Stp.refl I21800 w21804
        refine ⟨?_, trivial⟩
        refine ev_storeA hp (i := 0) (off := 0) (vs := [(.bool x21791.Neg), v21795]) rfl rfl rfl rfl T24 rfl (Nat.le_of_ble_eq_true rfl) (ones_cons rfl (ones_cons r21796.one ones_nil)) ?_
        intro w21805 hp hs
        replace hz := hz.trans hs
        replace r21802 := r21802.step hs
        replace r21796 := r21796.step hs
        refine ⟨SK (Stp I21800 w21805 I21800) [] [], ⟨Stp.refl _ _, kp_nil⟩, fun L x h => ⟨hz.held h.1, h.2⟩, ?_⟩
        have hz := Stp.refl I21800 w21805
        refine ⟨?_, trivial⟩
        refine ev_storeA hp (i := 1) (off := 0) (vs := [(.bool x21797.Neg), v21801]) rfl rfl rfl rfl T24 rfl (Nat.le_of_ble_eq_true rfl) (ones_cons rfl (ones_cons r21802.one ones_nil)) ?_
        intro w21806 hp hs
        replace hz := hz.trans hs
        replace r21796 := r21796.step hs
        replace r21802 := r21802.step hs
        refine ⟨SK (Stp I21800 w21806 I21800) [] [], ⟨Stp.refl _ _, kp_nil⟩, fun L x h => ⟨hz.held h.1, h.2⟩, ?_⟩
        have hz := Stp.refl I21800 w21806
        obtain rfl := Option.some.inj q21520
        have hp := hp.perm [2, 0, 1] (by decide)
        exact ⟨(x21791.Neg, x21791.Mag, x21797.Neg, x21797.Mag, g21803, v21795, g21789, v21801, I21800), (.c rfl (.c rfl (.c rfl .n))), rfl, hp, r21796, r21802⟩
      refine ⟨?_, trivial⟩
      refine ev_alloc hp rfl T24 ?_
      intro g21807 w21808 hp hs
      replace hz := hz.trans hs
      replace r21181 := r21181.step hs
      replace r21796 := r21796.step hs
      refine ⟨SK (Stp I21794 w21808 I21794) [] [], ⟨Stp.refl _ _, kp_nil⟩, fun L x h => ⟨hz.held h.1, h.2⟩, ?_⟩
      have hz := Stp.refl I21794 w21808
      refine ⟨?_, trivial⟩
      obtain ⟨x21809, q21810, q21520⟩ := bind_some q21520
      refine ev_call rfl rfl C32 (((integer_Abs_ok n) _ _  (Int_2.mk x21179.Neg x21179.Mag) v21180 r21181 hp.imm _ q21810).mono ?_)
      rintro _ w21811 ⟨I21812, v21813, hv, hq, r21814⟩
      replace hv := hv.symm
      subst hv
      have hs := hq.st
      have hp := hp.join0 hq
      replace hz := hz.trans hs
      replace r21796 := r21796.step hs
      refine ⟨SK (Stp I21812 w21811 I21812) [] [], ⟨Stp.refl _ _, kp_nil⟩, fun L x h => ⟨hz.held h.1, h.2⟩, ?_⟩
      have hz := Stp.refl I21812 w21811
      refine ⟨?_, trivial⟩
      refine ev_storeA hp (i := 0) (off := 0) (vs := [(.bool x21791.Neg), v21795]) rfl rfl rfl rfl T24 rfl (Nat.le_of_ble_eq_true rfl) (ones_cons rfl (ones_cons r21796.one ones_nil)) ?_
      intro w21815 hp hs
      replace hz := hz.trans hs
      replace r21814 := r21814.step hs
      replace r21796 := r21796.step hs
      refine ⟨SK (Stp I21812 w21815 I21812) [] [], ⟨Stp.refl _ _, kp_nil⟩, fun L x h => ⟨hz.held h.1, h.2⟩, ?_⟩
      have hz := Stp.refl I21812 w21815
      refine ⟨?_, trivial⟩
      refine ev_storeA hp (i := 1) (off := 0) (vs := [(.bool x21809.Neg), v21813]) rfl rfl rfl rfl T24 rfl (Nat.le_of_ble_eq_true rfl) (ones_cons rfl (ones_cons r21814.one ones_nil)) ?_
      intro w21816 hp hs
      replace hz := hz.trans hs
      replace r21796 := r21796.step hs
      replace r21814 := r21814.step hs
      refine ⟨SK (Stp I21812 w21816 I21812) [] [], ⟨Stp.refl _ _, kp_nil⟩, fun L x h => ⟨hz.held h.1, h.2⟩, ?_⟩
      have hz := Stp.refl I21812 w21816
      obtain rfl := Option.some.inj q21520
      have hp := hp.perm [2, 0, 1] (by decide)
      exact ⟨(x21791.Neg, x21791.Mag, x21809.Neg, x21809.Mag, g21807, v21795, g21789, v21813, I21812), (.c rfl (.c rfl (.c rfl .n))), rfl, hp, r21796, r21814⟩
    refine ⟨?_, trivial⟩
    refine ev_alloc hp rfl T24 ?_
    intro g21817 w21818 hp hs
    replace hz := hz.trans hs
    replace r21178 := r21178.step hs
    replace r21181 := r21181.step hs
    refine ⟨SK (Stp I21191 w21818 I21191) [] [], ⟨Stp.refl _ _, kp_nil⟩, fun L x h => ⟨hz.held h.1, h.2⟩, ?_⟩
    have hz := Stp.refl I21191 w21818
    refine ⟨?_, trivial⟩
    obtain ⟨x21819, q21820, q21520⟩ := bind_some q21520
    refine ev_call rfl rfl C32 (((integer_Abs_ok n) _ _  (Int_2.mk x21176.Neg x21176.Mag) v21177 r21178 hp.imm _ q21820).mono ?_)
    rintro _ w21821 ⟨I21822, v21823, hv, hq, r21824⟩
    replace hv := hv.symm
    subst hv
    have hs := hq.st
    have hp := hp.join0 hq
    replace hz := hz.trans hs
    replace r21181 := r21181.step hs
    refine ⟨SK (Stp I21822 w21821 I21822) [] [], ⟨Stp.refl _ _, kp_nil⟩, fun L x h => ⟨hz.held h.1, h.2⟩, ?_⟩
    have hz := Stp.refl I21822 w21821
    refine ⟨?_, trivial⟩
    obtain ⟨x21825, q21826, q21520⟩ := bind_some q21520
    refine ev_call rfl rfl C32 (((integer_Abs_ok n) _ _  (Int_2.mk x21179.Neg x21179.Mag) v21180 r21181 hp.imm _ q21826).mono ?_)
    rintro _ w21827 ⟨I21828, v21829, hv, hq, r21830⟩
    replace hv := hv.symm
    subst hv
    have hs := hq.st
    have hp := hp.join0 hq
    replace hz := hz.trans hs
    replace r21824 := r21824.step hs
    refine ⟨SK (Stp I21828 w21827 I21828) [] [], ⟨Stp.refl _ _, kp_nil⟩, fun L x h => ⟨hz.held h.1, h.2⟩, ?_⟩
    have hz := Stp.refl I21828 w21827
    refine ⟨?_, trivial⟩
    refine ev_storeA hp (i := 0) (off := 0) (vs := [(.bool x21819.Neg), v21823]) rfl rfl rfl rfl T24 rfl (Nat.le_of_ble_eq_true rfl) (ones_cons rfl (ones_cons r21824.one ones_nil)) ?_
    intro w21831 hp hs
    replace hz := hz.trans hs
    replace r21830 := r21830.step hs
    replace r21824 := r21824.step hs
    refine ⟨SK (Stp I21828 w21831 I21828) [] [], ⟨Stp.refl _ _, kp_nil⟩, fun L x h => ⟨hz.held h.1, h.2⟩, ?_⟩
    have hz := Stp.refl I21828 w21831
    refine ⟨?_, trivial⟩
    refine ev_storeA hp (i := 1) (off := 0) (vs := [(.bool x21825.Neg), v21829]) rfl rfl rfl rfl T24 rfl (Nat.le_of_ble_eq_true rfl) (ones_cons rfl (ones_cons r21830.one ones_nil)) ?_
    intro w21832 hp hs
    replace hz := hz.trans hs
    replace r21824 := r21824.step hs
    replace r21830 := r21830.step hs
    refine ⟨SK (Stp I21828 w21832 I21828) [] [], ⟨Stp.refl _ _, kp_nil⟩, fun L x h => ⟨hz.held h.1, h.2⟩, ?_⟩
    have hz := Stp.refl I21828 w21832
    obtain rfl := Option.some.inj q21520
    have hp := hp.perm [2, 0, 1] (by decide)
    exact ⟨(x21819.Neg, x21819.Mag, x21825.Neg, x21825.Mag, g21817, v21823, g21789, v21829, I21828), (.c rfl (.c rfl (.c rfl .n))), rfl, hp, r21824, r21830⟩
  ·
    rintro ⟨x21508, x21509, x21513, x21514, g21507, v21510, g21512, v21515, I21517⟩ w21518 ⟨hy, hp, r21511, r21516⟩
    replace hy := hy.symm
    subst hy
    obtain ⟨y21922, q21923, h⟩ := bind_some h
    refine W.cut (γ := (Bool × (List Int) × Value × (Nat → Prop))) (fun g => [(4, (.pointer (some ⟨g21193, 0, none⟩))), (5, (.pointer (some ⟨g21507, 0, none⟩)))]) (fun g w' => y21922 = ((g.1), (g.2.1)) ∧ Hp ⟨w0, I0, []⟩ (g.2.2.2) [some (g21193, [(.bool false), (.slice none 0 0)], 24), some (g21507, [(.bool (g.1)), (g.2.2.1)], 24)] w' ∧ RepS (dI .u32) w' (g.2.2.2) (g.2.2.1) (g.2.1)) ?_ ?_
    ·
      apply go
      refine W.loop q21923 (γ := (Value × Value × (Nat → Prop))) (fun s g => [(4, (.pointer (some ⟨g21193, 0, none⟩))), (5, (.pointer (some ⟨g21507, 0, none⟩))), (6, (.pointer (some ⟨g21512, 0, none⟩)))]) (fun s g w' => Hp ⟨w0, I0, []⟩ (g.2.2) [some (g21193, [(.bool false), (.slice none 0 0)], 24), some (g21507, [(.bool (s.1)), (g.1)], 24), some (g21512, [(.bool (s.2.2.1)), (g.2.1)], 24)] w' ∧ RepS (dI .u32) w' (g.2.2) (g.1) (s.2.1) ∧ RepS (dI .u32) w' (g.2.2) (g.2.1) (s.2.2.2)) (v21510, v21515, I21517) (.c rfl (.c rfl (.c rfl .n))) ⟨hp, r21511, r21516⟩ ?_
      rintro ⟨x21944, x21945, x21948, x21949⟩ ⟨v21946, v21950, I21952⟩ w21982 y21983 ⟨hp, r21947, r21951⟩ q21984 q21985
      unfold integer_Gcd_L1 at q21984
      apply go
      apply go
      apply go
      refine ev0 (rn_field rfl rfl FO24_1) ?_
      refine ev (rn_load rfl rfl (run_loadVar1 T22 (hp.cell (i := 2) (off := 1) rfl rfl))) ?_
      refine ev0 (rn_len rfl rfl Tryz.underlying22 r21951) ?_
      apply go
      refine sel_of (fun hc => ?_) (fun hc => ?_)
      ·
        have q21984 := cond_t q21984 hc
        apply go
        apply go
        apply go
        apply go
        refine ev (rn_load rfl rfl (run_loadVarA T24 rfl (hp.at_ (i := 1) rfl))) ?_
        refine ev (rn_load rfl rfl (run_loadVarA T24 rfl (hp.at_ (i := 2) rfl))) ?_
        obtain ⟨⟨x21986, x21987, x21988⟩, q21989, q21984⟩ := bind_some q21984
        refine ev_call rfl rfl C24 (((integer_DivMod_ok n) _ _  (Int_2.mk x21944 x21945) v21946 r21947 (Int_2.mk x21948 x21949) v21950 r21951 hp.imm _ q21989).mono ?_)
        rintro _ w21990 ⟨I21991, v21992, v21994, hv, hq, r21993, r21995⟩
        replace hv := hv.symm
        subst hv
        have hs := hq.st
        have hp := hp.join0 hq
        replace r21947 := r21947.step hs
        replace r21951 := r21951.step hs
        refine ev_alloc hp rfl T24 ?_
        intro g21996 w21997 hp hs
        replace r21993 := r21993.step hs
        replace r21995 := r21995.step hs
        replace r21947 := r21947.step hs
        replace r21951 := r21951.step hs
        refine ev_alloc hp rfl T24 ?_
        intro g21998 w21999 hp hs
        replace r21993 := r21993.step hs
        replace r21995 := r21995.step hs
        replace r21947 := r21947.step hs
        replace r21951 := r21951.step hs
        refine ev_storeA hp (i := 1) (off := 0) (vs := [(.bool x21986.Neg), v21992]) rfl rfl rfl rfl T24 rfl (Nat.le_of_ble_eq_true rfl) (ones_cons rfl (ones_cons r21993.one ones_nil)) ?_
        intro w22000 hp hs
        replace r21995 := r21995.step hs
        replace r21993 := r21993.step hs
        replace r21947 := r21947.step hs
        replace r21951 := r21951.step hs
        refine ev_storeA hp (i := 0) (off := 0) (vs := [(.bool x21987.Neg), v21994]) rfl rfl rfl rfl T24 rfl (Nat.le_of_ble_eq_true rfl) (ones_cons rfl (ones_cons r21995.one ones_nil)) ?_
        intro w22001 hp hs
        replace r21995 := r21995.step hs
        replace r21993 := r21993.step hs
        replace r21947 := r21947.step hs
        replace r21951 := r21951.step hs
        have hs := hp.stp (Ch.drew [] w22001)
        have hp := hp.drew
        replace r21995 := r21995.step hs
        replace r21993 := r21993.step hs
        replace r21947 := r21947.step hs
        replace r21951 := r21951.step hs
        refine W.held [(1, true), (0, false), (2, false), (3, false)] (fun x => Stp I21991 w22001.drew I21991 x ∧ OwnK [(g21998, [(.bool x21987.Neg), v21994], 24)] x) MX (by kernel_rfl) ⟨Stp.refl _ _, (OwnK.cons (hp.own 0 _ _ _ rfl).1 OwnK.nil)⟩ ?_
        have hz := Stp.refl I21991 w22001.drew
        refine evh (fun w' hw => rn_load rfl rfl (run_loadVarA T24 rfl (hw.2.at_ (i := 0) rfl))) ?_
        refine ev (rn_load rfl rfl (run_loadVarA T24 rfl (hp.at_ (i := 4) rfl))) ?_
        refine ⟨fun x => Stp I21991 w22001.drew I21991 x ∧ OwnK [(g21998, [(.bool x21987.Neg), v21994], 24)] x, ⟨Stp.refl _ _, (OwnK.cons (hp.own 0 _ _ _ rfl).1 OwnK.nil)⟩, fun x hx => ⟨hz.held hx.1, hx.2⟩, ?_⟩
        have hz := Stp.refl I21991 w22001.drew
        refine ev_storeA hp (i := 3) (off := 0) (vs := [(.bool x21948), v21950]) rfl rfl rfl rfl T24 rfl (Nat.le_of_ble_eq_true rfl) (ones_cons rfl (ones_cons r21951.one ones_nil)) ?_
        intro w22004 hp hs
        replace hz := hz.trans hs
        replace r21995 := r21995.step hs
        replace r21993 := r21993.step hs
        replace r21951 := r21951.step hs
        refine ⟨fun x => Stp I21991 w22004 I21991 x ∧ OwnK [(g21998, [(.bool x21987.Neg), v21994], 24)] x, ⟨Stp.refl _ _, (OwnK.cons (hp.own 0 _ _ _ rfl).1 OwnK.nil)⟩, fun x hx => ⟨hz.held hx.1, hx.2⟩, ?_⟩
        have hz := Stp.refl I21991 w22004
        refine ev_storeA hp (i := 4) (off := 0) (vs := [(.bool x21987.Neg), v21994]) rfl rfl rfl rfl T24 rfl (Nat.le_of_ble_eq_true rfl) (ones_cons rfl (ones_cons r21995.one ones_nil)) ?_
        intro w22005 hp hs
        replace hz := hz.trans hs
        replace r21995 := r21995.step hs
        replace r21993 := r21993.step hs
        replace r21951 := r21951.step hs
        refine ⟨fun x => Stp I21991 w22005 I21991 x ∧ OwnK [(g21998, [(.bool x21987.Neg), v21994], 24)] x, ⟨Stp.refl _ _, (OwnK.cons (hp.own 0 _ _ _ rfl).1 OwnK.nil)⟩, fun x hx => ⟨hz.held hx.1, hx.2⟩, ?_⟩
        have hz := Stp.refl I21991 w22005
        have hp := hp.sel [2, 3, 4] (by decide)
        exact ⟨_, (Option.some.inj q21984).symm, (v21950, v21994, I21991), (.c rfl (.c rfl (.c rfl .n))), ⟨hp, r21951, r21995⟩⟩
      ·
        have q21984 := cond_f q21984 hc
        apply go
        have q22006 := congrArg some (q21985 _ (Option.some.inj q21984).symm)
        obtain rfl := Option.some.inj q22006
        have hp := hp.sel [0, 1] (by decide)
        exact ⟨(x21944, x21945, v21946, I21952), (.c rfl (.c rfl .n)), rfl, hp, r21947⟩
    ·
      rintro ⟨x21916, x21917, v21918, I21920⟩ w21921 ⟨hy, hp, r21919⟩
      replace hy := hy.symm
      subst hy
      apply go
      apply go
      refine ev (rn_load rfl rfl (run_loadVarA T24 rfl (hp.at_ (i := 1) rfl))) ?_
      refine ev_storeA hp (i := 0) (off := 0) (vs := [(.bool x21916), v21918]) rfl rfl rfl rfl T24 rfl (Nat.le_of_ble_eq_true rfl) (ones_cons rfl (ones_cons r21919.one ones_nil)) ?_
      intro w22007 hp hs
      replace r21919 := r21919.step hs
      apply go
      obtain rfl := Option.some.inj h
      refine ⟨_, run_loadVarA T24 rfl (hp.at_ (i := 0) rfl), ?_⟩
      have hp := hp.sel [] (by decide)
      exact ⟨I21920, v21918, rfl, hp, r21919⟩

end Go.Proofs.YthhghkcopfnbiaaGreatDoor

namespace Go.Proofs.YthhghkcopfnbiaaGreatDoor
open Go Go.Proofs.YthhghkcopfnbiaaGreatDoor.Gw Go.RowKit
set_option linter.unusedVariables false
attribute [local irreducible] Ev EvQ EvS EvH
def ref01_Same_S (f : Int_2 → Int_2 → Option Bool) : Prop := ∀ (w0 : World) (I0 : Nat → Prop) (x19448 : Int_2) (v19449 : Value) (r19450 : RepS (dI .u32) w0 I0 v19449 x19448.Mag) (x19451 : Int_2) (v19452 : Value) (r19453 : RepS (dI .u32) w0 I0 v19452 x19451.Mag) (hI : ∀ g, I0 g → g < w0.heap.size) (r : Bool), f x19448 x19451 = some r →
    Ret Tryz.prog 21 #[(.agg #[(.bool x19448.Neg), v19449]), (.agg #[(.bool x19451.Neg), v19452])] w0 fun v w1 => v = (.bool r) ∧ Ch [] w0 w1
theorem ref01_Same_ok (n : Nat) : ref01_Same_S (ref01_Same n) := by
  intro w0 I0 x19448 v19449 r19450 x19451 v19452 r19453 hI r h
  unfold ref01_Same at h
  refine enter Tryz.func21 rfl (Nat.le_of_ble_eq_true rfl) ?_
  have hp : Hp ⟨w0, I0, []⟩ I0 [] w0 := Hp.start hI
  apply go
  apply go
  refine ev_boxI hp rfl rfl ?_
  intro p19456 I19457 w19455 hp hs a19458
  replace r19453 := r19453.step hs
  replace r19450 := r19450.step hs
  refine ev_boxI hp rfl rfl ?_
  intro p19461 I19462 w19460 hp hs a19463
  replace a19458 := a19458.step hs
  replace r19450 := r19450.step hs
  replace r19453 := r19453.step hs
  apply go
  obtain ⟨y19465, q19466, h⟩ := bind_some h
  refine W.cut (γ := Bool) (fun g => [(2, (.pointer (some (p19456)))), (3, (.pointer (some (p19461)))), (19, (.bool (g)))]) (fun g w' => y19465 = (g) ∧ w19460 = w') ?_ ?_
  ·
    apply go
    refine ev0 (rn_field rfl rfl FO24_0) ?_
    refine ev (rn_load rfl rfl (run_loadVar1 T4 (a19458.2 0 _ rfl))) ?_
    refine ev0 (rn_field rfl rfl FO24_0) ?_
    refine ev (rn_load rfl rfl (run_loadVar1 T4 (a19463.2 0 _ rfl))) ?_
    refine ev0 (rn_neB rfl rfl rfl Tryz.underlying4) ?_
    refine sel_of (fun hc => ?_) (fun hc => ?_)
    ·
      have q19466 := cond_t q19466 hc
      obtain rfl := Option.some.inj q19466
      exact ⟨true, (.c rfl (.c rfl (.c rfl .n))), rfl, rfl⟩
    ·
      have q19466 := cond_f q19466 hc
      refine ev0 (rn_field rfl rfl FO24_1) ?_
      refine ev (rn_load rfl rfl (run_loadVar1 T22 (a19458.2 1 _ rfl))) ?_
      refine ev0 (rn_len rfl rfl Tryz.underlying22 r19450) ?_
      refine ev0 (rn_field rfl rfl FO24_1) ?_
      refine ev (rn_load rfl rfl (run_loadVar1 T22 (a19463.2 1 _ rfl))) ?_
      refine ev0 (rn_len rfl rfl Tryz.underlying22 r19453) ?_
      obtain rfl := Option.some.inj q19466
      exact ⟨((x19448.Mag.length : Int) != (x19451.Mag.length : Int)), (.c rfl (.c rfl (.c rfl .n))), rfl, rfl⟩
  ·
    rintro x19464 _ ⟨hy, rfl⟩
    replace hy := hy.symm
    subst hy
    apply go
    refine sel_of (fun hc => ?_) (fun hc => ?_)
    ·
      have h := cond_t h hc
      apply go
      apply go
      apply go
      obtain rfl := Option.some.inj h
      exact ⟨rfl, hp.ch⟩
    ·
      have h := cond_f h hc
      apply go
      obtain ⟨y19515, q19516, h⟩ := bind_some h
      refine W.cut (γ := Unit) (fun _ => []) (fun _ w' => y19515 = .go () ∧ Hp ⟨w0, I0, []⟩ I19462 [] w') ?_ ?_
      ·
        apply go
        apply go
        apply go
        refine W.loop q19516 (γ := Unit) (fun s _ => [(2, (.pointer (some (p19456)))), (3, (.pointer (some (p19461)))), (5, (.int .i64 (s)))]) (fun s _ w' => Hp ⟨w0, I0, []⟩ I19462 [] w' ∧ RepS (dI .u32) w' I19462 v19449 x19448.Mag ∧ At w' I19462 p19456 [(.bool x19448.Neg), v19449] ∧ RepS (dI .u32) w' I19462 v19452 x19451.Mag ∧ At w' I19462 p19461 [(.bool x19451.Neg), v19452]) () (.c rfl (.c rfl (.c rfl .n))) ⟨hp, r19450, a19458, r19453, a19463⟩ ?_
        rintro x19530 ⟨⟩ w19545 y19546 ⟨hp, r19450, a19458, r19453, a19463⟩ q19547 q19548
        unfold ref01_Same_L1 at q19547
        apply go
        apply go
        apply go
        refine ev0 (rn_field rfl rfl FO24_1) ?_
        refine ev (rn_load rfl rfl (run_loadVar1 T22 (a19458.2 1 _ rfl))) ?_
        refine ev0 (rn_len rfl rfl Tryz.underlying22 r19450) ?_
        apply go
        refine sel_of (fun hc => ?_) (fun hc => ?_)
        ·
          have q19547 := cond_t q19547 hc
          apply go
          apply go
          apply go
          apply go
          refine W.quiet (fun w' => Ch [] w19545 w') MX (by kernel_rfl) (Ch.drew [] w19545) ?_
          refine evq0 (rn_field rfl rfl FO24_1) ?_
          refine evq (fun w' hw => rn_load rfl rfl (run_loadVar1 T22 ((a19458.step (hp.stp hw)).2 1 _ rfl))) ?_
          obtain ⟨x19549, q19550, q19547⟩ := bind_some q19547
          refine evq_index rfl rfl rfl Tryz.underlying22 T45 r19450 q19550 ?_
          intro p19551 c19552 d19553 a19554
          obtain rfl : c19552 = [(.int .u32 x19549)] := d19553
          refine evq (fun w' hw => rn_load rfl rfl (run_loadVar1 T45 ((a19554.step (hp.stp hw)).2 0 _ rfl))) ?_
          refine evq0 (rn_field rfl rfl FO24_1) ?_
          refine evq (fun w' hw => rn_load rfl rfl (run_loadVar1 T22 ((a19463.step (hp.stp hw)).2 1 _ rfl))) ?_
          obtain ⟨x19555, q19556, q19547⟩ := bind_some q19547
          refine evq_index rfl rfl rfl Tryz.underlying22 T45 r19453 q19556 ?_
          intro p19557 c19558 d19559 a19560
          obtain rfl : c19558 = [(.int .u32 x19555)] := d19559
          refine evq (fun w' hw => rn_load rfl rfl (run_loadVar1 T45 ((a19560.step (hp.stp hw)).2 0 _ rfl))) ?_
          intro w19561 hc
          have hs := hp.stp hc
          replace hp := hp.ext hc
          replace a19458 := a19458.step hs
          replace r19450 := r19450.step hs
          replace a19463 := a19463.step hs
          replace r19453 := r19453.step hs
          apply go
          refine sel_of (fun hc => ?_) (fun hc => ?_)
          ·
            have q19547 := cond_t q19547 hc
            apply go
            apply go
            apply go
            have q19562 := congrArg some (q19548 _ (Option.some.inj q19547).symm)
            obtain rfl := Option.some.inj q19562
            obtain rfl := Option.some.inj h
            exact ⟨rfl, hp.ch⟩
          ·
            have q19547 := cond_f q19547 hc
            apply go
            apply go
            exact ⟨_, (Option.some.inj q19547).symm, (), (.c rfl (.c rfl (.c rfl .n))), ⟨hp, r19450, a19458, r19453, a19463⟩⟩
        ·
          have q19547 := cond_f q19547 hc
          apply go
          have q19563 := congrArg some (q19548 _ (Option.some.inj q19547).symm)
          obtain rfl := Option.some.inj q19563
          exact ⟨(), .n, rfl, hp⟩
      ·
        rintro ⟨⟩ w19514 ⟨hy, hp⟩
        replace hy := hy.symm
        subst hy
        apply go
        apply go
        apply go
        obtain rfl := Option.some.inj h
        exact ⟨rfl, hp.ch⟩

end Go.Proofs.YthhghkcopfnbiaaGreatDoor

namespace Go.Proofs.YthhghkcopfnbiaaGreatDoor
open Go Go.Proofs.YthhghkcopfnbiaaGreatDoor.Gw Go.RowKit
set_option linter.unusedVariables false
attribute [local irreducible] Ev EvQ EvS EvH
def strconv_FormatUint_S (f : Int → Int → Option ByteArray) : Prop := ∀ (w0 : World) (I0 : Nat → Prop) (tb : Tb w0 I0 1 .u64 pow10) (x19564 : Int) (x19565 : Int) (hI : ∀ g, I0 g → g < w0.heap.size) (r : ByteArray), f x19564 x19565 = some r →
    Ret Tryz.prog 58 #[(.int .u64 x19564), (.int .i64 x19565)] w0 fun v w1 => v = (.string r) ∧ Ch [] w0 w1

open Go.Sort in
theorem fmt_zero (w : World) (nd : Nat) (hs : nd ≤ 24) : Holds (fun (b : UInt8) => Value.int .u8 (b.toNat : Int)) (w.alloc (.cells Lib.zeros24 95)) w.heap.size 0 (Array.replicate nd (0 : UInt8)) := fun j hj => by
  have hj' : j < nd := by simpa using hj
  refine ⟨?_, World.frozen?_alloc_new _ _ _ _⟩
  rw [World.cell?_alloc_new, Lib.zeros24_at _ (by omega), getElem!_pos _ j hj]
  simp
open Go.Sort in
theorem fmt_below (w : World) (o : Obj) (dk : Array UInt8) (k : Nat) : Below w.heap.size w ((putRow (fun (b : UInt8) => Value.int .u8 (b.toNat : Int)) (w.alloc o) w.heap.size 0 dk).drewN k) := by
  have h1 : Below w.heap.size w (putRow (fun (b : UInt8) => Value.int .u8 (b.toNat : Int)) (w.alloc o) w.heap.size 0 dk) := by
    refine ⟨rfl, rfl, rfl, by rw [size_putRow]; exact (Below.alloc (Below.refl w.heap.size w) (Nat.le_refl _) o).size, fun g hg => ?_⟩
    rw [← Below.heap_alloc w o g hg]
    unfold putRow mapBlock
    dsimp only
    rw [Array.getElem?_modify, if_neg (by omega)]
  refine ⟨?_, ?_, ?_, ?_, ?_⟩
  · exact h1.os
  · exact h1.tape
  · exact h1.output
  · exact h1.size
  · exact h1.block
set_option maxHeartbeats 6400000 in
set_option maxRecDepth 100000 in
theorem fmt_big (u : Nat) (h100 : 100 ≤ u) (hu64 : u < 18446744073709551616) (w : World) (htab : Lib.TabIs Tryz.prog w "internal/strconv.uint64pow10" .u64 Lib.pow10Tab) :
    Calls Tryz.prog 74 #[.int .u64 u, .int .i64 10] w fun e w' => e = .returned (.string ⟨(Lib.decDigits u).toArray⟩) ∧ Below w.heap.size w w' := by
  have hu1 : 1 ≤ u := by omega
  have hnd20 : Lib.nDigits u ≤ 20 := by have := Lib.numDigits_eq u hu1 hu64; split at this <;> omega
  have hb3 : Lib.nDigits u ≤ 24 := by omega
  have hal : Tryz.prog.arrayLen 95 = 24 := by simp [Program.arrayLen, Tryz.underlying95]
  have hsl : ∀ W, (Instr.sliceAt 95 (.pointer (some ⟨w.heap.size, 0, none⟩)) none (some (.int .i64 (Lib.nDigits u : Int))) none).run Tryz.prog W = .ok (.slice (some ⟨w.heap.size, 0, none⟩) (Lib.nDigits u) 24) W := fun W => by
    rw [run_sliceAt_array_h W 95 ⟨w.heap.size, 0, none⟩ (by simp [Program.arrayLen, Program.elem, Tryz.underlying95]) .i64 (Lib.nDigits u : Int) (by omega) (by rw [hal]; omega)]
    go_simp
  have hH0 := fmt_zero w (Lib.nDigits u) (by omega)
  have hfmt := sh_internal_strconv_formatBase10 w.heap.size 0 24 u (Array.replicate (Lib.nDigits u) 0) (w.alloc (.cells Lib.zeros24 95)) hH0 (by rw [Array.size_replicate]; exact Lib.lt_pow_nDigits u) hu64 (by rw [Array.size_replicate]; omega)
  rw [Array.size_replicate] at hfmt
  have HH0 := Lib.hid hH0
  clear hH0 hal
  go_enter Tryz.func74, Tryz.ntmps74
  go_wp2_with (first
    | (go_at_call 92; refine (sh_internal_strconv_numDigits u hu1 hu64 _ (Lib.tabIs_alloc htab _)).mono ?_; rintro e w' ⟨rfl, rfl⟩))
  go_at_call 93
  refine hfmt.mono ?_
  rintro e w' ⟨rfl, k, v', dk, rfl, hF⟩
  have hcv : (convert 70 9 (.slice (some ⟨w.heap.size, 0, none⟩) (Lib.nDigits u) 24)).run Tryz.prog ((Go.Sort.putRow (fun (b : UInt8) => Value.int .u8 (b.toNat : Int)) (w.alloc (.cells Lib.zeros24 95)) w.heap.size 0 dk).drewN k) = .ok (.string ⟨(Lib.decDigits u).toArray⟩) ((Go.Sort.putRow (fun (b : UInt8) => Value.int .u8 (b.toNat : Int)) (w.alloc (.cells Lib.zeros24 95)) w.heap.size 0 dk).drewN k) := by
    have h := run_convert_bytes_back (P := Tryz.prog) ((Go.Sort.putRow (fun (b : UInt8) => Value.int .u8 (b.toNat : Int)) (w.alloc (.cells Lib.zeros24 95)) w.heap.size 0 dk).drewN k) 70 9 5 ⟨w.heap.size, 0, none⟩ 24 (Lib.decDigits u) Tryz.underlying70 Tryz.underlying5 Tryz.underlying9 (fun j hj => by
      rw [Lib.row_is_numeral hF j hj, Lib.add_plain, World.cell?_drewN]
      exact Go.Sort.cell?_putRow (fun (b : UInt8) => Value.int .u8 (b.toNat : Int)) _ w.heap.size 0 _ dk HH0.out (by rw [hF.size, Array.size_replicate]) j (by rw [hF.size]; rw [Lib.decDigits_length] at hj; exact hj))
    rw [Lib.decDigits_length] at h
    exact h
  go_wp2
  go_ret
  exact ⟨rfl, fmt_below w _ dk k⟩
theorem fmt_inner (u : Nat) (hu64 : u < 18446744073709551616) (w : World) (htab : Lib.TabIs Tryz.prog w "internal/strconv.uint64pow10" .u64 Lib.pow10Tab) :
    Calls Tryz.prog 74 #[.int .u64 u, .int .i64 10] w fun e w' => e = .returned (.string ⟨(Lib.decDigits u).toArray⟩) ∧ Below w.heap.size w w' := by
  by_cases h100 : u < 100
  · go_enter Tryz.func74, Tryz.ntmps74
    go_wp2_with (first
      | (go_at_call 91; refine (sh_internal_strconv_small u h100 _).mono ?_; rintro e w' ⟨rfl, rfl⟩))
    go_ret
    exact ⟨rfl, Below.refl _ _⟩
  · exact fmt_big u (by omega) hu64 w htab
theorem strconv_FormatUint_ok (n : Nat) : strconv_FormatUint_S (strconv_FormatUint n) := by
  intro w0 I0 tb x b hI r h
  obtain ⟨rfl, ⟨u, rfl, hu⟩, rfl⟩ := fmtU_some h
  have htab : Lib.TabIs Tryz.prog w0 "internal/strconv.uint64pow10" .u64 Lib.pow10Tab := tb.tab (zs := Lib.pow10Tab) (by kernel_rfl)
  apply ret_below
  go_enter Tryz.func58, Tryz.ntmps58
  go_wp2_with (first
    | (go_at_call 74; refine (fmt_inner u hu _ htab).mono ?_; rintro e w' ⟨rfl, hb⟩))
  go_ret
  exact ⟨rfl, hb⟩

end Go.Proofs.YthhghkcopfnbiaaGreatDoor

namespace Go.Proofs.YthhghkcopfnbiaaGreatDoor
open Go Go.Proofs.YthhghkcopfnbiaaGreatDoor.Gw Go.RowKit
set_option linter.unusedVariables false
attribute [local irreducible] Ev EvQ EvS EvH
def bits_Mul32_S (f : Int → Int → Option (Int × Int)) : Prop := ∀ (w0 : World) (I0 : Nat → Prop) (x19566 : Int) (x19567 : Int) (hI : ∀ g, I0 g → g < w0.heap.size) (r : (Int × Int)), f x19566 x19567 = some r →
    Ret Tryz.prog 95 #[(.int .u32 x19566), (.int .u32 x19567)] w0 fun v w1 => v = (.tuple #[(.int .u32 r.1), (.int .u32 r.2)]) ∧ Ch [] w0 w1
theorem bits_Mul32_ok (n : Nat) : bits_Mul32_S (bits_Mul32 n) := by
  intro w0 I0 x19566 x19567 hI r h
  unfold bits_Mul32 at h
  refine enter Tryz.func95 rfl (Nat.le_of_ble_eq_true rfl) ?_
  have hp : Hp ⟨w0, I0, []⟩ I0 [] w0 := Hp.start hI
  apply go
  apply go
  apply go
  apply go
  refine ev0 (rn_conv rfl rfl U45 Tryz.underlying49) ?_
  refine ev0 (rn_conv rfl rfl U45 Tryz.underlying49) ?_
  apply go
  apply go
  refine ⟨by decide, ?_⟩
  refine ev0 (rn_conv rfl rfl U49 Tryz.underlying45) ?_
  refine ev0 (rn_conv rfl rfl U49 Tryz.underlying45) ?_
  apply go
  obtain rfl := Option.some.inj h
  exact ⟨rfl, hp.ch⟩

end Go.Proofs.YthhghkcopfnbiaaGreatDoor

namespace Go.Proofs.YthhghkcopfnbiaaGreatDoor
open Go Go.Proofs.YthhghkcopfnbiaaGreatDoor.Gw Go.RowKit
set_option linter.unusedVariables false
attribute [local irreducible] Ev EvQ EvS EvH
def bits_Mul64_S (f : Int → Int → Option (Int × Int)) : Prop := ∀ (w0 : World) (I0 : Nat → Prop) (x19568 : Int) (x19569 : Int) (hI : ∀ g, I0 g → g < w0.heap.size) (r : (Int × Int)), f x19568 x19569 = some r →
    Ret Tryz.prog 96 #[(.int .u64 x19568), (.int .u64 x19569)] w0 fun v w1 => v = (.tuple #[(.int .u64 r.1), (.int .u64 r.2)]) ∧ Ch [] w0 w1
theorem bits_Mul64_ok (n : Nat) : bits_Mul64_S (bits_Mul64 n) := by
  intro w0 I0 x19568 x19569 hI r h
  unfold bits_Mul64 at h
  refine enter Tryz.func96 rfl (Nat.le_of_ble_eq_true rfl) ?_
  have hp : Hp ⟨w0, I0, []⟩ I0 [] w0 := Hp.start hI
  apply go
  apply go
  apply go
  apply go
  apply go
  apply go
  refine ⟨by decide, ?_⟩
  apply go
  apply go
  apply go
  apply go
  refine ⟨by decide, ?_⟩
  apply go
  apply go
  apply go
  apply go
  refine ⟨by decide, ?_⟩
  apply go
  apply go
  apply go
  apply go
  refine ⟨by decide, ?_⟩
  apply go
  apply go
  apply go
  apply go
  refine ⟨by decide, ?_⟩
  apply go
  apply go
  apply go
  obtain rfl := Option.some.inj h
  exact ⟨rfl, hp.ch⟩

end Go.Proofs.YthhghkcopfnbiaaGreatDoor

namespace Go.Proofs.YthhghkcopfnbiaaGreatDoor
open Go Go.Proofs.YthhghkcopfnbiaaGreatDoor.Gw Go.RowKit
set_option linter.unusedVariables false
attribute [local irreducible] Ev EvQ EvS EvH
def bits_Mul_S (f : Int → Int → Option (Int × Int)) : Prop := ∀ (w0 : World) (I0 : Nat → Prop) (x19570 : Int) (x19571 : Int) (hI : ∀ g, I0 g → g < w0.heap.size) (r : (Int × Int)), f x19570 x19571 = some r →
    Ret Tryz.prog 75 #[(.int .u64 x19570), (.int .u64 x19571)] w0 fun v w1 => v = (.tuple #[(.int .u64 r.1), (.int .u64 r.2)]) ∧ Ch [] w0 w1
theorem bits_Mul_ok (n : Nat) : bits_Mul_S (bits_Mul n) := by
  intro w0 I0 x19570 x19571 hI r h
  unfold bits_Mul at h
  refine enter Tryz.func75 rfl (Nat.le_of_ble_eq_true rfl) ?_
  have hp : Hp ⟨w0, I0, []⟩ I0 [] w0 := Hp.start hI
  apply go
  apply go
  apply go
  apply go
  apply go
  apply go
  apply go
  obtain ⟨⟨x19572, x19573⟩, q19574, h⟩ := bind_some h
  refine ev_call rfl rfl C96 (((bits_Mul64_ok n) _ _  x19570 x19571 hp.imm _ q19574).mono ?_)
  rintro _ w19575 ⟨rfl, hc⟩
  have hs := hp.stp hc
  replace hp := hp.ext hc
  apply go
  apply go
  apply go
  obtain rfl := Option.some.inj h
  exact ⟨rfl, hp.ch⟩

end Go.Proofs.YthhghkcopfnbiaaGreatDoor

namespace Go.Proofs.YthhghkcopfnbiaaGreatDoor
open Go Go.Proofs.YthhghkcopfnbiaaGreatDoor.Gw Go.RowKit
set_option linter.unusedVariables false
attribute [local irreducible] Ev EvQ EvS EvH
def stringslite_HasPrefix_S (f : ByteArray → ByteArray → Option Bool) : Prop := ∀ (w0 : World) (I0 : Nat → Prop) (x16403 : ByteArray) (x16404 : ByteArray) (hI : ∀ g, I0 g → g < w0.heap.size) (r : Bool), f x16403 x16404 = some r →
    Ret Tryz.prog 97 #[(.string x16403), (.string x16404)] w0 fun v w1 => v = (.bool r) ∧ Ch [] w0 w1
theorem stringslite_HasPrefix_ok (n : Nat) : stringslite_HasPrefix_S (stringslite_HasPrefix n) := by
  intro w0 I0 x16403 x16404 hI r h
  unfold stringslite_HasPrefix at h
  refine enter Tryz.func97 rfl (Nat.le_of_ble_eq_true rfl) ?_
  have hp : Hp ⟨w0, I0, []⟩ I0 [] w0 := Hp.start hI
  apply go
  apply go
  obtain ⟨y16408, q16409, h⟩ := bind_some h
  refine W.cut (γ := Bool) (fun g => [(4, (.bool (g)))]) (fun g w' => y16408 = (g) ∧ w0 = w') ?_ ?_
  ·
    apply go
    refine ev0 (rn_lenS rfl rfl Tryz.underlying9) ?_
    refine ev0 (rn_lenS rfl rfl Tryz.underlying9) ?_
    refine sel_of (fun hc => ?_) (fun hc => ?_)
    ·
      have q16409 := cond_t q16409 hc
      refine ev0 (rn_lenS rfl rfl Tryz.underlying9) ?_
      obtain ⟨x16410, q16411, q16409⟩ := bind_some q16409
      refine ev0 (rn_sliceStr (kl := .i64) (kh := .i64) rfl rfl rfl rfl Tryz.underlying9 q16411) ?_
      obtain rfl := Option.some.inj q16409
      exact ⟨(x16410.toList == x16404.toList), (.c rfl .n), rfl, rfl⟩
    ·
      have q16409 := cond_f q16409 hc
      obtain rfl := Option.some.inj q16409
      exact ⟨false, (.c rfl .n), rfl, rfl⟩
  ·
    rintro x16407 _ ⟨hy, rfl⟩
    replace hy := hy.symm
    subst hy
    apply go
    obtain rfl := Option.some.inj h
    exact ⟨rfl, hp.ch⟩

end Go.Proofs.YthhghkcopfnbiaaGreatDoor

namespace Go.Proofs.YthhghkcopfnbiaaGreatDoor
open Go Go.Proofs.YthhghkcopfnbiaaGreatDoor.Gw Go.RowKit
set_option linter.unusedVariables false
attribute [local irreducible] Ev EvQ EvS EvH
def strings_HasPrefix_S (f : ByteArray → ByteArray → Option Bool) : Prop := ∀ (w0 : World) (I0 : Nat → Prop) (x19576 : ByteArray) (x19577 : ByteArray) (hI : ∀ g, I0 g → g < w0.heap.size) (r : Bool), f x19576 x19577 = some r →
    Ret Tryz.prog 76 #[(.string x19576), (.string x19577)] w0 fun v w1 => v = (.bool r) ∧ Ch [] w0 w1
theorem strings_HasPrefix_ok (n : Nat) : strings_HasPrefix_S (strings_HasPrefix n) := by
  intro w0 I0 x19576 x19577 hI r h
  unfold strings_HasPrefix at h
  refine enter Tryz.func76 rfl (Nat.le_of_ble_eq_true rfl) ?_
  have hp : Hp ⟨w0, I0, []⟩ I0 [] w0 := Hp.start hI
  apply go
  apply go
  apply go
  apply go
  obtain ⟨x19578, q19579, h⟩ := bind_some h
  refine ev_call rfl rfl C97 (((stringslite_HasPrefix_ok n) _ _  x19576 x19577 hp.imm _ q19579).mono ?_)
  rintro _ w19580 ⟨rfl, hc⟩
  have hs := hp.stp hc
  replace hp := hp.ext hc
  apply go
  obtain rfl := Option.some.inj h
  exact ⟨rfl, hp.ch⟩

end Go.Proofs.YthhghkcopfnbiaaGreatDoor

namespace Go.Proofs.YthhghkcopfnbiaaGreatDoor
open Go Go.Proofs.YthhghkcopfnbiaaGreatDoor.Gw Go.RowKit
set_option linter.unusedVariables false
attribute [local irreducible] Ev EvQ EvS EvH
def strings_Repeat_S (f : ByteArray → Int → Option ByteArray) : Prop := ∀ (w0 : World) (I0 : Nat → Prop) (x19581 : ByteArray) (x19582 : Int) (hI : ∀ g, I0 g → g < w0.heap.size) (r : ByteArray), f x19581 x19582 = some r →
    Ret Tryz.prog 59 #[(.string x19581), (.int .i64 x19582)] w0 fun v w1 => v = (.string r) ∧ Ch [] w0 w1

theorem strings_Repeat_ok (n : Nat) : strings_Repeat_S (strings_Repeat n) := by
  intro w0 I0 s c hI r h
  obtain ⟨⟨k, rfl, hk⟩, hs, rfl⟩ := repS_some h
  have hm : s.size * k ≤ 1000000 * 1000000 := Nat.mul_le_mul hs hk
  exact ret_below (sh_strings_Repeat s k w0 (by omega) (by omega))

end Go.Proofs.YthhghkcopfnbiaaGreatDoor

namespace Go.Proofs.YthhghkcopfnbiaaGreatDoor
open Go Go.Proofs.YthhghkcopfnbiaaGreatDoor.Gw Go.RowKit
set_option linter.unusedVariables false
attribute [local irreducible] Ev EvQ EvS EvH vch
def slices_Reversestring_string__S (f : (List ByteArray) → Option (List ByteArray)) : Prop := ∀ (w0 : World) (I0 : Nat → Prop) (x19672 : (List ByteArray)) (v19673 : Value) (e19674 : Ent) (o19675 : OwnS dS 9 w0 I0 v19673 e19674 x19672) (hp : Hp ⟨w0, I0, (blk e19674)⟩ I0 [e19674] w0) (r : (List ByteArray)), f x19672 = some r →
    Ret Tryz.prog 60 #[v19673] w0 fun v w1 => ∃ (I1 : Nat → Prop) (u19676 : Ent), v = (.tuple #[]) ∧ Hp ⟨w0, I0, (blk e19674)⟩ I1 [u19676] w1 ∧ OwnS dS 9 w1 I1 v19673 u19676 r ∧ blk u19676 = blk e19674
theorem slices_Reversestring_string__ok (n : Nat) : slices_Reversestring_string__S (slices_Reversestring_string_ n) := by
  intro w0 I0 x19672 v19673 e19674 o19675 hp r h
  unfold slices_Reversestring_string_ at h
  refine enter Tryz.func60 rfl (Nat.le_of_ble_eq_true rfl) ?_
  have o19675z := o19675
  apply go
  apply go
  refine ev0 (x_lenO rfl rfl Tryz.underlying56 o19675) ?_
  apply go
  refine W.loop h (γ := Ent) (fun s g => [(0, v19673), (2, (.int .i64 (s.2.1))), (3, (.int .i64 (s.2.2)))]) (fun s g w' => Hp ⟨w0, I0, (blk e19674)⟩ I0 [(g)] w' ∧ OwnS dS 9 w' I0 v19673 (g) (s.1)) e19674 (.c rfl (.c rfl (.c rfl .n))) ⟨hp, o19675⟩ ?_
  rintro ⟨x19988, x19992, x19993⟩ e19990 w20311 y20312 ⟨hp, o19991⟩ q20313 q20314
  unfold slices_Reversestring_string__L0 at q20313
  apply go
  apply go
  apply go
  apply go
  refine sel_of (fun hc => ?_) (fun hc => ?_)
  ·
    have q20313 := cond_t q20313 hc
    apply go
    obtain ⟨y20472, q20473, q20313⟩ := bind_some q20313
    refine W.cut (γ := ((List ByteArray) × Ent)) (fun g => [(0, v19673), (2, (.int .i64 x19992)), (3, (.int .i64 x19993))]) (fun g w' => y20472 = (g.1) ∧ Hp ⟨w0, I0, (blk e19674)⟩ I0 [(g.2)] w' ∧ OwnS dS 9 w' I0 v19673 (g.2) (g.1)) ?_ ?_
    ·
      apply go
      have hs := hp.stp (Ch.drew [] w20311)
      have hp := hp.drew
      replace o19991 := o19991.step hs
      refine W.heldG (.q 0 (.q 1 (.q 2 (.q 3 (.q 4 (.q 5 (.q 6 (.q 8 (.q 9 (.q 10 (.l 7 (.l 11 (.q 12 (.l 13 (.q 14 (.l 15 .done .no)) .no)) .no) (.l 11 (.l 7 (.q 12 (.l 13 (.q 14 (.l 15 .done .no)) .no)) .no) .no)))))))))))) (SK (Stp I0 w20311.drew I0) [] []) MX (by kernel_rfl) ⟨Stp.refl _ _, kp_nil⟩ ?_
      have hz := Stp.refl I0 w20311.drew
      refine ⟨SK.same (by kernel_rfl), ?_⟩
      refine ⟨SK.same (by kernel_rfl), ?_⟩
      refine ⟨SK.same (by kernel_rfl), ?_⟩
      refine ⟨SK.same (by kernel_rfl), ?_⟩
      refine ⟨SK.same (by kernel_rfl), ?_⟩
      refine ⟨SK.same (by kernel_rfl), ?_⟩
      refine ⟨SK.same (by kernel_rfl), ?_⟩
      obtain ⟨x20558, q20559, q20473⟩ := bind_some q20473
      refine evh_indexO rfl rfl rfl Tryz.underlying56 T9 o19991 q20559 ?_
      intro g20560 c20561 h20564 d20562 l20563
      refine ⟨SK.same (by kernel_rfl), ?_⟩
      refine ⟨SK.same (by kernel_rfl), ?_⟩
      refine ⟨SK.same (by kernel_rfl), ?_⟩
      obtain ⟨x20566, q20567, q20473⟩ := bind_some q20473
      refine evh_indexO rfl rfl rfl Tryz.underlying56 T9 o19991 q20567 ?_
      intro g20568 c20569 h20572 d20570 l20571
      refine ⟨?_, ?_⟩
      ·
        refine ev (rn_load rfl rfl (run_loadVar1 T9 (hp.cellE (i := 0) rfl h20564 d20562 (j := 0) rfl))) ?_
        refine ⟨SK (Stp I0 w20311.drew I0) [] [], ⟨Stp.refl _ _, kp_nil⟩, fun L x h => ⟨hz.held h.1, h.2⟩, ?_⟩
        have hz := Stp.refl I0 w20311.drew
        refine ⟨?_, trivial⟩
        refine ev (rn_load rfl rfl (run_loadVar1 T9 (hp.cellE (i := 0) rfl h20572 d20570 (j := 0) rfl))) ?_
        refine ⟨SK (Stp I0 w20311.drew I0) [] [], ⟨Stp.refl _ _, kp_nil⟩, fun L x h => ⟨hz.held h.1, h.2⟩, ?_⟩
        have hz := Stp.refl I0 w20311.drew
        refine ⟨SK.same (by kernel_rfl), ?_⟩
        obtain ⟨x20574, q20575, q20473⟩ := bind_some q20473
        refine evh_indexO rfl rfl rfl Tryz.underlying56 T9 o19991 q20575 ?_
        intro g20576 c20577 h20580 d20578 l20579
        refine ⟨?_, trivial⟩
        refine ev_storeE hp (i := 0) rfl h20580 rfl rfl rfl T9 o19991 q20575 (x0 := x20558) rfl ?_
        intro e20583 w20582 hp hs o20584
        replace hz := hz.trans hs
        refine ⟨SK (Stp I0 w20582 I0) [] [], ⟨Stp.refl _ _, kp_nil⟩, fun L x h => ⟨hz.held h.1, h.2⟩, ?_⟩
        have hz := Stp.refl I0 w20582
        refine ⟨SK.same (by kernel_rfl), ?_⟩
        obtain ⟨x20587, q20588, q20473⟩ := bind_some q20473
        refine evh_indexO rfl rfl rfl Tryz.underlying56 T9 o20584 q20588 ?_
        intro g20589 c20590 h20593 d20591 l20592
        refine ⟨?_, trivial⟩
        refine ev_storeE hp (i := 0) rfl h20593 rfl rfl rfl T9 o20584 q20588 (x0 := x20566) rfl ?_
        intro e20596 w20595 hp hs o20597
        replace hz := hz.trans hs
        refine ⟨SK (Stp I0 w20595 I0) [] [], ⟨Stp.refl _ _, kp_nil⟩, fun L x h => ⟨hz.held h.1, h.2⟩, ?_⟩
        have hz := Stp.refl I0 w20595
        obtain rfl := Option.some.inj q20473
        exact ⟨((upd (upd x19988 x19992 x20558) x19993 x20566), e20596), (.c rfl (.c rfl (.c rfl .n))), rfl, hp, o20597⟩
      refine ⟨?_, trivial⟩
      refine ev (rn_load rfl rfl (run_loadVar1 T9 (hp.cellE (i := 0) rfl h20572 d20570 (j := 0) rfl))) ?_
      refine ⟨SK (Stp I0 w20311.drew I0) [] [], ⟨Stp.refl _ _, kp_nil⟩, fun L x h => ⟨hz.held h.1, h.2⟩, ?_⟩
      have hz := Stp.refl I0 w20311.drew
      refine ⟨?_, trivial⟩
      refine ev (rn_load rfl rfl (run_loadVar1 T9 (hp.cellE (i := 0) rfl h20564 d20562 (j := 0) rfl))) ?_
      refine ⟨SK (Stp I0 w20311.drew I0) [] [], ⟨Stp.refl _ _, kp_nil⟩, fun L x h => ⟨hz.held h.1, h.2⟩, ?_⟩
      have hz := Stp.refl I0 w20311.drew
      refine ⟨SK.same (by kernel_rfl), ?_⟩
      obtain ⟨x20600, q20601, q20473⟩ := bind_some q20473
      refine evh_indexO rfl rfl rfl Tryz.underlying56 T9 o19991 q20601 ?_
      intro g20602 c20603 h20606 d20604 l20605
      refine ⟨?_, trivial⟩
      refine ev_storeE hp (i := 0) rfl h20606 rfl rfl rfl T9 o19991 q20601 (x0 := x20558) rfl ?_
      intro e20609 w20608 hp hs o20610
      replace hz := hz.trans hs
      refine ⟨SK (Stp I0 w20608 I0) [] [], ⟨Stp.refl _ _, kp_nil⟩, fun L x h => ⟨hz.held h.1, h.2⟩, ?_⟩
      have hz := Stp.refl I0 w20608
      refine ⟨SK.same (by kernel_rfl), ?_⟩
      obtain ⟨x20613, q20614, q20473⟩ := bind_some q20473
      refine evh_indexO rfl rfl rfl Tryz.underlying56 T9 o20610 q20614 ?_
      intro g20615 c20616 h20619 d20617 l20618
      refine ⟨?_, trivial⟩
      refine ev_storeE hp (i := 0) rfl h20619 rfl rfl rfl T9 o20610 q20614 (x0 := x20566) rfl ?_
      intro e20622 w20621 hp hs o20623
      replace hz := hz.trans hs
      refine ⟨SK (Stp I0 w20621 I0) [] [], ⟨Stp.refl _ _, kp_nil⟩, fun L x h => ⟨hz.held h.1, h.2⟩, ?_⟩
      have hz := Stp.refl I0 w20621
      obtain rfl := Option.some.inj q20473
      exact ⟨((upd (upd x19988 x19992 x20558) x19993 x20566), e20622), (.c rfl (.c rfl (.c rfl .n))), rfl, hp, o20623⟩
    ·
      rintro ⟨x20467, e20469⟩ w20471 ⟨hy, hp, o20470⟩
      replace hy := hy.symm
      subst hy
      apply go
      exact ⟨_, (Option.some.inj q20313).symm, e20469, (.c rfl (.c rfl (.c rfl .n))), ⟨hp, o20470⟩⟩
  ·
    have q20313 := cond_f q20313 hc
    apply go
    have q20626 := congrArg some (q20314 _ (Option.some.inj q20313).symm)
    obtain rfl := Option.some.inj q20626
    exact ⟨I0, e19990, rfl, hp, o19991, (OwnS.blk o19675z o19991)⟩

end Go.Proofs.YthhghkcopfnbiaaGreatDoor

namespace Go.Proofs.YthhghkcopfnbiaaGreatDoor
open Go Go.Proofs.YthhghkcopfnbiaaGreatDoor.Gw Go.RowKit
set_option linter.unusedVariables false
attribute [local irreducible] Ev EvQ EvS EvH
def strings_Join_S (f : (List ByteArray) → ByteArray → Option ByteArray) : Prop := ∀ (w0 : World) (I0 : Nat → Prop) (x20627 : (List ByteArray)) (v20628 : Value) (r20629 : RepS dS w0 I0 v20628 x20627) (x20630 : ByteArray) (hI : ∀ g, I0 g → g < w0.heap.size) (r : ByteArray), f x20627 x20630 = some r →
    Ret Tryz.prog 61 #[v20628, (.string x20630)] w0 fun v w1 => v = (.string r) ∧ Ch [] w0 w1

theorem strings_Join_ok (n : Nat) : strings_Join_S (strings_Join n) := by
  intro w0 I0 xs v hr sep hI r h
  obtain ⟨hN, hL, rfl⟩ := joinS_some h
  rcases Nat.eq_zero_or_pos xs.length with h0 | h0
  · obtain rfl := List.eq_nil_of_length_eq_zero h0
    obtain ⟨a, c, rfl, _, _⟩ := hr
    exact ret_same (sh_strings_Join_none a c sep w0)
  · obtain ⟨b, o, c, rfl, hc, hb, hcells⟩ := hr.strs h0
    exact ret_below (sh_strings_Join b o c xs sep w0 hcells (hI b hb) hN hc hL)

end Go.Proofs.YthhghkcopfnbiaaGreatDoor

namespace Go.Proofs.YthhghkcopfnbiaaGreatDoor
open Go Go.Proofs.YthhghkcopfnbiaaGreatDoor.Gw Go.RowKit
set_option linter.unusedVariables false
attribute [local irreducible] Ev EvQ EvS EvH
def integer_Text_S (f : Int_2 → Option ByteArray) : Prop := ∀ (w0 : World) (I0 : Nat → Prop) (tb : Tb w0 I0 1 .u64 pow10) (x20631 : Int_2) (v20632 : Value) (r20633 : RepS (dI .u32) w0 I0 v20632 x20631.Mag) (hI : ∀ g, I0 g → g < w0.heap.size) (r : ByteArray), f x20631 = some r →
    Ret Tryz.prog 25 #[(.agg #[(.bool x20631.Neg), v20632])] w0 fun v w1 => v = (.string r) ∧ Ch [] w0 w1
theorem integer_Text_ok (n : Nat) : integer_Text_S (integer_Text n) := by
  intro w0 I0 tb x20631 v20632 r20633 hI r h
  unfold integer_Text at h
  refine enter Tryz.func25 rfl (Nat.le_of_ble_eq_true rfl) ?_
  have hp : Hp ⟨w0, I0, []⟩ I0 [] w0 := Hp.start hI
  apply go
  apply go
  refine ev_boxI hp rfl rfl ?_
  intro p20636 I20637 w20635 hp hs a20638
  replace r20633 := r20633.step hs
  replace tb := tb.step hs
  apply go
  apply go
  refine ev0 (rn_field rfl rfl FO24_1) ?_
  refine ev (rn_load rfl rfl (run_loadVar1 T22 (a20638.2 1 _ rfl))) ?_
  obtain ⟨x20639, q20640, h⟩ := bind_some h
  refine ev_call rfl rfl C46 (((integer_trim_ok n) _ _  x20631.Mag v20632 r20633 hp.imm _ q20640).mono ?_)
  rintro _ w20641 ⟨I20642, v20643, hv, hq, r20644⟩
  replace hv := hv.symm
  subst hv
  have hs := hq.st
  have hp := hp.join0 hq
  replace a20638 := a20638.step hs
  replace r20633 := r20633.step hs
  replace tb := tb.step hs
  obtain ⟨x20645, q20646, h⟩ := bind_some h
  refine ev_call rfl rfl C56 (((slices_Cloneuint32_uint32__ok n) _ _  x20639 v20643 r20644 hp.imm _ q20646).mono ?_)
  rintro _ w20647 ⟨I20648, v20649, hv, hq, r20650⟩
  replace hv := hv.symm
  subst hv
  have hs := hq.st
  have hp := hp.join0 hq
  replace a20638 := a20638.step hs
  replace r20633 := r20633.step hs
  replace tb := tb.step hs
  apply go
  apply go
  apply go
  refine ev0 (rn_len rfl rfl Tryz.underlying22 r20650) ?_
  apply go
  refine sel_of (fun hc => ?_) (fun hc => ?_)
  ·
    have h := cond_t h hc
    apply go
    apply go
    apply go
    obtain rfl := Option.some.inj h
    exact ⟨rfl, hp.ch⟩
  ·
    have h := cond_f h hc
    apply go
    apply go
    apply go
    obtain ⟨y20794, q20795, h⟩ := bind_some h
    refine W.cut (γ := ((List ByteArray) × Value × Ent × (Nat → Prop))) (fun g => [(1, (.pointer (some (p20636)))), (4, (g.2.1))]) (fun g w' => y20794 = (g.1) ∧ Hp ⟨w0, I0, []⟩ (g.2.2.2) [(g.2.2.1)] w' ∧ RepS (dI .u32) w' (g.2.2.2) v20632 x20631.Mag ∧ At w' (g.2.2.2) p20636 [(.bool x20631.Neg), v20632] ∧ OwnS dS 9 w' (g.2.2.2) (g.2.1) (g.2.2.1) (g.1) ∧ Tb w' (g.2.2.2) 1 .u64 pow10) ?_ ?_
    ·
      apply go
      have hp := hp.none_
      have o20890 := OwnS.nil dS 9 w20647 I20648
      refine W.loop q20795 (γ := (Value × Value × Ent × (Nat → Prop))) (fun s g => [(1, (.pointer (some (p20636)))), (3, (g.1)), (4, (g.2.1))]) (fun s g w' => Hp ⟨w0, I0, []⟩ (g.2.2.2) [(g.2.2.1)] w' ∧ RepS (dI .u32) w' (g.2.2.2) v20632 x20631.Mag ∧ At w' (g.2.2.2) p20636 [(.bool x20631.Neg), v20632] ∧ RepS (dI .u32) w' (g.2.2.2) (g.1) (s.1) ∧ OwnS dS 9 w' (g.2.2.2) (g.2.1) (g.2.2.1) (s.2) ∧ Tb w' (g.2.2.2) 1 .u64 pow10) (v20649, (.slice none 0 0), none, I20648) (.c rfl (.c rfl (.c rfl .n))) ⟨hp, r20633, a20638, r20650, o20890, tb⟩ ?_
      rintro ⟨x20835, x20838⟩ ⟨v20836, v20839, e20840, I20842⟩ w20889 y20891 ⟨hp, r20633, a20638, r20837, o20841, tb⟩ q20892 q20893
      unfold integer_Text_L1 at q20892
      apply go
      apply go
      apply go
      refine ev0 (rn_len rfl rfl Tryz.underlying22 r20837) ?_
      apply go
      refine sel_of (fun hc => ?_) (fun hc => ?_)
      ·
        have q20892 := cond_t q20892 hc
        apply go
        apply go
        apply go
        apply go
        apply go
        apply go
        obtain ⟨⟨x20894, x20895⟩, q20896, q20892⟩ := bind_some q20892
        refine ev_call rfl rfl C57 (((integer_short_ok n) _ _  x20835 v20836 r20837 1000000000 hp.imm _ q20896).mono ?_)
        rintro _ w20897 ⟨I20898, v20899, hv, hq, r20900⟩
        replace hv := hv.symm
        subst hv
        have hs := hq.st
        have hp := hp.join0 hq
        replace a20638 := a20638.step hs
        replace r20633 := r20633.step hs
        replace o20841 := o20841.step hs
        replace tb := tb.step hs
        apply go
        apply go
        obtain ⟨x20901, q20902, q20892⟩ := bind_some q20892
        refine ev_call rfl rfl C46 (((integer_trim_ok n) _ _  x20894 v20899 r20900 hp.imm _ q20902).mono ?_)
        rintro _ w20903 ⟨I20904, v20905, hv, hq, r20906⟩
        replace hv := hv.symm
        subst hv
        have hs := hq.st
        have hp := hp.join0 hq
        replace a20638 := a20638.step hs
        replace r20633 := r20633.step hs
        replace o20841 := o20841.step hs
        replace tb := tb.step hs
        apply go
        apply go
        refine ev0 (rn_conv rfl rfl U45 Tryz.underlying49) ?_
        obtain ⟨x20907, q20908, q20892⟩ := bind_some q20892
        refine ev_call rfl rfl C58 (((strconv_FormatUint_ok n) _ _ tb (IntKind.u64.wrap x20895) 10 hp.imm _ q20908).mono ?_)
        rintro _ w20909 ⟨rfl, hc⟩
        have hs := hp.stp hc
        replace hp := hp.ext hc
        replace a20638 := a20638.step hs
        replace r20633 := r20633.step hs
        replace o20841 := o20841.step hs
        replace r20906 := r20906.step hs
        replace tb := tb.step hs
        obtain ⟨y20916, q20917, q20892⟩ := bind_some q20892
        refine W.cut (γ := ByteArray) (fun g => [(1, (.pointer (some (p20636)))), (3, v20905), (4, v20839), (6, (.string (g)))]) (fun g w' => y20916 = (g) ∧ Hp ⟨w0, I0, []⟩ I20904 [e20840] w' ∧ RepS (dI .u32) w' I20904 v20632 x20631.Mag ∧ At w' I20904 p20636 [(.bool x20631.Neg), v20632] ∧ RepS (dI .u32) w' I20904 v20905 x20901 ∧ OwnS dS 9 w' I20904 v20839 e20840 x20838 ∧ Tb w' I20904 1 .u64 pow10) ?_ ?_
        ·
          apply go
          apply go
          refine ev0 (rn_len rfl rfl Tryz.underlying22 r20906) ?_
          apply go
          refine sel_of (fun hc => ?_) (fun hc => ?_)
          ·
            have q20917 := cond_t q20917 hc
            apply go
            refine ev0 (rn_lenS rfl rfl Tryz.underlying9) ?_
            obtain ⟨x20918, q20919, q20917⟩ := bind_some q20917
            refine ev_call rfl rfl C59 (((strings_Repeat_ok n) _ _  (ByteArray.mk #[48]) (IntKind.i64.wrap (9 - (x20907.size : Int))) hp.imm _ q20919).mono ?_)
            rintro _ w20920 ⟨rfl, hc⟩
            have hs := hp.stp hc
            replace hp := hp.ext hc
            replace a20638 := a20638.step hs
            replace r20633 := r20633.step hs
            replace o20841 := o20841.step hs
            replace r20906 := r20906.step hs
            replace tb := tb.step hs
            obtain ⟨q20921, _, q20917⟩ := need_some q20917
            refine ⟨q20921, ?_⟩
            obtain rfl := Option.some.inj q20917
            exact ⟨(x20918 ++ x20907), (.c rfl (.c rfl (.c rfl (.c rfl .n)))), rfl, hp, r20633, a20638, r20906, o20841, tb⟩
          ·
            have q20917 := cond_f q20917 hc
            apply go
            obtain rfl := Option.some.inj q20917
            exact ⟨x20907, (.c rfl (.c rfl (.c rfl (.c rfl .n)))), rfl, hp, r20633, a20638, r20906, o20841, tb⟩
        ·
          rintro x20914 w20915 ⟨hy, hp, r20633, a20638, r20906, o20841, tb⟩
          replace hy := hy.symm
          subst hy
          apply go
          refine ev_litN (d := dS) (xs := [x20914]) (cs := [(.string x20914)]) hp rfl rfl Tryz.underlying56 T9 (by decide) rfl rfl (Elems.cons (d := dS) (xs := _) rfl (Elems.nil _ _ _ _)) ?_
          intro v20922 I20924 w20923 hp hs r20925
          replace a20638 := a20638.step hs
          replace r20633 := r20633.step hs
          replace r20906 := r20906.step hs
          replace o20841 := o20841.step hs
          replace tb := tb.step hs
          obtain ⟨x20926, q20927, q20892⟩ := bind_some q20892
          refine ev_append hp (i := 0) rfl rfl rfl rfl Tryz.underlying56 T9 rfl rfl o20841 r20925 q20927 ?_
          rintro v20928 e20929 w20930 hp hs o20931
          replace a20638 := a20638.step hs
          replace r20633 := r20633.step hs
          replace r20906 := r20906.step hs
          replace tb := tb.step hs
          exact ⟨_, (Option.some.inj q20892).symm, (v20905, v20928, e20929, I20924), (.c rfl (.c rfl (.c rfl .n))), ⟨hp, r20633, a20638, r20906, o20931, tb⟩⟩
      ·
        have q20892 := cond_f q20892 hc
        apply go
        have q20932 := congrArg some (q20893 _ (Option.some.inj q20892).symm)
        obtain rfl := Option.some.inj q20932
        exact ⟨(x20838, v20839, e20840, I20842), (.c rfl (.c rfl .n)), rfl, hp, r20633, a20638, o20841, tb⟩
    ·
      rintro ⟨x20788, v20789, e20790, I20792⟩ w20793 ⟨hy, hp, r20633, a20638, o20791, tb⟩
      replace hy := hy.symm
      subst hy
      obtain ⟨y20949, q20950, h⟩ := bind_some h
      refine W.cut (γ := ((List ByteArray) × Value × Ent × (Nat → Prop))) (fun g => [(4, (g.2.1))]) (fun g w' => y20949 = (g.1) ∧ Hp ⟨w0, I0, []⟩ (g.2.2.2) [(g.2.2.1)] w' ∧ OwnS dS 9 w' (g.2.2.2) (g.2.1) (g.2.2.1) (g.1) ∧ Tb w' (g.2.2.2) 1 .u64 pow10) ?_ ?_
      ·
        apply go
        apply go
        refine ev0 (rn_field rfl rfl FO24_0) ?_
        refine ev (rn_load rfl rfl (run_loadVar1 T4 (a20638.2 0 _ rfl))) ?_
        apply go
        refine sel_of (fun hc => ?_) (fun hc => ?_)
        ·
          have q20950 := cond_t q20950 hc
          apply go
          refine ev_litN (d := dS) (xs := [(ByteArray.mk #[45])]) (cs := [(.string (ByteArray.mk #[45]))]) hp rfl rfl Tryz.underlying56 T9 (by decide) rfl rfl (Elems.cons (d := dS) (xs := _) rfl (Elems.nil _ _ _ _)) ?_
          intro v20951 I20953 w20952 hp hs r20954
          replace o20791 := o20791.step hs
          replace tb := tb.step hs
          obtain ⟨x20955, q20956, q20950⟩ := bind_some q20950
          refine ev_append hp (i := 0) rfl rfl rfl rfl Tryz.underlying56 T9 rfl rfl o20791 r20954 q20956 ?_
          rintro v20957 e20958 w20959 hp hs o20960
          replace tb := tb.step hs
          obtain rfl := Option.some.inj q20950
          exact ⟨(x20955, v20957, e20958, I20953), (.c rfl .n), rfl, hp, o20960, tb⟩
        ·
          have q20950 := cond_f q20950 hc
          apply go
          obtain rfl := Option.some.inj q20950
          exact ⟨(x20788, v20789, e20790, I20792), (.c rfl .n), rfl, hp, o20791, tb⟩
      ·
        rintro ⟨x20943, v20944, e20945, I20947⟩ w20948 ⟨hy, hp, o20946, tb⟩
        replace hy := hy.symm
        subst hy
        apply go
        apply go
        obtain ⟨x20961, q20962, h⟩ := bind_some h
        refine ev_call rfl rfl C60 (((slices_Reversestring_string__ok n) _ _  x20943 v20944 e20945 o20946 (hp.lend (i := 0) rfl) _ q20962).mono ?_)
        rintro _ w20963 ⟨I20964, e20965, hv, hq, o20966, hsame⟩
        replace hv := hv.symm
        subst hv
        have hs := hq.st
        have hp := hp.backO (i := 0) rfl hq hsame
        replace tb := tb.step hs
        apply go
        apply go
        have r20967 := o20966.frz hp (i := 0) rfl
        obtain ⟨hp, hs⟩ := freeze_hp hp (i := 0) rfl
        replace tb := tb.step hs
        have hp := hp.sel [] (by decide)
        obtain ⟨x20968, q20969, h⟩ := bind_some h
        refine ev_call rfl rfl C61 (((strings_Join_ok n) _ _  x20961 v20944 r20967 (ByteArray.mk #[]) hp.imm _ q20969).mono ?_)
        rintro _ w20970 ⟨rfl, hc⟩
        have hs := hp.stp hc
        replace hp := hp.ext hc
        replace tb := tb.step hs
        apply go
        obtain rfl := Option.some.inj h
        exact ⟨rfl, hp.ch⟩

end Go.Proofs.YthhghkcopfnbiaaGreatDoor

namespace Go.Proofs.YthhghkcopfnbiaaGreatDoor
open Go Go.Proofs.YthhghkcopfnbiaaGreatDoor.Gw Go.RowKit
set_option linter.unusedVariables false
attribute [local irreducible] Ev EvQ EvS EvH
def stringslite_CutPrefix_S (f : ByteArray → ByteArray → Option (ByteArray × Bool)) : Prop := ∀ (w0 : World) (I0 : Nat → Prop) (x16412 : ByteArray) (x16413 : ByteArray) (hI : ∀ g, I0 g → g < w0.heap.size) (r : (ByteArray × Bool)), f x16412 x16413 = some r →
    Ret Tryz.prog 81 #[(.string x16412), (.string x16413)] w0 fun v w1 => v = (.tuple #[(.string r.1), (.bool r.2)]) ∧ Ch [] w0 w1
theorem stringslite_CutPrefix_ok (n : Nat) : stringslite_CutPrefix_S (stringslite_CutPrefix n) := by
  intro w0 I0 x16412 x16413 hI r h
  unfold stringslite_CutPrefix at h
  refine enter Tryz.func81 rfl (Nat.le_of_ble_eq_true rfl) ?_
  have hp : Hp ⟨w0, I0, []⟩ I0 [] w0 := Hp.start hI
  apply go
  apply go
  apply go
  apply go
  apply go
  obtain ⟨x16414, q16415, h⟩ := bind_some h
  refine ev_call rfl rfl C97 (((stringslite_HasPrefix_ok n) _ _  x16412 x16413 hp.imm _ q16415).mono ?_)
  rintro _ w16416 ⟨rfl, hc⟩
  have hs := hp.stp hc
  replace hp := hp.ext hc
  apply go
  refine sel_of (fun hc => ?_) (fun hc => ?_)
  ·
    have h := cond_t h hc
    apply go
    apply go
    apply go
    obtain rfl := Option.some.inj h
    exact ⟨rfl, hp.ch⟩
  ·
    have h := cond_f h hc
    apply go
    apply go
    apply go
    refine ev0 (rn_lenS rfl rfl Tryz.underlying9) ?_
    obtain ⟨x16417, q16418, h⟩ := bind_some h
    refine ev0 (rn_sliceStr (kl := .i64) (kh := .i64) rfl rfl rfl rfl Tryz.underlying9 q16418) ?_
    apply go
    obtain rfl := Option.some.inj h
    exact ⟨rfl, hp.ch⟩

end Go.Proofs.YthhghkcopfnbiaaGreatDoor

namespace Go.Proofs.YthhghkcopfnbiaaGreatDoor
open Go Go.Proofs.YthhghkcopfnbiaaGreatDoor.Gw Go.RowKit
set_option linter.unusedVariables false
attribute [local irreducible] Ev EvQ EvS EvH
def strings_CutPrefix_S (f : ByteArray → ByteArray → Option (ByteArray × Bool)) : Prop := ∀ (w0 : World) (I0 : Nat → Prop) (x16419 : ByteArray) (x16420 : ByteArray) (hI : ∀ g, I0 g → g < w0.heap.size) (r : (ByteArray × Bool)), f x16419 x16420 = some r →
    Ret Tryz.prog 62 #[(.string x16419), (.string x16420)] w0 fun v w1 => v = (.tuple #[(.string r.1), (.bool r.2)]) ∧ Ch [] w0 w1
theorem strings_CutPrefix_ok (n : Nat) : strings_CutPrefix_S (strings_CutPrefix n) := by
  intro w0 I0 x16419 x16420 hI r h
  unfold strings_CutPrefix at h
  refine enter Tryz.func62 rfl (Nat.le_of_ble_eq_true rfl) ?_
  have hp : Hp ⟨w0, I0, []⟩ I0 [] w0 := Hp.start hI
  apply go
  apply go
  apply go
  apply go
  obtain ⟨⟨x16421, x16422⟩, q16423, h⟩ := bind_some h
  refine ev_call rfl rfl C81 (((stringslite_CutPrefix_ok n) _ _  x16419 x16420 hp.imm _ q16423).mono ?_)
  rintro _ w16424 ⟨rfl, hc⟩
  have hs := hp.stp hc
  replace hp := hp.ext hc
  apply go
  obtain rfl := Option.some.inj h
  exact ⟨rfl, hp.ch⟩

end Go.Proofs.YthhghkcopfnbiaaGreatDoor

namespace Go.Proofs.YthhghkcopfnbiaaGreatDoor
open Go Go.Proofs.YthhghkcopfnbiaaGreatDoor.Gw Go.RowKit
set_option linter.unusedVariables false
attribute [local irreducible] Ev EvQ EvS EvH
def integer_times_S (f : (List Int) → (List Int) → Option (List Int)) : Prop := ∀ (w0 : World) (I0 : Nat → Prop) (x16440 : (List Int)) (v16441 : Value) (r16442 : RepS (dI .u32) w0 I0 v16441 x16440) (x16443 : (List Int)) (v16444 : Value) (r16445 : RepS (dI .u32) w0 I0 v16444 x16443) (hI : ∀ g, I0 g → g < w0.heap.size) (r : (List Int)), f x16440 x16443 = some r →
    Ret Tryz.prog 66 #[v16441, v16444] w0 fun v w1 => ∃ (I1 : Nat → Prop) (u16446 : Value), v = u16446 ∧ Hp ⟨w0, I0, []⟩ I1 [] w1 ∧ RepS (dI .u32) w1 I1 u16446 r
theorem integer_times_ok (n : Nat) : integer_times_S (integer_times n) := by
  intro w0 I0 x16440 v16441 r16442 x16443 v16444 r16445 hI r h
  unfold integer_times at h
  refine enter Tryz.func66 rfl (Nat.le_of_ble_eq_true rfl) ?_
  have hp : Hp ⟨w0, I0, []⟩ I0 [] w0 := Hp.start hI
  apply go
  apply go
  apply go
  apply go
  refine ev0 (rn_len rfl rfl Tryz.underlying22 r16442) ?_
  refine ev0 (rn_len rfl rfl Tryz.underlying22 r16445) ?_
  obtain ⟨x16447, q16448, h⟩ := bind_some h
  refine ev_make (d := (dI .u32)) (x0 := 0) hp rfl rfl rfl Tryz.underlying22 T45 (fun _ _ => rfl) (Nat.le_of_ble_eq_true rfl) q16448 ?_
  intro v16449 e16450 w16451 hp hs o16452
  replace r16442 := r16442.step hs
  replace r16445 := r16445.step hs
  obtain ⟨y17832, q17833, h⟩ := bind_some h
  refine W.cut (γ := ((List Int) × Ent)) (fun g => [(5, v16449)]) (fun g w' => y17832 = (g.1) ∧ Hp ⟨w0, I0, []⟩ I0 [(g.2)] w' ∧ OwnS (dI .u32) 45 w' I0 v16449 (g.2) (g.1)) ?_ ?_
  ·
    apply go
    apply go
    refine ev0 (rn_len rfl rfl Tryz.underlying22 r16442) ?_
    apply go
    refine W.loop q17833 (γ := Ent) (fun s g => [(1, v16444), (5, v16449), (18, v16441), (19, (.int .i64 (x16440.length : Int))), (20, (.int .i64 (s.2)))]) (fun s g w' => Hp ⟨w0, I0, []⟩ I0 [(g)] w' ∧ RepS (dI .u32) w' I0 v16444 x16443 ∧ OwnS (dI .u32) 45 w' I0 v16449 (g) (s.1) ∧ RepS (dI .u32) w' I0 v16441 x16440) e16450 (.c rfl (.c rfl (.c rfl (.c rfl (.c rfl .n))))) ⟨hp, r16445, o16452, r16442⟩ ?_
    rintro ⟨x18287, x18291⟩ e18289 w18750 y18751 ⟨hp, r16445, o18290, r16442⟩ q18752 q18753
    unfold integer_times_L21 at q18752
    apply go
    apply go
    apply go
    apply go
    refine sel_of (fun hc => ?_) (fun hc => ?_)
    ·
      have q18752 := cond_t q18752 hc
      apply go
      obtain ⟨y18982, q18983, q18752⟩ := bind_some q18752
      refine W.cut (γ := ((List Int) × Ent)) (fun g => [(1, v16444), (5, v16449), (18, v16441), (19, (.int .i64 (x16440.length : Int))), (20, (.int .i64 x18291))]) (fun g w' => y18982 = (g.1) ∧ Hp ⟨w0, I0, []⟩ I0 [(g.2)] w' ∧ RepS (dI .u32) w' I0 v16444 x16443 ∧ OwnS (dI .u32) 45 w' I0 v16449 (g.2) (g.1) ∧ RepS (dI .u32) w' I0 v16441 x16440) ?_ ?_
      ·
        apply go
        apply go
        apply go
        obtain ⟨x18984, q18985, q18983⟩ := bind_some q18983
        refine ev_index rfl rfl rfl Tryz.underlying22 T45 r16442 q18985 ?_
        intro p18986 c18987 d18988 a18989
        obtain rfl : c18987 = [(.int .u32 x18984)] := d18988
        refine ev (rn_load rfl rfl (run_loadVar1 T45 (a18989.2 0 _ rfl))) ?_
        apply go
        apply go
        obtain ⟨y19094, q19095, q18983⟩ := bind_some q18983
        refine W.cut (γ := ((List Int) × Int × Ent)) (fun g => [(1, v16444), (5, v16449), (6, (.int .i64 x18291)), (8, (.int .u64 (g.2.1))), (18, v16441), (19, (.int .i64 (x16440.length : Int))), (20, (.int .i64 x18291))]) (fun g w' => y19094 = ((g.1), (g.2.1)) ∧ Hp ⟨w0, I0, []⟩ I0 [(g.2.2)] w' ∧ RepS (dI .u32) w' I0 v16444 x16443 ∧ OwnS (dI .u32) 45 w' I0 v16449 (g.2.2) (g.1) ∧ RepS (dI .u32) w' I0 v16441 x16440) ?_ ?_
        ·
          apply go
          apply go
          refine ev0 (rn_len rfl rfl Tryz.underlying22 r16445) ?_
          apply go
          refine W.loop q19095 (γ := Ent) (fun s g => [(1, v16444), (5, v16449), (6, (.int .i64 x18291)), (7, (.int .u32 x18984)), (8, (.int .u64 (s.2.1))), (18, v16441), (19, (.int .i64 (x16440.length : Int))), (20, (.int .i64 x18291)), (25, v16444), (26, (.int .i64 (x16443.length : Int))), (27, (.int .i64 (s.2.2)))]) (fun s g w' => Hp ⟨w0, I0, []⟩ I0 [(g)] w' ∧ RepS (dI .u32) w' I0 v16444 x16443 ∧ OwnS (dI .u32) 45 w' I0 v16449 (g) (s.1) ∧ RepS (dI .u32) w' I0 v16441 x16440) e18289 (.c rfl (.c rfl (.c rfl (.c rfl (.c rfl (.c rfl (.c rfl (.c rfl (.c rfl (.c rfl (.c rfl .n))))))))))) ⟨hp, r16445, o18290, r16442⟩ ?_
          rintro ⟨x19123, x19127, x19128⟩ e19125 w19162 y19163 ⟨hp, r16445, o19126, r16442⟩ q19164 q19165
          unfold integer_times_L25 at q19164
          apply go
          apply go
          apply go
          apply go
          refine sel_of (fun hc => ?_) (fun hc => ?_)
          ·
            have q19164 := cond_t q19164 hc
            apply go
            apply go
            apply go
            apply go
            apply go
            obtain ⟨x19166, q19167, q19164⟩ := bind_some q19164
            refine ev_index rfl rfl rfl Tryz.underlying22 T45 r16445 q19167 ?_
            intro p19168 c19169 d19170 a19171
            obtain rfl : c19169 = [(.int .u32 x19166)] := d19170
            refine ev (rn_load rfl rfl (run_loadVar1 T45 (a19171.2 0 _ rfl))) ?_
            apply go
            apply go
            refine ev0 (rn_conv rfl rfl U45 Tryz.underlying49) ?_
            refine ev0 (rn_conv rfl rfl U45 Tryz.underlying49) ?_
            obtain ⟨x19172, q19173, q19164⟩ := bind_some q19164
            refine ev_indexO rfl rfl rfl Tryz.underlying22 T45 o19126 q19173 ?_
            intro g19174 c19175 h19178 d19176 l19177
            refine ev (rn_load rfl rfl (run_loadVar1 T45 (hp.cellE (i := 0) rfl h19178 d19176 (j := 0) rfl))) ?_
            refine ev0 (rn_conv rfl rfl U45 Tryz.underlying49) ?_
            apply go
            apply go
            refine ev0 (rn_conv rfl rfl U49 Tryz.underlying45) ?_
            obtain ⟨x19180, q19181, q19164⟩ := bind_some q19164
            refine ev_indexO rfl rfl rfl Tryz.underlying22 T45 o19126 q19181 ?_
            intro g19182 c19183 h19186 d19184 l19185
            refine ev_storeE hp (i := 0) rfl h19186 rfl rfl rfl T45 o19126 q19181 (x0 := (IntKind.u32.wrap (IntKind.u64.wrap ((IntKind.u64.wrap ((IntKind.u64.wrap ((IntKind.u64.wrap x18984) * (IntKind.u64.wrap x19166))) + (IntKind.u64.wrap x19172))) + x19127)))) rfl ?_
            intro e19189 w19188 hp hs o19190
            replace r16445 := r16445.step hs
            replace r16442 := r16442.step hs
            apply go
            refine ⟨by decide, ?_⟩
            apply go
            exact ⟨_, (Option.some.inj q19164).symm, e19189, (.c rfl (.c rfl (.c rfl (.c rfl (.c rfl (.c rfl (.c rfl (.c rfl (.c rfl (.c rfl (.c rfl .n))))))))))), ⟨hp, r16445, o19190, r16442⟩⟩
          ·
            have q19164 := cond_f q19164 hc
            apply go
            have q19193 := congrArg some (q19165 _ (Option.some.inj q19164).symm)
            obtain rfl := Option.some.inj q19193
            exact ⟨(x19123, x19127, e19125), (.c rfl (.c rfl (.c rfl (.c rfl (.c rfl (.c rfl (.c rfl .n))))))), rfl, hp, r16445, o19126, r16442⟩
        ·
          rintro ⟨x19088, x19092, e19090⟩ w19093 ⟨hy, hp, r16445, o19091, r16442⟩
          replace hy := hy.symm
          subst hy
          apply go
          refine ev0 (rn_len rfl rfl Tryz.underlying22 r16445) ?_
          refine ev0 (rn_conv rfl rfl U49 Tryz.underlying45) ?_
          obtain ⟨x19194, q19195, q18983⟩ := bind_some q18983
          refine ev_indexO rfl rfl rfl Tryz.underlying22 T45 o19091 q19195 ?_
          intro g19196 c19197 h19200 d19198 l19199
          refine ev_storeE hp (i := 0) rfl h19200 rfl rfl rfl T45 o19091 q19195 (x0 := (IntKind.u32.wrap x19092)) rfl ?_
          intro e19203 w19202 hp hs o19204
          replace r16445 := r16445.step hs
          replace r16442 := r16442.step hs
          obtain rfl := Option.some.inj q18983
          exact ⟨((upd x19088 (IntKind.i64.wrap (x18291 + (x16443.length : Int))) (IntKind.u32.wrap x19092)), e19203), (.c rfl (.c rfl (.c rfl (.c rfl (.c rfl .n))))), rfl, hp, r16445, o19204, r16442⟩
      ·
        rintro ⟨x18977, e18979⟩ w18981 ⟨hy, hp, r16445, o18980, r16442⟩
        replace hy := hy.symm
        subst hy
        apply go
        exact ⟨_, (Option.some.inj q18752).symm, e18979, (.c rfl (.c rfl (.c rfl (.c rfl (.c rfl .n))))), ⟨hp, r16445, o18980, r16442⟩⟩
    ·
      have q18752 := cond_f q18752 hc
      apply go
      have q19207 := congrArg some (q18753 _ (Option.some.inj q18752).symm)
      obtain rfl := Option.some.inj q19207
      exact ⟨(x18287, e18289), (.c rfl .n), rfl, hp, o18290⟩
  ·
    rintro ⟨x17827, e17829⟩ w17831 ⟨hy, hp, o17830⟩
    replace hy := hy.symm
    subst hy
    apply go
    apply go
    apply go
    obtain rfl := Option.some.inj h
    have r19208 := o17830.frz hp (i := 0) rfl
    obtain ⟨hp, hs⟩ := freeze_hp hp (i := 0) rfl
    have hp := hp.sel [] (by decide)
    exact ⟨(Ad I0 e17829), v16449, rfl, hp, r19208⟩

end Go.Proofs.YthhghkcopfnbiaaGreatDoor
