/-
  Each function of the program computes the plain function of its name.
-/
import Derived.Test.YthhghkcopfnbiaaGreatDoorFactsA
import Derived.Lib.Walk
import Derived.BigCall
import Derived.BigGuard
import Derived.Test.YthhghkcopfnbiaaGreatDoorCoreA
namespace Go.Proofs.YthhghkcopfnbiaaGreatDoor
open Go Go.Proofs.YthhghkcopfnbiaaGreatDoor.Gw Go.RowKit
set_option linter.unusedVariables false
attribute [local irreducible] Ev EvQ EvS EvH
def integer_trim_S (f : (List Int) → Option (List Int)) : Prop := ∀ (w0 : World) (I0 : Nat → Prop) (x1 : (List Int)) (v2 : Value) (r3 : RepS (dI .u32) w0 I0 v2 x1) (hI : ∀ g, I0 g → g < w0.heap.size) (r : (List Int)), f x1 = some r →
    Ret Tryz.prog 46 #[v2] w0 fun v w1 => ∃ (I1 : Nat → Prop) (u4 : Value), v = u4 ∧ Hp ⟨w0, I0, []⟩ I1 [] w1 ∧ RepS (dI .u32) w1 I1 u4 r
theorem integer_trim_ok (n : Nat) : integer_trim_S (integer_trim n) := by
  intro w0 I0 x1 v2 r3 hI r h
  unfold integer_trim at h
  refine enter Tryz.func46 rfl (Nat.le_of_ble_eq_true rfl) ?_
  have hp : Hp ⟨w0, I0, []⟩ I0 [] w0 := Hp.start hI
  apply go
  apply go
  obtain ⟨y75, q76, h⟩ := bind_some h
  refine W.cut (γ := ((List Int) × Value)) (fun g => [(0, (g.2))]) (fun g w' => y75 = (g.1) ∧ w0 = w' ∧ RepS (dI .u32) w' I0 (g.2) (g.1)) ?_ ?_
  ·
    apply go
    refine W.loop q76 (γ := Value) (fun s g => [(0, (g))]) (fun s g w' => w0 = w' ∧ RepS (dI .u32) w' I0 (g) (s)) v2 (.c rfl .n) ⟨rfl, r3⟩ ?_
    rintro x96 v97 _ y121 ⟨rfl, r98⟩ q122 q123
    unfold integer_trim_L1 at q122
    apply go
    obtain ⟨y131, q132, q122⟩ := bind_some q122
    refine W.cut (γ := Bool) (fun g => [(0, v97), (14, (.bool (g)))]) (fun g w' => y131 = (g) ∧ w0 = w') ?_ ?_
    ·
      apply go
      refine ev0 (rn_len rfl rfl Tryz.underlying22 r98) ?_
      refine sel_of (fun hc => ?_) (fun hc => ?_)
      ·
        have q132 := cond_t q132 hc
        refine ev0 (rn_len rfl rfl Tryz.underlying22 r98) ?_
        obtain ⟨x133, q134, q132⟩ := bind_some q132
        refine ev_index rfl rfl rfl Tryz.underlying22 T45 r98 q134 ?_
        intro p135 c136 d137 a138
        obtain rfl : c136 = [(.int .u32 x133)] := d137
        refine ev (rn_load rfl rfl (run_loadVar1 T45 (a138.2 0 _ rfl))) ?_
        obtain rfl := Option.some.inj q132
        exact ⟨(x133 == 0), (.c rfl (.c rfl .n)), rfl, rfl⟩
      ·
        have q132 := cond_f q132 hc
        obtain rfl := Option.some.inj q132
        exact ⟨false, (.c rfl (.c rfl .n)), rfl, rfl⟩
    ·
      rintro x130 _ ⟨hy, rfl⟩
      replace hy := hy.symm
      subst hy
      apply go
      refine sel_of (fun hc => ?_) (fun hc => ?_)
      ·
        have q122 := cond_t q122 hc
        apply go
        apply go
        apply go
        refine ev0 (rn_len rfl rfl Tryz.underlying22 r98) ?_
        obtain ⟨x139, q140, q122⟩ := bind_some q122
        refine ev_slice (kl := .i64) (kh := .i64) rfl rfl rfl rfl Tryz.underlying22 T45 r98 q140 ?_
        intro v141 r142
        exact ⟨_, (Option.some.inj q122).symm, v141, (.c rfl .n), ⟨rfl, r142⟩⟩
      ·
        have q122 := cond_f q122 hc
        apply go
        have q143 := congrArg some (q123 _ (Option.some.inj q122).symm)
        obtain rfl := Option.some.inj q143
        exact ⟨(x96, v97), (.c rfl .n), rfl, rfl, r98⟩
  ·
    rintro ⟨x72, v73⟩ _ ⟨hy, rfl, r74⟩
    replace hy := hy.symm
    subst hy
    apply go
    apply go
    apply go
    obtain rfl := Option.some.inj h
    exact ⟨I0, v73, rfl, hp, r74⟩

end Go.Proofs.YthhghkcopfnbiaaGreatDoor

namespace Go.Proofs.YthhghkcopfnbiaaGreatDoor
open Go Go.Proofs.YthhghkcopfnbiaaGreatDoor.Gw Go.RowKit
set_option linter.unusedVariables false
attribute [local irreducible] Ev EvQ EvS EvH
def integer_Small_S (f : Int_2 → Option (Int × Bool)) : Prop := ∀ (w0 : World) (I0 : Nat → Prop) (x16023 : Int_2) (v16024 : Value) (r16025 : RepS (dI .u32) w0 I0 v16024 x16023.Mag) (hI : ∀ g, I0 g → g < w0.heap.size) (r : (Int × Bool)), f x16023 = some r →
    Ret Tryz.prog 15 #[(.agg #[(.bool x16023.Neg), v16024])] w0 fun v w1 => v = (.tuple #[(.int .i64 r.1), (.bool r.2)]) ∧ Ch [] w0 w1
theorem integer_Small_ok (n : Nat) : integer_Small_S (integer_Small n) := by
  intro w0 I0 x16023 v16024 r16025 hI r h
  unfold integer_Small at h
  refine enter Tryz.func15 rfl (Nat.le_of_ble_eq_true rfl) ?_
  have hp : Hp ⟨w0, I0, []⟩ I0 [] w0 := Hp.start hI
  apply go
  apply go
  refine ev_boxI hp rfl rfl ?_
  intro p16028 I16029 w16027 hp hs a16030
  replace r16025 := r16025.step hs
  apply go
  apply go
  refine ev0 (rn_field rfl rfl FO24_1) ?_
  refine ev (rn_load rfl rfl (run_loadVar1 T22 (a16030.2 1 _ rfl))) ?_
  obtain ⟨x16031, q16032, h⟩ := bind_some h
  refine ev_call rfl rfl C46 (((integer_trim_ok n) _ _  x16023.Mag v16024 r16025 hp.imm _ q16032).mono ?_)
  rintro _ w16033 ⟨I16034, v16035, hv, hq, r16036⟩
  replace hv := hv.symm
  subst hv
  have hs := hq.st
  have hp := hp.join0 hq
  replace a16030 := a16030.step hs
  replace r16025 := r16025.step hs
  apply go
  apply go
  apply go
  refine ev0 (rn_len rfl rfl Tryz.underlying22 r16036) ?_
  apply go
  refine sel_of (fun hc => ?_) (fun hc => ?_)
  ·
    have h := cond_t h hc
    apply go
    apply go
    apply go
    obtain rfl := Option.some.inj h
    exact ⟨rfl, hp.ch⟩
  ·
    have h := cond_f h hc
    apply go
    apply go
    apply go
    obtain ⟨y16067, q16068, h⟩ := bind_some h
    refine W.cut (γ := Int) (fun g => [(1, (.pointer (some (p16028)))), (5, (.int .u64 (g)))]) (fun g w' => y16067 = (g) ∧ w16033 = w') ?_ ?_
    ·
      apply go
      apply go
      refine ev0 (rn_len rfl rfl Tryz.underlying22 r16036) ?_
      apply go
      refine W.loop q16068 (γ := Unit) (fun s _ => [(1, (.pointer (some (p16028)))), (5, (.int .u64 (s.1))), (14, v16035), (15, (.int .i64 (x16031.length : Int))), (16, (.int .i64 (s.2)))]) (fun s _ w' => w16033 = w') () (.c rfl (.c rfl (.c rfl (.c rfl (.c rfl .n))))) rfl ?_
      rintro ⟨x16076, x16077⟩ ⟨⟩ _ y16087 rfl q16088 q16089
      unfold integer_Small_L1 at q16088
      apply go
      apply go
      apply go
      apply go
      refine sel_of (fun hc => ?_) (fun hc => ?_)
      ·
        have q16088 := cond_t q16088 hc
        apply go
        apply go
        apply go
        apply go
        apply go
        obtain ⟨x16090, q16091, q16088⟩ := bind_some q16088
        refine ev_index rfl rfl rfl Tryz.underlying22 T45 r16036 q16091 ?_
        intro p16092 c16093 d16094 a16095
        obtain rfl : c16093 = [(.int .u32 x16090)] := d16094
        refine ev (rn_load rfl rfl (run_loadVar1 T45 (a16095.2 0 _ rfl))) ?_
        apply go
        refine ev0 (rn_conv rfl rfl U45 Tryz.underlying49) ?_
        obtain ⟨q16096, _, q16088⟩ := need_some q16088
        refine ⟨q16096, ?_⟩
        apply go
        exact ⟨_, (Option.some.inj q16088).symm, (), (.c rfl (.c rfl (.c rfl (.c rfl (.c rfl .n))))), rfl⟩
      ·
        have q16088 := cond_f q16088 hc
        apply go
        have q16097 := congrArg some (q16089 _ (Option.some.inj q16088).symm)
        obtain rfl := Option.some.inj q16097
        exact ⟨x16076, (.c rfl (.c rfl .n)), rfl, rfl⟩
    ·
      rintro x16066 _ ⟨hy, rfl⟩
      replace hy := hy.symm
      subst hy
      apply go
      apply go
      obtain ⟨y16099, q16100, h⟩ := bind_some h
      refine W.cut (γ := Bool) (fun g => [(1, (.pointer (some (p16028)))), (5, (.int .u64 x16066)), (29, (.bool (g)))]) (fun g w' => y16099 = (g) ∧ w16033 = w') ?_ ?_
      ·
        apply go
        refine ev0 (rn_field rfl rfl FO24_0) ?_
        refine ev (rn_load rfl rfl (run_loadVar1 T4 (a16030.2 0 _ rfl))) ?_
        refine sel_of (fun hc => ?_) (fun hc => ?_)
        ·
          have q16100 := cond_t q16100 hc
          obtain rfl := Option.some.inj q16100
          exact ⟨(decide (x16066 ≤ 9223372036854775808)), (.c rfl (.c rfl (.c rfl .n))), rfl, rfl⟩
        ·
          have q16100 := cond_f q16100 hc
          obtain rfl := Option.some.inj q16100
          exact ⟨false, (.c rfl (.c rfl (.c rfl .n))), rfl, rfl⟩
      ·
        rintro x16098 _ ⟨hy, rfl⟩
        replace hy := hy.symm
        subst hy
        apply go
        refine sel_of (fun hc => ?_) (fun hc => ?_)
        ·
          have h := cond_t h hc
          apply go
          apply go
          refine ev0 (rn_conv rfl rfl U49 Tryz.underlying3) ?_
          apply go
          obtain rfl := Option.some.inj h
          exact ⟨rfl, hp.ch⟩
        ·
          have h := cond_f h hc
          obtain ⟨y16102, q16103, h⟩ := bind_some h
          refine W.cut (γ := Bool) (fun g => [(5, (.int .u64 x16066)), (39, (.bool (g)))]) (fun g w' => y16102 = (g) ∧ w16033 = w') ?_ ?_
          ·
            apply go
            refine ev0 (rn_field rfl rfl FO24_0) ?_
            refine ev (rn_load rfl rfl (run_loadVar1 T4 (a16030.2 0 _ rfl))) ?_
            refine sel_of (fun hc => ?_) (fun hc => ?_)
            ·
              have q16103 := cond_t q16103 hc
              obtain rfl := Option.some.inj q16103
              exact ⟨(decide (x16066 < 9223372036854775808)), (.c rfl (.c rfl .n)), rfl, rfl⟩
            ·
              have q16103 := cond_f q16103 hc
              obtain rfl := Option.some.inj q16103
              exact ⟨false, (.c rfl (.c rfl .n)), rfl, rfl⟩
          ·
            rintro x16101 _ ⟨hy, rfl⟩
            replace hy := hy.symm
            subst hy
            apply go
            refine sel_of (fun hc => ?_) (fun hc => ?_)
            ·
              have h := cond_t h hc
              apply go
              apply go
              refine ev0 (rn_conv rfl rfl U49 Tryz.underlying3) ?_
              apply go
              obtain rfl := Option.some.inj h
              exact ⟨rfl, hp.ch⟩
            ·
              have h := cond_f h hc
              apply go
              apply go
              apply go
              apply go
              obtain rfl := Option.some.inj h
              exact ⟨rfl, hp.ch⟩

end Go.Proofs.YthhghkcopfnbiaaGreatDoor

namespace Go.Proofs.YthhghkcopfnbiaaGreatDoor
open Go Go.Proofs.YthhghkcopfnbiaaGreatDoor.Gw Go.RowKit
set_option linter.unusedVariables false
attribute [local irreducible] Ev EvQ EvS EvH
def integer_made_S (f : Bool → (List Int) → Option Int_2) : Prop := ∀ (w0 : World) (I0 : Nat → Prop) (x144 : Bool) (x145 : (List Int)) (v146 : Value) (r147 : RepS (dI .u32) w0 I0 v146 x145) (hI : ∀ g, I0 g → g < w0.heap.size) (r : Int_2), f x144 x145 = some r →
    Ret Tryz.prog 49 #[(.bool x144), v146] w0 fun v w1 => ∃ (I1 : Nat → Prop) (u148 : Value), v = (.agg #[(.bool r.Neg), u148]) ∧ Hp ⟨w0, I0, []⟩ I1 [] w1 ∧ RepS (dI .u32) w1 I1 u148 r.Mag
theorem integer_made_ok (n : Nat) : integer_made_S (integer_made n) := by
  intro w0 I0 x144 x145 v146 r147 hI r h
  unfold integer_made at h
  refine enter Tryz.func49 rfl (Nat.le_of_ble_eq_true rfl) ?_
  have hp : Hp ⟨w0, I0, []⟩ I0 [] w0 := Hp.start hI
  apply go
  apply go
  refine ev_alloc hp rfl T24 ?_
  intro g149 w150 hp hs
  replace r147 := r147.step hs
  apply go
  apply go
  obtain ⟨x151, q152, h⟩ := bind_some h
  refine ev_call rfl rfl C46 (((integer_trim_ok n) _ _  x145 v146 r147 hp.imm _ q152).mono ?_)
  rintro _ w153 ⟨I154, v155, hv, hq, r156⟩
  replace hv := hv.symm
  subst hv
  have hs := hq.st
  have hp := hp.join0 hq
  apply go
  apply go
  apply go
  refine ev0 (rn_len rfl rfl Tryz.underlying22 r156) ?_
  apply go
  refine sel_of (fun hc => ?_) (fun hc => ?_)
  ·
    have h := cond_t h hc
    apply go
    apply go
    refine ev0 (fun w => rn_build (cs := [(.bool false), (.slice none 0 0)]) rfl rfl T24 PL24 rfl) ?_
    refine ev_storeA hp (i := 0) (off := 0) (vs := [(.bool false), (.slice none 0 0)]) rfl rfl rfl rfl T24 rfl (Nat.le_of_ble_eq_true rfl) (ones_of rfl) ?_
    intro w157 hp hs
    apply go
    obtain rfl := Option.some.inj h
    refine ⟨_, run_loadVarA T24 rfl (hp.at_ (i := 0) rfl), ?_⟩
    have hp := hp.sel [] (by decide)
    exact ⟨I154, .slice none 0 0, rfl, hp, RepS.nil _ _ _⟩
  ·
    have h := cond_f h hc
    apply go
    apply go
    apply go
    obtain ⟨A158, m159, m160, rfl⟩ := r156.isSl
    refine ev0 (fun w => rn_build (cs := [(.bool x144), (.slice A158 m159 m160)]) rfl rfl T24 PL24 rfl) ?_
    refine ev_storeA hp (i := 0) (off := 0) (vs := [(.bool x144), (.slice A158 m159 m160)]) rfl rfl rfl rfl T24 rfl (Nat.le_of_ble_eq_true rfl) (ones_cons rfl (ones_cons r156.one ones_nil)) ?_
    intro w162 hp hs
    replace r156 := r156.step hs
    apply go
    obtain rfl := Option.some.inj h
    refine ⟨_, run_loadVarA T24 rfl (hp.at_ (i := 0) rfl), ?_⟩
    have hp := hp.sel [] (by decide)
    exact ⟨I154, (.slice A158 m159 m160), rfl, hp, r156⟩

end Go.Proofs.YthhghkcopfnbiaaGreatDoor

namespace Go.Proofs.YthhghkcopfnbiaaGreatDoor
open Go Go.Proofs.YthhghkcopfnbiaaGreatDoor.Gw Go.RowKit
set_option linter.unusedVariables false
attribute [local irreducible] Ev EvQ EvS EvH
def integer_Of_S (f : Int → Option Int_2) : Prop := ∀ (w0 : World) (I0 : Nat → Prop) (x163 : Int) (hI : ∀ g, I0 g → g < w0.heap.size) (r : Int_2), f x163 = some r →
    Ret Tryz.prog 18 #[(.int .i64 x163)] w0 fun v w1 => ∃ (I1 : Nat → Prop) (u164 : Value), v = (.agg #[(.bool r.Neg), u164]) ∧ Hp ⟨w0, I0, []⟩ I1 [] w1 ∧ RepS (dI .u32) w1 I1 u164 r.Mag
theorem integer_Of_ok (n : Nat) : integer_Of_S (integer_Of n) := by
  intro w0 I0 x163 hI r h
  unfold integer_Of at h
  refine enter Tryz.func18 rfl (Nat.le_of_ble_eq_true rfl) ?_
  have hp : Hp ⟨w0, I0, []⟩ I0 [] w0 := Hp.start hI
  apply go
  apply go
  refine ev_alloc hp rfl T24 ?_
  intro g165 w166 hp hs
  apply go
  apply go
  refine ev0 (rn_conv rfl rfl U3 Tryz.underlying49) ?_
  obtain ⟨y168, q169, h⟩ := bind_some h
  refine W.cut (γ := Int) (fun g => [(0, (.int .i64 x163)), (2, (.pointer (some ⟨g165, 0, none⟩))), (3, (.int .u64 (g)))]) (fun g w' => y168 = (g) ∧ w166 = w') ?_ ?_
  ·
    apply go
    apply go
    apply go
    refine sel_of (fun hc => ?_) (fun hc => ?_)
    ·
      have q169 := cond_t q169 hc
      apply go
      obtain rfl := Option.some.inj q169
      exact ⟨(IntKind.u64.wrap (0 - (IntKind.u64.wrap x163))), (.c rfl (.c rfl (.c rfl .n))), rfl, rfl⟩
    ·
      have q169 := cond_f q169 hc
      apply go
      obtain rfl := Option.some.inj q169
      exact ⟨(IntKind.u64.wrap x163), (.c rfl (.c rfl (.c rfl .n))), rfl, rfl⟩
  ·
    rintro x167 _ ⟨hy, rfl⟩
    replace hy := hy.symm
    subst hy
    apply go
    apply go
    refine ev0 (rn_conv rfl rfl U49 Tryz.underlying45) ?_
    refine ⟨by decide, ?_⟩
    refine ev0 (rn_conv rfl rfl U49 Tryz.underlying45) ?_
    refine ev_litN (d := (dI .u32)) (xs := [(IntKind.u32.wrap x167), (IntKind.u32.wrap (x167.fdiv (2 ^ min (32 : Int).toNat (IntKind.u64).bits)))]) (cs := [(.int .u32 (IntKind.u32.wrap x167)), (.int .u32 (IntKind.u32.wrap (x167.fdiv (2 ^ min (32 : Int).toNat (IntKind.u64).bits))))]) hp rfl rfl Tryz.underlying22 T45 (by decide) rfl rfl (Elems.cons (d := (dI .u32)) (xs := _) rfl (Elems.cons (d := (dI .u32)) (xs := _) rfl (Elems.nil _ _ _ _))) ?_
    intro v170 I172 w171 hp hs r173
    obtain ⟨x174, q175, h⟩ := bind_some h
    refine ev_call rfl rfl C49 (((integer_made_ok n) _ _  (decide (x163 < 0)) [(IntKind.u32.wrap x167), (IntKind.u32.wrap (x167.fdiv (2 ^ min (32 : Int).toNat (IntKind.u64).bits)))] v170 r173 hp.imm _ q175).mono ?_)
    rintro _ w176 ⟨I177, v178, hv, hq, r179⟩
    replace hv := hv.symm
    subst hv
    have hs := hq.st
    have hp := hp.join0 hq
    refine ev_storeA hp (i := 0) (off := 0) (vs := [(.bool x174.Neg), v178]) rfl rfl rfl rfl T24 rfl (Nat.le_of_ble_eq_true rfl) (ones_cons rfl (ones_cons r179.one ones_nil)) ?_
    intro w180 hp hs
    replace r179 := r179.step hs
    apply go
    obtain rfl := Option.some.inj h
    refine ⟨_, run_loadVarA T24 rfl (hp.at_ (i := 0) rfl), ?_⟩
    have hp := hp.sel [] (by decide)
    exact ⟨I177, v178, rfl, hp, r179⟩

end Go.Proofs.YthhghkcopfnbiaaGreatDoor

namespace Go.Proofs.YthhghkcopfnbiaaGreatDoor
open Go Go.Proofs.YthhghkcopfnbiaaGreatDoor.Gw Go.RowKit
set_option linter.unusedVariables false
attribute [local irreducible] Ev EvQ EvS EvH
def bits_Len32_S (f : Int → Option Int) : Prop := ∀ (w0 : World) (I0 : Nat → Prop) (x587 : Int) (hI : ∀ g, I0 g → g < w0.heap.size) (r : Int), f x587 = some r →
    Ret Tryz.prog 50 #[(.int .u32 x587)] w0 fun v w1 => v = (.int .i64 r) ∧ Ch [] w0 w1
theorem bits_Len32_ok (n : Nat) : bits_Len32_S (bits_Len32 n) := by
  intro w0 I0 x587 hI r h
  unfold bits_Len32 at h
  refine enter Tryz.func50 rfl (Nat.le_of_ble_eq_true rfl) ?_
  have hp : Hp ⟨w0, I0, []⟩ I0 [] w0 := Hp.start hI
  apply go
  apply go
  obtain ⟨y590, q591, h⟩ := bind_some h
  refine W.cut (γ := (Int × Int)) (fun g => [(0, (.int .u32 (g.1))), (2, (.int .i64 (g.2)))]) (fun g w' => y590 = ((g.1), (g.2)) ∧ w0 = w') ?_ ?_
  ·
    apply go
    apply go
    apply go
    refine sel_of (fun hc => ?_) (fun hc => ?_)
    ·
      have q591 := cond_t q591 hc
      apply go
      apply go
      refine ⟨by decide, ?_⟩
      apply go
      obtain rfl := Option.some.inj q591
      exact ⟨((x587.fdiv (2 ^ min (16 : Int).toNat (IntKind.u32).bits)), 16), (.c rfl (.c rfl .n)), rfl, rfl⟩
    ·
      have q591 := cond_f q591 hc
      apply go
      obtain rfl := Option.some.inj q591
      exact ⟨(x587, 0), (.c rfl (.c rfl .n)), rfl, rfl⟩
  ·
    rintro ⟨x588, x589⟩ _ ⟨hy, rfl⟩
    replace hy := hy.symm
    subst hy
    obtain ⟨y594, q595, h⟩ := bind_some h
    refine W.cut (γ := (Int × Int)) (fun g => [(0, (.int .u32 (g.1))), (2, (.int .i64 (g.2)))]) (fun g w' => y594 = ((g.1), (g.2)) ∧ w0 = w') ?_ ?_
    ·
      apply go
      apply go
      apply go
      refine sel_of (fun hc => ?_) (fun hc => ?_)
      ·
        have q595 := cond_t q595 hc
        apply go
        apply go
        refine ⟨by decide, ?_⟩
        apply go
        obtain rfl := Option.some.inj q595
        exact ⟨((x588.fdiv (2 ^ min (8 : Int).toNat (IntKind.u32).bits)), (IntKind.i64.wrap (x589 + 8))), (.c rfl (.c rfl .n)), rfl, rfl⟩
      ·
        have q595 := cond_f q595 hc
        apply go
        obtain rfl := Option.some.inj q595
        exact ⟨(x588, x589), (.c rfl (.c rfl .n)), rfl, rfl⟩
    ·
      rintro ⟨x592, x593⟩ _ ⟨hy, rfl⟩
      replace hy := hy.symm
      subst hy
      apply go
      apply go
      refine ev0 (rn_conv rfl rfl U45 Tryz.underlying5) ?_
      obtain ⟨x596, q597, h⟩ := bind_some h
      refine ev0 (rn_indexS rfl rfl rfl Tryz.underlying9 q597) ?_
      refine ev0 (rn_conv rfl rfl U5 Tryz.underlying3) ?_
      apply go
      obtain rfl := Option.some.inj h
      exact ⟨rfl, hp.ch⟩

end Go.Proofs.YthhghkcopfnbiaaGreatDoor

namespace Go.Proofs.YthhghkcopfnbiaaGreatDoor
open Go Go.Proofs.YthhghkcopfnbiaaGreatDoor.Gw Go.RowKit
set_option linter.unusedVariables false
attribute [local irreducible] Ev EvQ EvS EvH
def integer_Bits_S (f : Int_2 → Option Int) : Prop := ∀ (w0 : World) (I0 : Nat → Prop) (x16118 : Int_2) (v16119 : Value) (r16120 : RepS (dI .u32) w0 I0 v16119 x16118.Mag) (hI : ∀ g, I0 g → g < w0.heap.size) (r : Int), f x16118 = some r →
    Ret Tryz.prog 19 #[(.agg #[(.bool x16118.Neg), v16119])] w0 fun v w1 => v = (.int .i64 r) ∧ Ch [] w0 w1
theorem integer_Bits_ok (n : Nat) : integer_Bits_S (integer_Bits n) := by
  intro w0 I0 x16118 v16119 r16120 hI r h
  unfold integer_Bits at h
  refine enter Tryz.func19 rfl (Nat.le_of_ble_eq_true rfl) ?_
  have hp : Hp ⟨w0, I0, []⟩ I0 [] w0 := Hp.start hI
  apply go
  apply go
  refine ev_boxI hp rfl rfl ?_
  intro p16123 I16124 w16122 hp hs a16125
  replace r16120 := r16120.step hs
  apply go
  apply go
  refine ev0 (rn_field rfl rfl FO24_1) ?_
  refine ev (rn_load rfl rfl (run_loadVar1 T22 (a16125.2 1 _ rfl))) ?_
  obtain ⟨x16126, q16127, h⟩ := bind_some h
  refine ev_call rfl rfl C46 (((integer_trim_ok n) _ _  x16118.Mag v16119 r16120 hp.imm _ q16127).mono ?_)
  rintro _ w16128 ⟨I16129, v16130, hv, hq, r16131⟩
  replace hv := hv.symm
  subst hv
  have hs := hq.st
  have hp := hp.join0 hq
  apply go
  apply go
  apply go
  refine ev0 (rn_len rfl rfl Tryz.underlying22 r16131) ?_
  apply go
  refine sel_of (fun hc => ?_) (fun hc => ?_)
  ·
    have h := cond_t h hc
    apply go
    apply go
    apply go
    obtain rfl := Option.some.inj h
    exact ⟨rfl, hp.ch⟩
  ·
    have h := cond_f h hc
    apply go
    apply go
    apply go
    refine ev0 (rn_len rfl rfl Tryz.underlying22 r16131) ?_
    refine ev0 (rn_len rfl rfl Tryz.underlying22 r16131) ?_
    obtain ⟨x16132, q16133, h⟩ := bind_some h
    refine ev_index rfl rfl rfl Tryz.underlying22 T45 r16131 q16133 ?_
    intro p16134 c16135 d16136 a16137
    obtain rfl : c16135 = [(.int .u32 x16132)] := d16136
    refine ev (rn_load rfl rfl (run_loadVar1 T45 (a16137.2 0 _ rfl))) ?_
    obtain ⟨x16138, q16139, h⟩ := bind_some h
    refine ev_call rfl rfl C50 (((bits_Len32_ok n) _ _  x16132 hp.imm _ q16139).mono ?_)
    rintro _ w16140 ⟨rfl, hc⟩
    have hs := hp.stp hc
    replace hp := hp.ext hc
    apply go
    obtain rfl := Option.some.inj h
    exact ⟨rfl, hp.ch⟩

end Go.Proofs.YthhghkcopfnbiaaGreatDoor

namespace Go.Proofs.YthhghkcopfnbiaaGreatDoor
open Go Go.Proofs.YthhghkcopfnbiaaGreatDoor.Gw Go.RowKit
set_option linter.unusedVariables false
attribute [local irreducible] Ev EvQ EvS EvH
def integer_compare_S (f : (List Int) → (List Int) → Option Int) : Prop := ∀ (w0 : World) (I0 : Nat → Prop) (x181 : (List Int)) (v182 : Value) (r183 : RepS (dI .u32) w0 I0 v182 x181) (x184 : (List Int)) (v185 : Value) (r186 : RepS (dI .u32) w0 I0 v185 x184) (hI : ∀ g, I0 g → g < w0.heap.size) (r : Int), f x181 x184 = some r →
    Ret Tryz.prog 48 #[v182, v185] w0 fun v w1 => v = (.int .i64 r) ∧ Ch [] w0 w1
theorem integer_compare_ok (n : Nat) : integer_compare_S (integer_compare n) := by
  intro w0 I0 x181 v182 r183 x184 v185 r186 hI r h
  unfold integer_compare at h
  refine enter Tryz.func48 rfl (Nat.le_of_ble_eq_true rfl) ?_
  have hp : Hp ⟨w0, I0, []⟩ I0 [] w0 := Hp.start hI
  apply go
  apply go
  apply go
  apply go
  apply go
  refine ev0 (rn_len rfl rfl Tryz.underlying22 r183) ?_
  refine ev0 (rn_len rfl rfl Tryz.underlying22 r186) ?_
  apply go
  refine sel_of (fun hc => ?_) (fun hc => ?_)
  ·
    have h := cond_t h hc
    apply go
    apply go
    apply go
    refine ev0 (rn_len rfl rfl Tryz.underlying22 r183) ?_
    refine ev0 (rn_len rfl rfl Tryz.underlying22 r186) ?_
    apply go
    refine sel_of (fun hc => ?_) (fun hc => ?_)
    ·
      have h := cond_t h hc
      apply go
      apply go
      apply go
      obtain rfl := Option.some.inj h
      exact ⟨rfl, hp.ch⟩
    ·
      have h := cond_f h hc
      apply go
      apply go
      apply go
      apply go
      obtain rfl := Option.some.inj h
      exact ⟨rfl, hp.ch⟩
  ·
    have h := cond_f h hc
    apply go
    obtain ⟨y275, q276, h⟩ := bind_some h
    refine W.cut (γ := Unit) (fun _ => []) (fun _ w' => y275 = .go () ∧ Hp ⟨w0, I0, []⟩ I0 [] w') ?_ ?_
    ·
      apply go
      apply go
      refine ev0 (rn_len rfl rfl Tryz.underlying22 r183) ?_
      apply go
      refine W.loop q276 (γ := Unit) (fun s _ => [(0, v182), (1, v185), (5, (.int .i64 (s)))]) (fun s _ w' => Hp ⟨w0, I0, []⟩ I0 [] w' ∧ RepS (dI .u32) w' I0 v182 x181 ∧ RepS (dI .u32) w' I0 v185 x184) () (.c rfl (.c rfl (.c rfl .n))) ⟨hp, r183, r186⟩ ?_
      rintro x303 ⟨⟩ w331 y332 ⟨hp, r183, r186⟩ q333 q334
      unfold integer_compare_L1 at q333
      apply go
      apply go
      apply go
      apply go
      refine sel_of (fun hc => ?_) (fun hc => ?_)
      ·
        have q333 := cond_t q333 hc
        apply go
        apply go
        apply go
        apply go
        refine W.quiet (fun w' => Ch [] w331 w') MX (by kernel_rfl) (Ch.drew [] w331) ?_
        obtain ⟨x335, q336, q333⟩ := bind_some q333
        refine evq_index rfl rfl rfl Tryz.underlying22 T45 r183 q336 ?_
        intro p337 c338 d339 a340
        obtain rfl : c338 = [(.int .u32 x335)] := d339
        refine evq (fun w' hw => rn_load rfl rfl (run_loadVar1 T45 ((a340.step (hp.stp hw)).2 0 _ rfl))) ?_
        obtain ⟨x341, q342, q333⟩ := bind_some q333
        refine evq_index rfl rfl rfl Tryz.underlying22 T45 r186 q342 ?_
        intro p343 c344 d345 a346
        obtain rfl : c344 = [(.int .u32 x341)] := d345
        refine evq (fun w' hw => rn_load rfl rfl (run_loadVar1 T45 ((a346.step (hp.stp hw)).2 0 _ rfl))) ?_
        intro w347 hc
        have hs := hp.stp hc
        replace hp := hp.ext hc
        replace r183 := r183.step hs
        replace r186 := r186.step hs
        apply go
        refine sel_of (fun hc => ?_) (fun hc => ?_)
        ·
          have q333 := cond_t q333 hc
          apply go
          apply go
          refine W.quiet (fun w' => Ch [] w347 w') MX (by kernel_rfl) (Ch.drew [] w347) ?_
          obtain ⟨x348, q349, q333⟩ := bind_some q333
          refine evq_index rfl rfl rfl Tryz.underlying22 T45 r183 q349 ?_
          intro p350 c351 d352 a353
          obtain rfl : c351 = [(.int .u32 x348)] := d352
          refine evq (fun w' hw => rn_load rfl rfl (run_loadVar1 T45 ((a353.step (hp.stp hw)).2 0 _ rfl))) ?_
          obtain ⟨x354, q355, q333⟩ := bind_some q333
          refine evq_index rfl rfl rfl Tryz.underlying22 T45 r186 q355 ?_
          intro p356 c357 d358 a359
          obtain rfl : c357 = [(.int .u32 x354)] := d358
          refine evq (fun w' hw => rn_load rfl rfl (run_loadVar1 T45 ((a359.step (hp.stp hw)).2 0 _ rfl))) ?_
          intro w360 hc
          have hs := hp.stp hc
          replace hp := hp.ext hc
          apply go
          refine sel_of (fun hc => ?_) (fun hc => ?_)
          ·
            have q333 := cond_t q333 hc
            apply go
            apply go
            apply go
            have q361 := congrArg some (q334 _ (Option.some.inj q333).symm)
            obtain rfl := Option.some.inj q361
            obtain rfl := Option.some.inj h
            exact ⟨rfl, hp.ch⟩
          ·
            have q333 := cond_f q333 hc
            apply go
            apply go
            apply go
            apply go
            have q362 := congrArg some (q334 _ (Option.some.inj q333).symm)
            obtain rfl := Option.some.inj q362
            obtain rfl := Option.some.inj h
            exact ⟨rfl, hp.ch⟩
        ·
          have q333 := cond_f q333 hc
          apply go
          apply go
          exact ⟨_, (Option.some.inj q333).symm, (), (.c rfl (.c rfl (.c rfl .n))), ⟨hp, r183, r186⟩⟩
      ·
        have q333 := cond_f q333 hc
        apply go
        have q363 := congrArg some (q334 _ (Option.some.inj q333).symm)
        obtain rfl := Option.some.inj q363
        exact ⟨(), .n, rfl, hp⟩
    ·
      rintro ⟨⟩ w274 ⟨hy, hp⟩
      replace hy := hy.symm
      subst hy
      apply go
      apply go
      apply go
      obtain rfl := Option.some.inj h
      exact ⟨rfl, hp.ch⟩

end Go.Proofs.YthhghkcopfnbiaaGreatDoor

namespace Go.Proofs.YthhghkcopfnbiaaGreatDoor
open Go Go.Proofs.YthhghkcopfnbiaaGreatDoor.Gw Go.RowKit
set_option linter.unusedVariables false
attribute [local irreducible] Ev EvQ EvS EvH
def bits_Add32_S (f : Int → Int → Int → Option (Int × Int)) : Prop := ∀ (w0 : World) (I0 : Nat → Prop) (x900 : Int) (x901 : Int) (x902 : Int) (hI : ∀ g, I0 g → g < w0.heap.size) (r : (Int × Int)), f x900 x901 x902 = some r →
    Ret Tryz.prog 72 #[(.int .u32 x900), (.int .u32 x901), (.int .u32 x902)] w0 fun v w1 => v = (.tuple #[(.int .u32 r.1), (.int .u32 r.2)]) ∧ Ch [] w0 w1
theorem bits_Add32_ok (n : Nat) : bits_Add32_S (bits_Add32 n) := by
  intro w0 I0 x900 x901 x902 hI r h
  unfold bits_Add32 at h
  refine enter Tryz.func72 rfl (Nat.le_of_ble_eq_true rfl) ?_
  have hp : Hp ⟨w0, I0, []⟩ I0 [] w0 := Hp.start hI
  apply go
  apply go
  apply go
  apply go
  refine ev0 (rn_conv rfl rfl U45 Tryz.underlying49) ?_
  refine ev0 (rn_conv rfl rfl U45 Tryz.underlying49) ?_
  refine ev0 (rn_conv rfl rfl U45 Tryz.underlying49) ?_
  apply go
  apply go
  refine ev0 (rn_conv rfl rfl U49 Tryz.underlying45) ?_
  apply go
  apply go
  refine ⟨by decide, ?_⟩
  refine ev0 (rn_conv rfl rfl U49 Tryz.underlying45) ?_
  apply go
  obtain rfl := Option.some.inj h
  exact ⟨rfl, hp.ch⟩

end Go.Proofs.YthhghkcopfnbiaaGreatDoor

namespace Go.Proofs.YthhghkcopfnbiaaGreatDoor
open Go Go.Proofs.YthhghkcopfnbiaaGreatDoor.Gw Go.RowKit
set_option linter.unusedVariables false
attribute [local irreducible] Ev EvQ EvS EvH
def integer_plus_S (f : (List Int) → (List Int) → Option (List Int)) : Prop := ∀ (w0 : World) (I0 : Nat → Prop) (x14364 : (List Int)) (v14365 : Value) (r14366 : RepS (dI .u32) w0 I0 v14365 x14364) (x14367 : (List Int)) (v14368 : Value) (r14369 : RepS (dI .u32) w0 I0 v14368 x14367) (hI : ∀ g, I0 g → g < w0.heap.size) (r : (List Int)), f x14364 x14367 = some r →
    Ret Tryz.prog 65 #[v14365, v14368] w0 fun v w1 => ∃ (I1 : Nat → Prop) (u14370 : Value), v = u14370 ∧ Hp ⟨w0, I0, []⟩ I1 [] w1 ∧ RepS (dI .u32) w1 I1 u14370 r
theorem integer_plus_ok (n : Nat) : integer_plus_S (integer_plus n) := by
  intro w0 I0 x14364 v14365 r14366 x14367 v14368 r14369 hI r h
  unfold integer_plus at h
  refine enter Tryz.func65 rfl (Nat.le_of_ble_eq_true rfl) ?_
  have hp : Hp ⟨w0, I0, []⟩ I0 [] w0 := Hp.start hI
  apply go
  apply go
  obtain ⟨y14377, q14378, h⟩ := bind_some h
  refine W.cut (γ := ((List Int) × (List Int) × Value × Value)) (fun g => [(0, (g.2.2.1)), (1, (g.2.2.2))]) (fun g w' => y14377 = ((g.1), (g.2.1)) ∧ w0 = w' ∧ RepS (dI .u32) w' I0 (g.2.2.1) (g.1) ∧ RepS (dI .u32) w' I0 (g.2.2.2) (g.2.1)) ?_ ?_
  ·
    apply go
    apply go
    refine ev0 (rn_len rfl rfl Tryz.underlying22 r14366) ?_
    refine ev0 (rn_len rfl rfl Tryz.underlying22 r14369) ?_
    apply go
    refine sel_of (fun hc => ?_) (fun hc => ?_)
    ·
      have q14378 := cond_t q14378 hc
      apply go
      obtain rfl := Option.some.inj q14378
      exact ⟨(x14367, x14364, v14368, v14365), (.c rfl (.c rfl .n)), rfl, rfl, r14369, r14366⟩
    ·
      have q14378 := cond_f q14378 hc
      apply go
      obtain rfl := Option.some.inj q14378
      exact ⟨(x14364, x14367, v14365, v14368), (.c rfl (.c rfl .n)), rfl, rfl, r14366, r14369⟩
  ·
    rintro ⟨x14371, x14374, v14372, v14375⟩ _ ⟨hy, rfl, r14373, r14376⟩
    replace hy := hy.symm
    subst hy
    apply go
    apply go
    refine ev0 (rn_len rfl rfl Tryz.underlying22 r14373) ?_
    obtain ⟨x14379, q14380, h⟩ := bind_some h
    refine ev_makeC (d := (dI .u32)) (x0 := 0) hp rfl rfl rfl Tryz.underlying22 T45 (fun _ _ => rfl) (Nat.le_of_ble_eq_true rfl) q14380 ?_
    intro v14381 e14382 w14383 hp hs o14384
    replace r14373 := r14373.step hs
    replace r14376 := r14376.step hs
    apply go
    apply go
    obtain ⟨y14516, q14517, h⟩ := bind_some h
    refine W.cut (γ := ((List Int) × Int × Value × Ent × (Nat → Prop))) (fun g => [(5, (g.2.2.1)), (6, (.int .u32 (g.2.1)))]) (fun g w' => y14516 = ((g.1), (g.2.1)) ∧ Hp ⟨w0, I0, []⟩ (g.2.2.2.2) [(g.2.2.2.1)] w' ∧ OwnS (dI .u32) 45 w' (g.2.2.2.2) (g.2.2.1) (g.2.2.2.1) (g.1)) ?_ ?_
    ·
      apply go
      apply go
      refine ev0 (rn_len rfl rfl Tryz.underlying22 r14373) ?_
      apply go
      refine W.loop q14517 (γ := (Value × Ent × (Nat → Prop))) (fun s g => [(1, v14375), (5, (g.1)), (6, (.int .u32 (s.2.1))), (22, v14372), (23, (.int .i64 (x14371.length : Int))), (24, (.int .i64 (s.2.2)))]) (fun s g w' => Hp ⟨w0, I0, []⟩ (g.2.2) [(g.2.1)] w' ∧ RepS (dI .u32) w' (g.2.2) v14375 x14374 ∧ OwnS (dI .u32) 45 w' (g.2.2) (g.1) (g.2.1) (s.1) ∧ RepS (dI .u32) w' (g.2.2) v14372 x14371) (v14381, e14382, I0) (.c rfl (.c rfl (.c rfl (.c rfl (.c rfl (.c rfl .n)))))) ⟨hp, r14376, o14384, r14373⟩ ?_
      rintro ⟨x14553, x14557, x14558⟩ ⟨v14554, e14555, I14559⟩ w14602 y14603 ⟨hp, r14376, o14556, r14373⟩ q14604 q14605
      unfold integer_plus_L1 at q14604
      apply go
      apply go
      apply go
      apply go
      refine sel_of (fun hc => ?_) (fun hc => ?_)
      ·
        have q14604 := cond_t q14604 hc
        apply go
        apply go
        apply go
        apply go
        apply go
        obtain ⟨x14606, q14607, q14604⟩ := bind_some q14604
        refine ev_index rfl rfl rfl Tryz.underlying22 T45 r14373 q14607 ?_
        intro p14608 c14609 d14610 a14611
        obtain rfl : c14609 = [(.int .u32 x14606)] := d14610
        refine ev (rn_load rfl rfl (run_loadVar1 T45 (a14611.2 0 _ rfl))) ?_
        apply go
        apply go
        obtain ⟨y14619, q14620, q14604⟩ := bind_some q14604
        refine W.cut (γ := Int) (fun g => [(1, v14375), (5, v14554), (6, (.int .u32 x14557)), (8, (.int .u32 x14606)), (9, (.int .u32 (g))), (22, v14372), (23, (.int .i64 (x14371.length : Int))), (24, (.int .i64 x14558))]) (fun g w' => y14619 = (g) ∧ w14602 = w') ?_ ?_
        ·
          apply go
          apply go
          refine ev0 (rn_len rfl rfl Tryz.underlying22 r14376) ?_
          apply go
          refine sel_of (fun hc => ?_) (fun hc => ?_)
          ·
            have q14620 := cond_t q14620 hc
            apply go
            obtain ⟨x14621, q14622, q14620⟩ := bind_some q14620
            refine ev_index rfl rfl rfl Tryz.underlying22 T45 r14376 q14622 ?_
            intro p14623 c14624 d14625 a14626
            obtain rfl : c14624 = [(.int .u32 x14621)] := d14625
            refine ev (rn_load rfl rfl (run_loadVar1 T45 (a14626.2 0 _ rfl))) ?_
            obtain rfl := Option.some.inj q14620
            exact ⟨x14621, (.c rfl (.c rfl (.c rfl (.c rfl (.c rfl (.c rfl (.c rfl (.c rfl .n)))))))), rfl, rfl⟩
          ·
            have q14620 := cond_f q14620 hc
            apply go
            obtain rfl := Option.some.inj q14620
            exact ⟨0, (.c rfl (.c rfl (.c rfl (.c rfl (.c rfl (.c rfl (.c rfl (.c rfl .n)))))))), rfl, rfl⟩
        ·
          rintro x14618 _ ⟨hy, rfl⟩
          replace hy := hy.symm
          subst hy
          apply go
          apply go
          apply go
          apply go
          obtain ⟨⟨x14627, x14628⟩, q14629, q14604⟩ := bind_some q14604
          refine ev_call rfl rfl C72 (((bits_Add32_ok n) _ _  x14606 x14618 x14557 hp.imm _ q14629).mono ?_)
          rintro _ w14630 ⟨rfl, hc⟩
          have hs := hp.stp hc
          replace hp := hp.ext hc
          replace r14376 := r14376.step hs
          replace o14556 := o14556.step hs
          replace r14373 := r14373.step hs
          apply go
          refine ev_litN (d := (dI .u32)) (xs := [x14627]) (cs := [(.int .u32 x14627)]) hp rfl rfl Tryz.underlying22 T45 (by decide) rfl rfl (Elems.cons (d := (dI .u32)) (xs := _) rfl (Elems.nil _ _ _ _)) ?_
          intro v14631 I14633 w14632 hp hs r14634
          replace r14376 := r14376.step hs
          replace r14373 := r14373.step hs
          replace o14556 := o14556.step hs
          obtain ⟨x14635, q14636, q14604⟩ := bind_some q14604
          refine ev_append hp (i := 0) rfl rfl rfl rfl Tryz.underlying22 T45 rfl rfl o14556 r14634 q14636 ?_
          rintro v14637 e14638 w14639 hp hs o14640
          replace r14376 := r14376.step hs
          replace r14373 := r14373.step hs
          apply go
          exact ⟨_, (Option.some.inj q14604).symm, (v14637, e14638, I14633), (.c rfl (.c rfl (.c rfl (.c rfl (.c rfl (.c rfl .n)))))), ⟨hp, r14376, o14640, r14373⟩⟩
      ·
        have q14604 := cond_f q14604 hc
        apply go
        have q14641 := congrArg some (q14605 _ (Option.some.inj q14604).symm)
        obtain rfl := Option.some.inj q14641
        exact ⟨(x14553, x14557, v14554, e14555, I14559), (.c rfl (.c rfl .n)), rfl, hp, o14556⟩
    ·
      rintro ⟨x14509, x14513, v14510, e14511, I14514⟩ w14515 ⟨hy, hp, o14512⟩
      replace hy := hy.symm
      subst hy
      apply go
      apply go
      refine ev_litN (d := (dI .u32)) (xs := [x14513]) (cs := [(.int .u32 x14513)]) hp rfl rfl Tryz.underlying22 T45 (by decide) rfl rfl (Elems.cons (d := (dI .u32)) (xs := _) rfl (Elems.nil _ _ _ _)) ?_
      intro v14642 I14644 w14643 hp hs r14645
      replace o14512 := o14512.step hs
      obtain ⟨x14646, q14647, h⟩ := bind_some h
      refine ev_append hp (i := 0) rfl rfl rfl rfl Tryz.underlying22 T45 rfl rfl o14512 r14645 q14647 ?_
      rintro v14648 e14649 w14650 hp hs o14651
      apply go
      obtain rfl := Option.some.inj h
      have r14652 := o14651.frz hp (i := 0) rfl
      obtain ⟨hp, hs⟩ := freeze_hp hp (i := 0) rfl
      have hp := hp.sel [] (by decide)
      exact ⟨(Ad I14644 e14649), v14648, rfl, hp, r14652⟩

end Go.Proofs.YthhghkcopfnbiaaGreatDoor

namespace Go.Proofs.YthhghkcopfnbiaaGreatDoor
open Go Go.Proofs.YthhghkcopfnbiaaGreatDoor.Gw Go.RowKit
set_option linter.unusedVariables false
attribute [local irreducible] Ev EvQ EvS EvH
def bits_Sub32_S (f : Int → Int → Int → Option (Int × Int)) : Prop := ∀ (w0 : World) (I0 : Nat → Prop) (x897 : Int) (x898 : Int) (x899 : Int) (hI : ∀ g, I0 g → g < w0.heap.size) (r : (Int × Int)), f x897 x898 x899 = some r →
    Ret Tryz.prog 71 #[(.int .u32 x897), (.int .u32 x898), (.int .u32 x899)] w0 fun v w1 => v = (.tuple #[(.int .u32 r.1), (.int .u32 r.2)]) ∧ Ch [] w0 w1
theorem bits_Sub32_ok (n : Nat) : bits_Sub32_S (bits_Sub32 n) := by
  intro w0 I0 x897 x898 x899 hI r h
  unfold bits_Sub32 at h
  refine enter Tryz.func71 rfl (Nat.le_of_ble_eq_true rfl) ?_
  have hp : Hp ⟨w0, I0, []⟩ I0 [] w0 := Hp.start hI
  apply go
  apply go
  apply go
  apply go
  apply go
  apply go
  refine ⟨by decide, ?_⟩
  apply go
  obtain rfl := Option.some.inj h
  exact ⟨rfl, hp.ch⟩

end Go.Proofs.YthhghkcopfnbiaaGreatDoor

namespace Go.Proofs.YthhghkcopfnbiaaGreatDoor
open Go Go.Proofs.YthhghkcopfnbiaaGreatDoor.Gw Go.RowKit
set_option linter.unusedVariables false
attribute [local irreducible] Ev EvQ EvS EvH
def integer_minus_S (f : (List Int) → (List Int) → Option (List Int)) : Prop := ∀ (w0 : World) (I0 : Nat → Prop) (x14653 : (List Int)) (v14654 : Value) (r14655 : RepS (dI .u32) w0 I0 v14654 x14653) (x14656 : (List Int)) (v14657 : Value) (r14658 : RepS (dI .u32) w0 I0 v14657 x14656) (hI : ∀ g, I0 g → g < w0.heap.size) (r : (List Int)), f x14653 x14656 = some r →
    Ret Tryz.prog 67 #[v14654, v14657] w0 fun v w1 => ∃ (I1 : Nat → Prop) (u14659 : Value), v = u14659 ∧ Hp ⟨w0, I0, []⟩ I1 [] w1 ∧ RepS (dI .u32) w1 I1 u14659 r
theorem integer_minus_ok (n : Nat) : integer_minus_S (integer_minus n) := by
  intro w0 I0 x14653 v14654 r14655 x14656 v14657 r14658 hI r h
  unfold integer_minus at h
  refine enter Tryz.func67 rfl (Nat.le_of_ble_eq_true rfl) ?_
  have hp : Hp ⟨w0, I0, []⟩ I0 [] w0 := Hp.start hI
  apply go
  apply go
  apply go
  apply go
  refine ev0 (rn_len rfl rfl Tryz.underlying22 r14655) ?_
  obtain ⟨x14660, q14661, h⟩ := bind_some h
  refine ev_makeC (d := (dI .u32)) (x0 := 0) hp rfl rfl rfl Tryz.underlying22 T45 (fun _ _ => rfl) (Nat.le_of_ble_eq_true rfl) q14661 ?_
  intro v14662 e14663 w14664 hp hs o14665
  replace r14655 := r14655.step hs
  replace r14658 := r14658.step hs
  apply go
  apply go
  obtain ⟨y14796, q14797, h⟩ := bind_some h
  refine W.cut (γ := ((List Int) × Value × Ent × (Nat → Prop))) (fun g => [(5, (g.2.1))]) (fun g w' => y14796 = (g.1) ∧ Hp ⟨w0, I0, []⟩ (g.2.2.2) [(g.2.2.1)] w' ∧ OwnS (dI .u32) 45 w' (g.2.2.2) (g.2.1) (g.2.2.1) (g.1)) ?_ ?_
  ·
    apply go
    apply go
    refine ev0 (rn_len rfl rfl Tryz.underlying22 r14655) ?_
    apply go
    refine W.loop q14797 (γ := (Value × Ent × (Nat → Prop))) (fun s g => [(1, v14657), (5, (g.1)), (6, (.int .u32 (s.2.1))), (14, v14654), (15, (.int .i64 (x14653.length : Int))), (16, (.int .i64 (s.2.2)))]) (fun s g w' => Hp ⟨w0, I0, []⟩ (g.2.2) [(g.2.1)] w' ∧ RepS (dI .u32) w' (g.2.2) v14657 x14656 ∧ OwnS (dI .u32) 45 w' (g.2.2) (g.1) (g.2.1) (s.1) ∧ RepS (dI .u32) w' (g.2.2) v14654 x14653) (v14662, e14663, I0) (.c rfl (.c rfl (.c rfl (.c rfl (.c rfl (.c rfl .n)))))) ⟨hp, r14658, o14665, r14655⟩ ?_
    rintro ⟨x14833, x14837, x14838⟩ ⟨v14834, e14835, I14839⟩ w14882 y14883 ⟨hp, r14658, o14836, r14655⟩ q14884 q14885
    unfold integer_minus_L1 at q14884
    apply go
    apply go
    apply go
    apply go
    refine sel_of (fun hc => ?_) (fun hc => ?_)
    ·
      have q14884 := cond_t q14884 hc
      apply go
      apply go
      apply go
      apply go
      apply go
      obtain ⟨x14886, q14887, q14884⟩ := bind_some q14884
      refine ev_index rfl rfl rfl Tryz.underlying22 T45 r14655 q14887 ?_
      intro p14888 c14889 d14890 a14891
      obtain rfl : c14889 = [(.int .u32 x14886)] := d14890
      refine ev (rn_load rfl rfl (run_loadVar1 T45 (a14891.2 0 _ rfl))) ?_
      apply go
      apply go
      obtain ⟨y14899, q14900, q14884⟩ := bind_some q14884
      refine W.cut (γ := Int) (fun g => [(1, v14657), (5, v14834), (6, (.int .u32 x14837)), (8, (.int .u32 x14886)), (9, (.int .u32 (g))), (14, v14654), (15, (.int .i64 (x14653.length : Int))), (16, (.int .i64 x14838))]) (fun g w' => y14899 = (g) ∧ w14882 = w') ?_ ?_
      ·
        apply go
        apply go
        refine ev0 (rn_len rfl rfl Tryz.underlying22 r14658) ?_
        apply go
        refine sel_of (fun hc => ?_) (fun hc => ?_)
        ·
          have q14900 := cond_t q14900 hc
          apply go
          obtain ⟨x14901, q14902, q14900⟩ := bind_some q14900
          refine ev_index rfl rfl rfl Tryz.underlying22 T45 r14658 q14902 ?_
          intro p14903 c14904 d14905 a14906
          obtain rfl : c14904 = [(.int .u32 x14901)] := d14905
          refine ev (rn_load rfl rfl (run_loadVar1 T45 (a14906.2 0 _ rfl))) ?_
          obtain rfl := Option.some.inj q14900
          exact ⟨x14901, (.c rfl (.c rfl (.c rfl (.c rfl (.c rfl (.c rfl (.c rfl (.c rfl .n)))))))), rfl, rfl⟩
        ·
          have q14900 := cond_f q14900 hc
          apply go
          obtain rfl := Option.some.inj q14900
          exact ⟨0, (.c rfl (.c rfl (.c rfl (.c rfl (.c rfl (.c rfl (.c rfl (.c rfl .n)))))))), rfl, rfl⟩
      ·
        rintro x14898 _ ⟨hy, rfl⟩
        replace hy := hy.symm
        subst hy
        apply go
        apply go
        apply go
        apply go
        obtain ⟨⟨x14907, x14908⟩, q14909, q14884⟩ := bind_some q14884
        refine ev_call rfl rfl C71 (((bits_Sub32_ok n) _ _  x14886 x14898 x14837 hp.imm _ q14909).mono ?_)
        rintro _ w14910 ⟨rfl, hc⟩
        have hs := hp.stp hc
        replace hp := hp.ext hc
        replace r14658 := r14658.step hs
        replace o14836 := o14836.step hs
        replace r14655 := r14655.step hs
        apply go
        refine ev_litN (d := (dI .u32)) (xs := [x14907]) (cs := [(.int .u32 x14907)]) hp rfl rfl Tryz.underlying22 T45 (by decide) rfl rfl (Elems.cons (d := (dI .u32)) (xs := _) rfl (Elems.nil _ _ _ _)) ?_
        intro v14911 I14913 w14912 hp hs r14914
        replace r14658 := r14658.step hs
        replace r14655 := r14655.step hs
        replace o14836 := o14836.step hs
        obtain ⟨x14915, q14916, q14884⟩ := bind_some q14884
        refine ev_append hp (i := 0) rfl rfl rfl rfl Tryz.underlying22 T45 rfl rfl o14836 r14914 q14916 ?_
        rintro v14917 e14918 w14919 hp hs o14920
        replace r14658 := r14658.step hs
        replace r14655 := r14655.step hs
        apply go
        exact ⟨_, (Option.some.inj q14884).symm, (v14917, e14918, I14913), (.c rfl (.c rfl (.c rfl (.c rfl (.c rfl (.c rfl .n)))))), ⟨hp, r14658, o14920, r14655⟩⟩
    ·
      have q14884 := cond_f q14884 hc
      apply go
      have q14921 := congrArg some (q14885 _ (Option.some.inj q14884).symm)
      obtain rfl := Option.some.inj q14921
      exact ⟨(x14833, v14834, e14835, I14839), (.c rfl .n), rfl, hp, o14836⟩
  ·
    rintro ⟨x14790, v14791, e14792, I14794⟩ w14795 ⟨hy, hp, o14793⟩
    replace hy := hy.symm
    subst hy
    apply go
    apply go
    apply go
    obtain rfl := Option.some.inj h
    have r14922 := o14793.frz hp (i := 0) rfl
    obtain ⟨hp, hs⟩ := freeze_hp hp (i := 0) rfl
    have hp := hp.sel [] (by decide)
    exact ⟨(Ad I14794 e14792), v14791, rfl, hp, r14922⟩

end Go.Proofs.YthhghkcopfnbiaaGreatDoor

namespace Go.Proofs.YthhghkcopfnbiaaGreatDoor
open Go Go.Proofs.YthhghkcopfnbiaaGreatDoor.Gw Go.RowKit
set_option linter.unusedVariables false
attribute [local irreducible] Ev EvQ EvS EvH
def integer_Add_S (f : Int_2 → Int_2 → Option Int_2) : Prop := ∀ (w0 : World) (I0 : Nat → Prop) (x14923 : Int_2) (v14924 : Value) (r14925 : RepS (dI .u32) w0 I0 v14924 x14923.Mag) (x14926 : Int_2) (v14927 : Value) (r14928 : RepS (dI .u32) w0 I0 v14927 x14926.Mag) (hI : ∀ g, I0 g → g < w0.heap.size) (r : Int_2), f x14923 x14926 = some r →
    Ret Tryz.prog 30 #[(.agg #[(.bool x14923.Neg), v14924]), (.agg #[(.bool x14926.Neg), v14927])] w0 fun v w1 => ∃ (I1 : Nat → Prop) (u14929 : Value), v = (.agg #[(.bool r.Neg), u14929]) ∧ Hp ⟨w0, I0, []⟩ I1 [] w1 ∧ RepS (dI .u32) w1 I1 u14929 r.Mag
theorem integer_Add_ok (n : Nat) : integer_Add_S (integer_Add n) := by
  intro w0 I0 x14923 v14924 r14925 x14926 v14927 r14928 hI r h
  unfold integer_Add at h
  refine enter Tryz.func30 rfl (Nat.le_of_ble_eq_true rfl) ?_
  have hp : Hp ⟨w0, I0, []⟩ I0 [] w0 := Hp.start hI
  apply go
  apply go
  refine ev_boxI hp rfl rfl ?_
  intro p14932 I14933 w14931 hp hs a14934
  replace r14928 := r14928.step hs
  replace r14925 := r14925.step hs
  refine ev_boxI hp rfl rfl ?_
  intro p14937 I14938 w14936 hp hs a14939
  replace a14934 := a14934.step hs
  replace r14925 := r14925.step hs
  replace r14928 := r14928.step hs
  refine ev_alloc hp rfl T24 ?_
  intro g14940 w14941 hp hs
  replace a14934 := a14934.step hs
  replace r14925 := r14925.step hs
  replace a14939 := a14939.step hs
  replace r14928 := r14928.step hs
  apply go
  have hs := hp.stp (Ch.drew [] w14941)
  have hp := hp.drew
  replace a14934 := a14934.step hs
  replace r14925 := r14925.step hs
  replace a14939 := a14939.step hs
  replace r14928 := r14928.step hs
  refine W.held [(0, true), (1, true), (3, true), (4, true), (2, false), (5, false), (6, true), (7, true)] (Stp I14938 w14941.drew I14938) MX (by kernel_rfl) (Stp.refl _ _) ?_
  have hz := Stp.refl I14938 w14941.drew
  refine evh0 (rn_field rfl rfl FO24_1) ?_
  refine evh (fun w' hw => rn_load rfl rfl (run_loadVar1 T22 ((a14934.step hw).2 1 _ rfl))) ?_
  refine evh0 (rn_field rfl rfl FO24_1) ?_
  refine evh (fun w' hw => rn_load rfl rfl (run_loadVar1 T22 ((a14939.step hw).2 1 _ rfl))) ?_
  obtain ⟨x14954, q14955, h⟩ := bind_some h
  refine ev_call rfl rfl C46 (((integer_trim_ok n) _ _  x14923.Mag v14924 r14925 hp.imm _ q14955).mono ?_)
  rintro _ w14956 ⟨I14957, v14958, hv, hq, r14959⟩
  replace hv := hv.symm
  subst hv
  have hs := hq.st
  have hp := hp.join0 hq
  replace hz := hz.trans hs
  replace a14934 := a14934.step hs
  replace r14925 := r14925.step hs
  replace a14939 := a14939.step hs
  replace r14928 := r14928.step hs
  refine ⟨Stp I14957 w14956 I14957, Stp.refl _ _, fun x hx => hz.held hx, ?_⟩
  have hz := Stp.refl I14957 w14956
  obtain ⟨x14960, q14961, h⟩ := bind_some h
  refine ev_call rfl rfl C46 (((integer_trim_ok n) _ _  x14926.Mag v14927 r14928 hp.imm _ q14961).mono ?_)
  rintro _ w14962 ⟨I14963, v14964, hv, hq, r14965⟩
  replace hv := hv.symm
  subst hv
  have hs := hq.st
  have hp := hp.join0 hq
  replace hz := hz.trans hs
  replace a14934 := a14934.step hs
  replace r14925 := r14925.step hs
  replace a14939 := a14939.step hs
  replace r14928 := r14928.step hs
  replace r14959 := r14959.step hs
  refine ⟨Stp I14963 w14962 I14963, Stp.refl _ _, fun x hx => hz.held hx, ?_⟩
  have hz := Stp.refl I14963 w14962
  apply go
  apply go
  apply go
  apply go
  refine ev0 (rn_field rfl rfl FO24_0) ?_
  refine ev (rn_load rfl rfl (run_loadVar1 T4 (a14934.2 0 _ rfl))) ?_
  refine ev0 (rn_field rfl rfl FO24_0) ?_
  refine ev (rn_load rfl rfl (run_loadVar1 T4 (a14939.2 0 _ rfl))) ?_
  refine ev0 (rn_eqB rfl rfl rfl Tryz.underlying4) ?_
  apply go
  refine sel_of (fun hc => ?_) (fun hc => ?_)
  ·
    have h := cond_t h hc
    apply go
    have hs := hp.stp (Ch.drew [] w14962)
    have hp := hp.drew
    replace a14934 := a14934.step hs
    replace r14925 := r14925.step hs
    replace r14959 := r14959.step hs
    replace r14965 := r14965.step hs
    refine W.held [(0, true), (1, true), (2, true), (3, true), (4, false), (5, false), (6, false)] (Stp I14963 w14962.drew I14963) MX (by kernel_rfl) (Stp.refl _ _) ?_
    have hz := Stp.refl I14963 w14962.drew
    refine evh0 (rn_field rfl rfl FO24_0) ?_
    refine evh (fun w' hw => rn_load rfl rfl (run_loadVar1 T4 ((a14934.step hw).2 0 _ rfl))) ?_
    obtain ⟨x14979, q14980, h⟩ := bind_some h
    refine ev_call rfl rfl C65 (((integer_plus_ok n) _ _  x14954 v14958 r14959 x14960 v14964 r14965 hp.imm _ q14980).mono ?_)
    rintro _ w14981 ⟨I14982, v14983, hv, hq, r14984⟩
    replace hv := hv.symm
    subst hv
    have hs := hq.st
    have hp := hp.join0 hq
    replace hz := hz.trans hs
    refine ⟨Stp I14982 w14981 I14982, Stp.refl _ _, fun x hx => hz.held hx, ?_⟩
    have hz := Stp.refl I14982 w14981
    obtain ⟨x14985, q14986, h⟩ := bind_some h
    refine ev_call rfl rfl C49 (((integer_made_ok n) _ _  x14923.Neg x14979 v14983 r14984 hp.imm _ q14986).mono ?_)
    rintro _ w14987 ⟨I14988, v14989, hv, hq, r14990⟩
    replace hv := hv.symm
    subst hv
    have hs := hq.st
    have hp := hp.join0 hq
    replace hz := hz.trans hs
    refine ⟨Stp I14988 w14987 I14988, Stp.refl _ _, fun x hx => hz.held hx, ?_⟩
    have hz := Stp.refl I14988 w14987
    refine ev_storeA hp (i := 0) (off := 0) (vs := [(.bool x14985.Neg), v14989]) rfl rfl rfl rfl T24 rfl (Nat.le_of_ble_eq_true rfl) (ones_cons rfl (ones_cons r14990.one ones_nil)) ?_
    intro w14991 hp hs
    replace hz := hz.trans hs
    replace r14990 := r14990.step hs
    refine ⟨Stp I14988 w14991 I14988, Stp.refl _ _, fun x hx => hz.held hx, ?_⟩
    have hz := Stp.refl I14988 w14991
    apply go
    obtain rfl := Option.some.inj h
    refine ⟨_, run_loadVarA T24 rfl (hp.at_ (i := 0) rfl), ?_⟩
    have hp := hp.sel [] (by decide)
    exact ⟨I14988, v14989, rfl, hp, r14990⟩
  ·
    have h := cond_f h hc
    apply go
    apply go
    obtain ⟨x14992, q14993, h⟩ := bind_some h
    refine ev_call rfl rfl C48 (((integer_compare_ok n) _ _  x14954 v14958 r14959 x14960 v14964 r14965 hp.imm _ q14993).mono ?_)
    rintro _ w14994 ⟨rfl, hc⟩
    have hs := hp.stp hc
    replace hp := hp.ext hc
    replace a14934 := a14934.step hs
    replace r14925 := r14925.step hs
    replace a14939 := a14939.step hs
    replace r14928 := r14928.step hs
    replace r14959 := r14959.step hs
    replace r14965 := r14965.step hs
    apply go
    refine sel_of (fun hc => ?_) (fun hc => ?_)
    ·
      have h := cond_t h hc
      apply go
      have hs := hp.stp (Ch.drew [] w14994)
      have hp := hp.drew
      replace a14934 := a14934.step hs
      replace r14925 := r14925.step hs
      replace r14959 := r14959.step hs
      replace r14965 := r14965.step hs
      refine W.held [(0, true), (1, true), (2, true), (3, true), (4, false), (5, false), (6, false)] (Stp I14963 w14994.drew I14963) MX (by kernel_rfl) (Stp.refl _ _) ?_
      have hz := Stp.refl I14963 w14994.drew
      refine evh0 (rn_field rfl rfl FO24_0) ?_
      refine evh (fun w' hw => rn_load rfl rfl (run_loadVar1 T4 ((a14934.step hw).2 0 _ rfl))) ?_
      obtain ⟨x15008, q15009, h⟩ := bind_some h
      refine ev_call rfl rfl C67 (((integer_minus_ok n) _ _  x14954 v14958 r14959 x14960 v14964 r14965 hp.imm _ q15009).mono ?_)
      rintro _ w15010 ⟨I15011, v15012, hv, hq, r15013⟩
      replace hv := hv.symm
      subst hv
      have hs := hq.st
      have hp := hp.join0 hq
      replace hz := hz.trans hs
      refine ⟨Stp I15011 w15010 I15011, Stp.refl _ _, fun x hx => hz.held hx, ?_⟩
      have hz := Stp.refl I15011 w15010
      obtain ⟨x15014, q15015, h⟩ := bind_some h
      refine ev_call rfl rfl C49 (((integer_made_ok n) _ _  x14923.Neg x15008 v15012 r15013 hp.imm _ q15015).mono ?_)
      rintro _ w15016 ⟨I15017, v15018, hv, hq, r15019⟩
      replace hv := hv.symm
      subst hv
      have hs := hq.st
      have hp := hp.join0 hq
      replace hz := hz.trans hs
      refine ⟨Stp I15017 w15016 I15017, Stp.refl _ _, fun x hx => hz.held hx, ?_⟩
      have hz := Stp.refl I15017 w15016
      refine ev_storeA hp (i := 0) (off := 0) (vs := [(.bool x15014.Neg), v15018]) rfl rfl rfl rfl T24 rfl (Nat.le_of_ble_eq_true rfl) (ones_cons rfl (ones_cons r15019.one ones_nil)) ?_
      intro w15020 hp hs
      replace hz := hz.trans hs
      replace r15019 := r15019.step hs
      refine ⟨Stp I15017 w15020 I15017, Stp.refl _ _, fun x hx => hz.held hx, ?_⟩
      have hz := Stp.refl I15017 w15020
      apply go
      obtain rfl := Option.some.inj h
      refine ⟨_, run_loadVarA T24 rfl (hp.at_ (i := 0) rfl), ?_⟩
      have hp := hp.sel [] (by decide)
      exact ⟨I15017, v15018, rfl, hp, r15019⟩
    ·
      have h := cond_f h hc
      apply go
      apply go
      have hs := hp.stp (Ch.drew [] w14994)
      have hp := hp.drew
      replace a14939 := a14939.step hs
      replace r14928 := r14928.step hs
      replace r14959 := r14959.step hs
      replace r14965 := r14965.step hs
      refine W.held [(0, true), (1, true), (2, true), (3, true), (4, false), (5, false), (6, false)] (Stp I14963 w14994.drew I14963) MX (by kernel_rfl) (Stp.refl _ _) ?_
      have hz := Stp.refl I14963 w14994.drew
      refine evh0 (rn_field rfl rfl FO24_0) ?_
      refine evh (fun w' hw => rn_load rfl rfl (run_loadVar1 T4 ((a14939.step hw).2 0 _ rfl))) ?_
      obtain ⟨x15034, q15035, h⟩ := bind_some h
      refine ev_call rfl rfl C67 (((integer_minus_ok n) _ _  x14960 v14964 r14965 x14954 v14958 r14959 hp.imm _ q15035).mono ?_)
      rintro _ w15036 ⟨I15037, v15038, hv, hq, r15039⟩
      replace hv := hv.symm
      subst hv
      have hs := hq.st
      have hp := hp.join0 hq
      replace hz := hz.trans hs
      refine ⟨Stp I15037 w15036 I15037, Stp.refl _ _, fun x hx => hz.held hx, ?_⟩
      have hz := Stp.refl I15037 w15036
      obtain ⟨x15040, q15041, h⟩ := bind_some h
      refine ev_call rfl rfl C49 (((integer_made_ok n) _ _  x14926.Neg x15034 v15038 r15039 hp.imm _ q15041).mono ?_)
      rintro _ w15042 ⟨I15043, v15044, hv, hq, r15045⟩
      replace hv := hv.symm
      subst hv
      have hs := hq.st
      have hp := hp.join0 hq
      replace hz := hz.trans hs
      refine ⟨Stp I15043 w15042 I15043, Stp.refl _ _, fun x hx => hz.held hx, ?_⟩
      have hz := Stp.refl I15043 w15042
      refine ev_storeA hp (i := 0) (off := 0) (vs := [(.bool x15040.Neg), v15044]) rfl rfl rfl rfl T24 rfl (Nat.le_of_ble_eq_true rfl) (ones_cons rfl (ones_cons r15045.one ones_nil)) ?_
      intro w15046 hp hs
      replace hz := hz.trans hs
      replace r15045 := r15045.step hs
      refine ⟨Stp I15043 w15046 I15043, Stp.refl _ _, fun x hx => hz.held hx, ?_⟩
      have hz := Stp.refl I15043 w15046
      apply go
      obtain rfl := Option.some.inj h
      refine ⟨_, run_loadVarA T24 rfl (hp.at_ (i := 0) rfl), ?_⟩
      have hp := hp.sel [] (by decide)
      exact ⟨I15043, v15044, rfl, hp, r15045⟩

end Go.Proofs.YthhghkcopfnbiaaGreatDoor

namespace Go.Proofs.YthhghkcopfnbiaaGreatDoor
open Go Go.Proofs.YthhghkcopfnbiaaGreatDoor.Gw Go.RowKit
set_option linter.unusedVariables false
attribute [local irreducible] Ev EvQ EvS EvH
def slices_Cloneuint32_uint32__S (f : (List Int) → Option (List Int)) : Prop := ∀ (w0 : World) (I0 : Nat → Prop) (x364 : (List Int)) (v365 : Value) (r366 : RepS (dI .u32) w0 I0 v365 x364) (hI : ∀ g, I0 g → g < w0.heap.size) (r : (List Int)), f x364 = some r →
    Ret Tryz.prog 56 #[v365] w0 fun v w1 => ∃ (I1 : Nat → Prop) (u367 : Value), v = u367 ∧ Hp ⟨w0, I0, []⟩ I1 [] w1 ∧ RepS (dI .u32) w1 I1 u367 r
theorem slices_Cloneuint32_uint32__ok (n : Nat) : slices_Cloneuint32_uint32__S (slices_Cloneuint32_uint32_ n) := by
  intro w0 I0 x364 v365 r366 hI r h
  unfold slices_Cloneuint32_uint32_ at h
  refine enter Tryz.func56 rfl (Nat.le_of_ble_eq_true rfl) ?_
  have hp : Hp ⟨w0, I0, []⟩ I0 [] w0 := Hp.start hI
  apply go
  apply go
  apply go
  apply go
  apply go
  rcases r366.nilcase with ⟨hv, hx⟩ | ⟨n368, hv, hx⟩ | ⟨a369, n368, hv⟩
  ·
    subst hv; subst hx
    replace h : some ([] : (List Int)) = some _ := h
    refine ev0 (rn_eqNil rfl rfl rfl Tryz.underlying22) ?_
    apply go
    apply go
    apply go
    apply go
    obtain rfl := Option.some.inj h
    exact ⟨I0, .slice none 0 0, rfl, hp, RepS.nil _ _ _⟩
  ·
    subst hv; subst hx
    replace h : some ([] : (List Int)) = some _ := h
    refine ev0 (rn_eqNil rfl rfl rfl Tryz.underlying22) ?_
    apply go
    apply go
    apply go
    apply go
    obtain rfl := Option.some.inj h
    exact ⟨I0, .slice none 0 0, rfl, hp, RepS.nil _ _ _⟩
  ·
    subst hv
    refine ev0 (rn_eqNil rfl rfl rfl Tryz.underlying22) ?_
    apply go
    apply go
    apply go
    apply go
    refine ev_litON (d := (dI .u32)) (xs := ([] : List Int)) (cs := []) hp rfl rfl Tryz.underlying22 T45 (by decide) (by decide) rfl rfl (Elems.nil _ _ _ _) ?_
    intro v370 e372 w371 hp hs o373
    replace r366 := r366.step hs
    obtain ⟨x374, q375, h⟩ := bind_some h
    refine ev_append hp (i := 0) rfl rfl rfl rfl Tryz.underlying22 T45 rfl rfl o373 r366 q375 ?_
    rintro v376 e377 w378 hp hs o379
    apply go
    obtain rfl := Option.some.inj h
    have r380 := o379.frz hp (i := 0) rfl
    obtain ⟨hp, hs⟩ := freeze_hp hp (i := 0) rfl
    have hp := hp.sel [] (by decide)
    exact ⟨(Ad I0 e377), v376, rfl, hp, r380⟩

end Go.Proofs.YthhghkcopfnbiaaGreatDoor

namespace Go.Proofs.YthhghkcopfnbiaaGreatDoor
open Go Go.Proofs.YthhghkcopfnbiaaGreatDoor.Gw Go.RowKit
set_option linter.unusedVariables false
attribute [local irreducible] Ev EvQ EvS EvH
def bits_Div32_S (f : Int → Int → Int → Option (Int × Int)) : Prop := ∀ (w0 : World) (I0 : Nat → Prop) (x381 : Int) (x382 : Int) (x383 : Int) (hI : ∀ g, I0 g → g < w0.heap.size) (r : (Int × Int)), f x381 x382 x383 = some r →
    Ret Tryz.prog 73 #[(.int .u32 x381), (.int .u32 x382), (.int .u32 x383)] w0 fun v w1 => v = (.tuple #[(.int .u32 r.1), (.int .u32 r.2)]) ∧ Ch [] w0 w1
theorem bits_Div32_ok (n : Nat) : bits_Div32_S (bits_Div32 n) := by
  intro w0 I0 x381 x382 x383 hI r h
  unfold bits_Div32 at h
  refine enter Tryz.func73 rfl (Nat.le_of_ble_eq_true rfl) ?_
  have hp : Hp ⟨w0, I0, []⟩ I0 [] w0 := Hp.start hI
  apply go
  apply go
  obtain ⟨y387, q388, h⟩ := bind_some h
  refine W.cut (γ := Unit) (fun _ => [(0, (.int .u32 x381)), (1, (.int .u32 x382)), (2, (.int .u32 x383))]) (fun _ w' => y387 = () ∧ w0 = w') ?_ ?_
  ·
    obtain ⟨y390, q391, q388⟩ := bind_some q388
    refine W.cut (γ := Bool) (fun g => [(0, (.int .u32 x381)), (1, (.int .u32 x382)), (2, (.int .u32 x383)), (15, (.bool (g)))]) (fun g w' => y390 = (g) ∧ w0 = w') ?_ ?_
    ·
      apply go
      refine sel_of (fun hc => ?_) (fun hc => ?_)
      ·
        have q391 := cond_t q391 hc
        obtain rfl := Option.some.inj q391
        exact ⟨(decide (x383 ≤ x381)), (.c rfl (.c rfl (.c rfl (.c rfl .n)))), rfl, rfl⟩
      ·
        have q391 := cond_f q391 hc
        obtain rfl := Option.some.inj q391
        exact ⟨false, (.c rfl (.c rfl (.c rfl (.c rfl .n)))), rfl, rfl⟩
    ·
      rintro x389 _ ⟨hy, rfl⟩
      replace hy := hy.symm
      subst hy
      apply go
      refine sel_of (fun hc => ?_) (fun hc => ?_)
      ·
        have q388 := cond_t q388 hc
        apply go
        cases q388
      ·
        have q388 := cond_f q388 hc
        apply go
        obtain rfl := Option.some.inj q388
        exact ⟨(), (.c rfl (.c rfl (.c rfl .n))), rfl, rfl⟩
  ·
    rintro ⟨⟩ _ ⟨hy, rfl⟩
    replace hy := hy.symm
    subst hy
    apply go
    apply go
    refine ev0 (rn_conv rfl rfl U45 Tryz.underlying49) ?_
    refine ⟨by decide, ?_⟩
    refine ev0 (rn_conv rfl rfl U45 Tryz.underlying49) ?_
    apply go
    refine W.quiet (fun w' => Ch [] w0 w') MX (by kernel_rfl) (Ch.drew [] w0) ?_
    refine evq0 (rn_conv rfl rfl U45 Tryz.underlying49) ?_
    obtain ⟨q392, _, h⟩ := need_some h
    refine ⟨q392, ?_⟩
    refine evq0 (rn_conv rfl rfl U49 Tryz.underlying45) ?_
    refine evq0 (rn_conv rfl rfl U45 Tryz.underlying49) ?_
    obtain ⟨q393, _, h⟩ := need_some h
    refine ⟨q393, ?_⟩
    refine evq0 (rn_conv rfl rfl U49 Tryz.underlying45) ?_
    intro w394 hc
    have hs := hp.stp hc
    replace hp := hp.ext hc
    apply go
    obtain rfl := Option.some.inj h
    exact ⟨rfl, hp.ch⟩

end Go.Proofs.YthhghkcopfnbiaaGreatDoor

namespace Go.Proofs.YthhghkcopfnbiaaGreatDoor
open Go Go.Proofs.YthhghkcopfnbiaaGreatDoor.Gw Go.RowKit
set_option linter.unusedVariables false
attribute [local irreducible] Ev EvQ EvS EvH
def integer_short_S (f : (List Int) → Int → Option ((List Int) × Int)) : Prop := ∀ (w0 : World) (I0 : Nat → Prop) (x395 : (List Int)) (v396 : Value) (r397 : RepS (dI .u32) w0 I0 v396 x395) (x398 : Int) (hI : ∀ g, I0 g → g < w0.heap.size) (r : ((List Int) × Int)), f x395 x398 = some r →
    Ret Tryz.prog 57 #[v396, (.int .u32 x398)] w0 fun v w1 => ∃ (I1 : Nat → Prop) (u399 : Value), v = (.tuple #[u399, (.int .u32 r.2)]) ∧ Hp ⟨w0, I0, []⟩ I1 [] w1 ∧ RepS (dI .u32) w1 I1 u399 r.1
theorem integer_short_ok (n : Nat) : integer_short_S (integer_short n) := by
  intro w0 I0 x395 v396 r397 x398 hI r h
  unfold integer_short at h
  refine enter Tryz.func57 rfl (Nat.le_of_ble_eq_true rfl) ?_
  have hp : Hp ⟨w0, I0, []⟩ I0 [] w0 := Hp.start hI
  apply go
  apply go
  apply go
  apply go
  refine ev0 (rn_len rfl rfl Tryz.underlying22 r397) ?_
  obtain ⟨x400, q401, h⟩ := bind_some h
  refine ev_make (d := (dI .u32)) (x0 := 0) hp rfl rfl rfl Tryz.underlying22 T45 (fun _ _ => rfl) (Nat.le_of_ble_eq_true rfl) q401 ?_
  intro v402 e403 w404 hp hs o405
  replace r397 := r397.step hs
  apply go
  apply go
  obtain ⟨y498, q499, h⟩ := bind_some h
  refine W.cut (γ := ((List Int) × Int × Ent)) (fun g => [(6, v402), (7, (.int .u32 (g.2.1)))]) (fun g w' => y498 = ((g.1), (g.2.1)) ∧ Hp ⟨w0, I0, []⟩ I0 [(g.2.2)] w' ∧ OwnS (dI .u32) 45 w' I0 v402 (g.2.2) (g.1)) ?_ ?_
  ·
    apply go
    apply go
    refine ev0 (rn_len rfl rfl Tryz.underlying22 r397) ?_
    apply go
    refine W.loop q499 (γ := Ent) (fun s g => [(0, v396), (1, (.int .u32 x398)), (6, v402), (7, (.int .u32 (s.2.1))), (8, (.int .i64 (s.2.2)))]) (fun s g w' => Hp ⟨w0, I0, []⟩ I0 [(g)] w' ∧ RepS (dI .u32) w' I0 v396 x395 ∧ OwnS (dI .u32) 45 w' I0 v402 (g) (s.1)) e403 (.c rfl (.c rfl (.c rfl (.c rfl (.c rfl .n))))) ⟨hp, r397, o405⟩ ?_
    rintro ⟨x523, x527, x528⟩ e525 w558 y559 ⟨hp, r397, o526⟩ q560 q561
    unfold integer_short_L1 at q560
    apply go
    apply go
    apply go
    apply go
    refine sel_of (fun hc => ?_) (fun hc => ?_)
    ·
      have q560 := cond_t q560 hc
      apply go
      apply go
      apply go
      apply go
      obtain ⟨x562, q563, q560⟩ := bind_some q560
      refine ev_index rfl rfl rfl Tryz.underlying22 T45 r397 q563 ?_
      intro p564 c565 d566 a567
      obtain rfl : c565 = [(.int .u32 x562)] := d566
      refine ev (rn_load rfl rfl (run_loadVar1 T45 (a567.2 0 _ rfl))) ?_
      obtain ⟨⟨x568, x569⟩, q570, q560⟩ := bind_some q560
      refine ev_call rfl rfl C73 (((bits_Div32_ok n) _ _  x527 x562 x398 hp.imm _ q570).mono ?_)
      rintro _ w571 ⟨rfl, hc⟩
      have hs := hp.stp hc
      replace hp := hp.ext hc
      replace r397 := r397.step hs
      replace o526 := o526.step hs
      obtain ⟨x572, q573, q560⟩ := bind_some q560
      refine ev_indexO rfl rfl rfl Tryz.underlying22 T45 o526 q573 ?_
      intro g574 c575 h578 d576 l577
      refine ev_storeE hp (i := 0) rfl h578 rfl rfl rfl T45 o526 q573 (x0 := x568) rfl ?_
      intro e581 w580 hp hs o582
      replace r397 := r397.step hs
      apply go
      exact ⟨_, (Option.some.inj q560).symm, e581, (.c rfl (.c rfl (.c rfl (.c rfl (.c rfl .n))))), ⟨hp, r397, o582⟩⟩
    ·
      have q560 := cond_f q560 hc
      apply go
      have q585 := congrArg some (q561 _ (Option.some.inj q560).symm)
      obtain rfl := Option.some.inj q585
      exact ⟨(x523, x527, e525), (.c rfl (.c rfl .n)), rfl, hp, o526⟩
  ·
    rintro ⟨x492, x496, e494⟩ w497 ⟨hy, hp, o495⟩
    replace hy := hy.symm
    subst hy
    apply go
    apply go
    apply go
    obtain rfl := Option.some.inj h
    have r586 := o495.frz hp (i := 0) rfl
    obtain ⟨hp, hs⟩ := freeze_hp hp (i := 0) rfl
    have hp := hp.sel [] (by decide)
    exact ⟨(Ad I0 e494), v402, rfl, hp, r586⟩

end Go.Proofs.YthhghkcopfnbiaaGreatDoor

namespace Go.Proofs.YthhghkcopfnbiaaGreatDoor
open Go Go.Proofs.YthhghkcopfnbiaaGreatDoor.Gw Go.RowKit
set_option linter.unusedVariables false
attribute [local irreducible] Ev EvQ EvS EvH
def bits_LeadingZeros32_S (f : Int → Option Int) : Prop := ∀ (w0 : World) (I0 : Nat → Prop) (x598 : Int) (hI : ∀ g, I0 g → g < w0.heap.size) (r : Int), f x598 = some r →
    Ret Tryz.prog 69 #[(.int .u32 x598)] w0 fun v w1 => v = (.int .i64 r) ∧ Ch [] w0 w1
theorem bits_LeadingZeros32_ok (n : Nat) : bits_LeadingZeros32_S (bits_LeadingZeros32 n) := by
  intro w0 I0 x598 hI r h
  unfold bits_LeadingZeros32 at h
  refine enter Tryz.func69 rfl (Nat.le_of_ble_eq_true rfl) ?_
  have hp : Hp ⟨w0, I0, []⟩ I0 [] w0 := Hp.start hI
  apply go
  apply go
  apply go
  apply go
  obtain ⟨x599, q600, h⟩ := bind_some h
  refine ev_call rfl rfl C50 (((bits_Len32_ok n) _ _  x598 hp.imm _ q600).mono ?_)
  rintro _ w601 ⟨rfl, hc⟩
  have hs := hp.stp hc
  replace hp := hp.ext hc
  apply go
  obtain rfl := Option.some.inj h
  exact ⟨rfl, hp.ch⟩

end Go.Proofs.YthhghkcopfnbiaaGreatDoor

namespace Go.Proofs.YthhghkcopfnbiaaGreatDoor
open Go Go.Proofs.YthhghkcopfnbiaaGreatDoor.Gw Go.RowKit
set_option linter.unusedVariables false
attribute [local irreducible] Ev EvQ EvS EvH
def integer_shifted_S (f : (List Int) → Int → Option (List Int)) : Prop := ∀ (w0 : World) (I0 : Nat → Prop) (x602 : (List Int)) (v603 : Value) (r604 : RepS (dI .u32) w0 I0 v603 x602) (x605 : Int) (hI : ∀ g, I0 g → g < w0.heap.size) (r : (List Int)), f x602 x605 = some r →
    Ret Tryz.prog 70 #[v603, (.int .u64 x605)] w0 fun v w1 => ∃ (I1 : Nat → Prop) (u606 : Value) (u607 : Ent), v = u606 ∧ Hp ⟨w0, I0, []⟩ I1 [u607] w1 ∧ OwnS (dI .u32) 45 w1 I1 u606 u607 r
theorem integer_shifted_ok (n : Nat) : integer_shifted_S (integer_shifted n) := by
  intro w0 I0 x602 v603 r604 x605 hI r h
  unfold integer_shifted at h
  refine enter Tryz.func70 rfl (Nat.le_of_ble_eq_true rfl) ?_
  have hp : Hp ⟨w0, I0, []⟩ I0 [] w0 := Hp.start hI
  apply go
  apply go
  apply go
  apply go
  refine ev0 (rn_len rfl rfl Tryz.underlying22 r604) ?_
  obtain ⟨x608, q609, h⟩ := bind_some h
  refine ev_make (d := (dI .u32)) (x0 := 0) hp rfl rfl rfl Tryz.underlying22 T45 (fun _ _ => rfl) (Nat.le_of_ble_eq_true rfl) q609 ?_
  intro v610 e611 w612 hp hs o613
  replace r604 := r604.step hs
  obtain ⟨y757, q758, h⟩ := bind_some h
  refine W.cut (γ := ((List Int) × Ent)) (fun g => [(5, v610)]) (fun g w' => y757 = (g.1) ∧ Hp ⟨w0, I0, []⟩ I0 [(g.2)] w' ∧ OwnS (dI .u32) 45 w' I0 v610 (g.2) (g.1)) ?_ ?_
  ·
    apply go
    apply go
    refine ev0 (rn_len rfl rfl Tryz.underlying22 r604) ?_
    apply go
    refine W.loop q758 (γ := Ent) (fun s g => [(1, (.int .u64 x605)), (5, v610), (13, v603), (14, (.int .i64 (x602.length : Int))), (15, (.int .i64 (s.2)))]) (fun s g w' => Hp ⟨w0, I0, []⟩ I0 [(g)] w' ∧ OwnS (dI .u32) 45 w' I0 v610 (g) (s.1) ∧ RepS (dI .u32) w' I0 v603 x602) e611 (.c rfl (.c rfl (.c rfl (.c rfl (.c rfl .n))))) ⟨hp, o613, r604⟩ ?_
    rintro ⟨x800, x804⟩ e802 w851 y852 ⟨hp, o803, r604⟩ q853 q854
    unfold integer_shifted_L1 at q853
    apply go
    apply go
    apply go
    apply go
    refine sel_of (fun hc => ?_) (fun hc => ?_)
    ·
      have q853 := cond_t q853 hc
      apply go
      apply go
      apply go
      apply go
      apply go
      obtain ⟨x855, q856, q853⟩ := bind_some q853
      refine ev_index rfl rfl rfl Tryz.underlying22 T45 r604 q856 ?_
      intro p857 c858 d859 a860
      obtain rfl : c858 = [(.int .u32 x855)] := d859
      refine ev (rn_load rfl rfl (run_loadVar1 T45 (a860.2 0 _ rfl))) ?_
      apply go
      apply go
      refine ev0 (rn_conv rfl rfl U45 Tryz.underlying49) ?_
      obtain ⟨q861, _, q853⟩ := need_some q853
      refine ⟨q861, ?_⟩
      apply go
      apply go
      obtain ⟨x862, q863, q853⟩ := bind_some q853
      refine ev_indexO rfl rfl rfl Tryz.underlying22 T45 o803 q863 ?_
      intro g864 c865 h868 d866 l867
      refine ev (rn_load rfl rfl (run_loadVar1 T45 (hp.cellE (i := 0) rfl h868 d866 (j := 0) rfl))) ?_
      refine ev0 (rn_conv rfl rfl U49 Tryz.underlying45) ?_
      obtain ⟨x870, q871, q853⟩ := bind_some q853
      refine ev_indexO rfl rfl rfl Tryz.underlying22 T45 o803 q871 ?_
      intro g872 c873 h876 d874 l875
      refine ev_storeE hp (i := 0) rfl h876 rfl rfl rfl T45 o803 q871 (x0 := (ib .or .u32 x862 (IntKind.u32.wrap (IntKind.u64.wrap ((IntKind.u64.wrap x855) * 2 ^ min x605.toNat (IntKind.u64).bits))))) rfl ?_
      intro e879 w878 hp hs o880
      replace r604 := r604.step hs
      apply go
      refine ⟨by decide, ?_⟩
      refine ev0 (rn_conv rfl rfl U49 Tryz.underlying45) ?_
      obtain ⟨x883, q884, q853⟩ := bind_some q853
      refine ev_indexO rfl rfl rfl Tryz.underlying22 T45 o880 q884 ?_
      intro g885 c886 h889 d887 l888
      refine ev_storeE hp (i := 0) rfl h889 rfl rfl rfl T45 o880 q884 (x0 := (IntKind.u32.wrap ((IntKind.u64.wrap ((IntKind.u64.wrap x855) * 2 ^ min x605.toNat (IntKind.u64).bits)).fdiv (2 ^ min (32 : Int).toNat (IntKind.u64).bits)))) rfl ?_
      intro e892 w891 hp hs o893
      replace r604 := r604.step hs
      apply go
      exact ⟨_, (Option.some.inj q853).symm, e892, (.c rfl (.c rfl (.c rfl (.c rfl (.c rfl .n))))), ⟨hp, o893, r604⟩⟩
    ·
      have q853 := cond_f q853 hc
      apply go
      have q896 := congrArg some (q854 _ (Option.some.inj q853).symm)
      obtain rfl := Option.some.inj q896
      exact ⟨(x800, e802), (.c rfl .n), rfl, hp, o803⟩
  ·
    rintro ⟨x752, e754⟩ w756 ⟨hy, hp, o755⟩
    replace hy := hy.symm
    subst hy
    apply go
    apply go
    apply go
    obtain rfl := Option.some.inj h
    exact ⟨I0, v610, e754, rfl, hp, o755⟩

end Go.Proofs.YthhghkcopfnbiaaGreatDoor

namespace Go.Proofs.YthhghkcopfnbiaaGreatDoor
open Go Go.Proofs.YthhghkcopfnbiaaGreatDoor.Gw Go.RowKit
set_option linter.unusedVariables false
attribute [local irreducible] Ev EvQ EvS EvH
def integer_divide_S (f : (List Int) → (List Int) → Option ((List Int) × (List Int))) : Prop := ∀ (w0 : World) (I0 : Nat → Prop) (x903 : (List Int)) (v904 : Value) (r905 : RepS (dI .u32) w0 I0 v904 x903) (x906 : (List Int)) (v907 : Value) (r908 : RepS (dI .u32) w0 I0 v907 x906) (hI : ∀ g, I0 g → g < w0.heap.size) (r : ((List Int) × (List Int))), f x903 x906 = some r →
    Ret Tryz.prog 55 #[v904, v907] w0 fun v w1 => ∃ (I1 : Nat → Prop) (u909 : Value) (u910 : Value), v = (.tuple #[u909, u910]) ∧ Hp ⟨w0, I0, []⟩ I1 [] w1 ∧ RepS (dI .u32) w1 I1 u909 r.1 ∧ RepS (dI .u32) w1 I1 u910 r.2
theorem integer_divide_ok (n : Nat) : integer_divide_S (integer_divide n) := by
  intro w0 I0 x903 v904 r905 x906 v907 r908 hI r h
  unfold integer_divide at h
  refine enter Tryz.func55 rfl (Nat.le_of_ble_eq_true rfl) ?_
  have hp : Hp ⟨w0, I0, []⟩ I0 [] w0 := Hp.start hI
  apply go
  apply go
  apply go
  apply go
  apply go
  obtain ⟨x911, q912, h⟩ := bind_some h
  refine ev_call rfl rfl C48 (((integer_compare_ok n) _ _  x903 v904 r905 x906 v907 r908 hp.imm _ q912).mono ?_)
  rintro _ w913 ⟨rfl, hc⟩
  have hs := hp.stp hc
  replace hp := hp.ext hc
  replace r905 := r905.step hs
  replace r908 := r908.step hs
  apply go
  refine sel_of (fun hc => ?_) (fun hc => ?_)
  ·
    have h := cond_t h hc
    apply go
    apply go
    obtain ⟨x914, q915, h⟩ := bind_some h
    refine ev_call rfl rfl C56 (((slices_Cloneuint32_uint32__ok n) _ _  x903 v904 r905 hp.imm _ q915).mono ?_)
    rintro _ w916 ⟨I917, v918, hv, hq, r919⟩
    replace hv := hv.symm
    subst hv
    have hs := hq.st
    have hp := hp.join0 hq
    apply go
    obtain rfl := Option.some.inj h
    exact ⟨I917, .slice none 0 0, v918, rfl, hp, RepS.nil _ _ _, r919⟩
  ·
    have h := cond_f h hc
    apply go
    apply go
    apply go
    apply go
    refine ev0 (rn_len rfl rfl Tryz.underlying22 r908) ?_
    apply go
    refine sel_of (fun hc => ?_) (fun hc => ?_)
    ·
      have h := cond_t h hc
      apply go
      apply go
      obtain ⟨x920, q921, h⟩ := bind_some h
      refine ev_index rfl rfl rfl Tryz.underlying22 T45 r908 q921 ?_
      intro p922 c923 d924 a925
      obtain rfl : c923 = [(.int .u32 x920)] := d924
      refine ev (rn_load rfl rfl (run_loadVar1 T45 (a925.2 0 _ rfl))) ?_
      obtain ⟨⟨x926, x927⟩, q928, h⟩ := bind_some h
      refine ev_call rfl rfl C57 (((integer_short_ok n) _ _  x903 v904 r905 x920 hp.imm _ q928).mono ?_)
      rintro _ w929 ⟨I930, v931, hv, hq, r932⟩
      replace hv := hv.symm
      subst hv
      have hs := hq.st
      have hp := hp.join0 hq
      apply go
      apply go
      refine ev_litN (d := (dI .u32)) (xs := [x927]) (cs := [(.int .u32 x927)]) hp rfl rfl Tryz.underlying22 T45 (by decide) rfl rfl (Elems.cons (d := (dI .u32)) (xs := _) rfl (Elems.nil _ _ _ _)) ?_
      intro v933 I935 w934 hp hs r936
      replace r932 := r932.step hs
      apply go
      obtain rfl := Option.some.inj h
      exact ⟨I935, v931, v933, rfl, hp, r932, r936⟩
    ·
      have h := cond_f h hc
      apply go
      apply go
      apply go
      refine ev0 (rn_len rfl rfl Tryz.underlying22 r908) ?_
      obtain ⟨x937, q938, h⟩ := bind_some h
      refine ev_index rfl rfl rfl Tryz.underlying22 T45 r908 q938 ?_
      intro p939 c940 d941 a942
      obtain rfl : c940 = [(.int .u32 x937)] := d941
      refine ev (rn_load rfl rfl (run_loadVar1 T45 (a942.2 0 _ rfl))) ?_
      obtain ⟨x943, q944, h⟩ := bind_some h
      refine ev_call rfl rfl C69 (((bits_LeadingZeros32_ok n) _ _  x937 hp.imm _ q944).mono ?_)
      rintro _ w945 ⟨rfl, hc⟩
      have hs := hp.stp hc
      replace hp := hp.ext hc
      replace r905 := r905.step hs
      replace r908 := r908.step hs
      refine ev0 (rn_conv rfl rfl U3 Tryz.underlying43) ?_
      apply go
      have hs := hp.stp (Ch.drew [] w945)
      have hp := hp.drew
      replace r905 := r905.step hs
      replace r908 := r908.step hs
      refine W.held [(0, true), (1, true), (3, true), (4, true), (6, true), (7, true), (2, false), (5, false), (9, true), (8, false), (10, true)] (Stp I0 w945.drew I0) MX (by kernel_rfl) (Stp.refl _ _) ?_
      have hz := Stp.refl I0 w945.drew
      refine evh0 (rn_len rfl rfl Tryz.underlying22 r908) ?_
      obtain ⟨x965, q966, h⟩ := bind_some h
      refine ev_call rfl rfl C70 (((integer_shifted_ok n) _ _  x903 v904 r905 (IntKind.u64.wrap x943) hp.imm _ q966).mono ?_)
      rintro _ w967 ⟨I968, v969, e970, hv, hq, o971⟩
      replace hv := hv.symm
      subst hv
      have hs := hq.st
      have hp := hp.join0 hq
      replace hz := hz.trans hs
      replace r908 := r908.step hs
      refine ⟨Stp I968 w967 I968, Stp.refl _ _, fun x hx => hz.held hx, ?_⟩
      have hz := Stp.refl I968 w967
      obtain ⟨x972, q973, h⟩ := bind_some h
      refine ev_call rfl rfl C70 (((integer_shifted_ok n) _ _  x906 v907 r908 (IntKind.u64.wrap x943) hp.imm _ q973).mono ?_)
      rintro _ w974 ⟨I975, v976, e977, hv, hq, o978⟩
      replace hv := hv.symm
      subst hv
      have hs := hq.st
      have hp := hp.join0 hq
      replace hz := hz.trans hs
      replace o971 := o971.step hs
      refine ⟨Stp I975 w974 I975, Stp.refl _ _, fun x hx => hz.held hx, ?_⟩
      have hz := Stp.refl I975 w974
      have r979 := o978.frz hp (i := 0) rfl
      obtain ⟨hp, hs⟩ := freeze_hp hp (i := 0) rfl
      replace hz := hz.trans hs
      replace o971 := o971.step hs
      have hp := hp.sel [1] (by decide)
      obtain ⟨x980, q981, h⟩ := bind_some h
      refine ev_slice (kl := .i64) (kh := .i64) rfl rfl rfl rfl Tryz.underlying22 T45 r979 q981 ?_
      intro v982 r983
      refine ⟨Stp (Ad I975 e977) w974 (Ad I975 e977), Stp.refl _ _, fun x hx => hz.held hx, ?_⟩
      have hz := Stp.refl (Ad I975 e977) w974
      apply go
      apply go
      refine ev0 (rn_len rfl rfl Tryz.underlying22 r983) ?_
      apply go
      apply go
      refine ev0 (x_lenO rfl rfl Tryz.underlying22 o971) ?_
      obtain ⟨x984, q985, h⟩ := bind_some h
      refine ev_make (d := (dI .u32)) (x0 := 0) hp rfl rfl rfl Tryz.underlying22 T45 (fun _ _ => rfl) (Nat.le_of_ble_eq_true rfl) q985 ?_
      intro v986 e987 w988 hp hs o989
      replace o971 := o971.step hs
      replace r983 := r983.step hs
      obtain ⟨y7565, q7566, h⟩ := bind_some h
      refine W.cut (γ := ((List Int) × (List Int) × Ent × Ent)) (fun g => [(8, (.int .u64 (IntKind.u64.wrap x943))), (9, v969), (11, (.int .i64 (x980.length : Int))), (12, v986)]) (fun g w' => y7565 = ((g.1), (g.2.1)) ∧ Hp ⟨w0, I0, []⟩ (Ad I975 e977) [(g.2.2.1), (g.2.2.2)] w' ∧ OwnS (dI .u32) 45 w' (Ad I975 e977) v969 (g.2.2.1) (g.1) ∧ OwnS (dI .u32) 45 w' (Ad I975 e977) v986 (g.2.2.2) (g.2.1)) ?_ ?_
      ·
        apply go
        apply go
        refine ev0 (x_lenO rfl rfl Tryz.underlying22 o971) ?_
        apply go
        have hp := hp.perm [1, 0] (by decide)
        refine W.loop q7566 (γ := (Ent × Ent)) (fun s g => [(8, (.int .u64 (IntKind.u64.wrap x943))), (9, v969), (10, v982), (11, (.int .i64 (x980.length : Int))), (12, v986), (13, (.int .i64 (s.2.2)))]) (fun s g w' => Hp ⟨w0, I0, []⟩ (Ad I975 e977) [(g.1), (g.2)] w' ∧ OwnS (dI .u32) 45 w' (Ad I975 e977) v969 (g.1) (s.1) ∧ RepS (dI .u32) w' (Ad I975 e977) v982 x980 ∧ OwnS (dI .u32) 45 w' (Ad I975 e977) v986 (g.2) (s.2.1)) (e970, e987) (.c rfl (.c rfl (.c rfl (.c rfl (.c rfl (.c rfl .n)))))) ⟨hp, o971, r983, o989⟩ ?_
        rintro ⟨x9748, x9752, x9756⟩ ⟨e9750, e9754⟩ w11947 y11948 ⟨hp, o9751, r983, o9755⟩ q11949 q11950
        unfold integer_divide_L81 at q11949
        apply go
        apply go
        apply go
        apply go
        refine sel_of (fun hc => ?_) (fun hc => ?_)
        ·
          have q11949 := cond_t q11949 hc
          apply go
          obtain ⟨y13045, q13046, q11949⟩ := bind_some q11949
          refine W.cut (γ := ((List Int) × (List Int) × Ent × Ent)) (fun g => [(8, (.int .u64 (IntKind.u64.wrap x943))), (9, v969), (10, v982), (11, (.int .i64 (x980.length : Int))), (12, v986), (13, (.int .i64 x9756))]) (fun g w' => y13045 = ((g.1), (g.2.1)) ∧ Hp ⟨w0, I0, []⟩ (Ad I975 e977) [(g.2.2.1), (g.2.2.2)] w' ∧ OwnS (dI .u32) 45 w' (Ad I975 e977) v969 (g.2.2.1) (g.1) ∧ RepS (dI .u32) w' (Ad I975 e977) v982 x980 ∧ OwnS (dI .u32) 45 w' (Ad I975 e977) v986 (g.2.2.2) (g.2.1)) ?_ ?_
          ·
            apply go
            apply go
            refine W.quiet (fun w' => Ch [] w11947 w') MX (by kernel_rfl) (Ch.drew [] w11947) ?_
            obtain ⟨x13047, q13048, q13046⟩ := bind_some q13046
            refine evq_indexO rfl rfl rfl Tryz.underlying22 T45 o9751 q13048 ?_
            intro g13049 c13050 h13053 d13051 l13052
            refine evq (fun w' hw => rn_load rfl rfl (run_loadVar1 T45 ((hp.ext hw).cellE (i := 0) rfl h13053 d13051 (j := 0) rfl))) ?_
            refine evq0 (rn_conv rfl rfl U45 Tryz.underlying49) ?_
            refine ⟨by decide, ?_⟩
            obtain ⟨x13055, q13056, q13046⟩ := bind_some q13046
            refine evq_indexO rfl rfl rfl Tryz.underlying22 T45 o9751 q13056 ?_
            intro g13057 c13058 h13061 d13059 l13060
            refine evq (fun w' hw => rn_load rfl rfl (run_loadVar1 T45 ((hp.ext hw).cellE (i := 0) rfl h13061 d13059 (j := 0) rfl))) ?_
            refine evq0 (rn_conv rfl rfl U45 Tryz.underlying49) ?_
            intro w13063 hc
            have hs := hp.stp hc
            replace hp := hp.ext hc
            replace o9751 := o9751.step hs
            replace r983 := r983.step hs
            replace o9755 := o9755.step hs
            apply go
            refine W.quiet (fun w' => Ch [] w13063 w') MX (by kernel_rfl) (Ch.drew [] w13063) ?_
            obtain ⟨x13064, q13065, q13046⟩ := bind_some q13046
            refine evq_index rfl rfl rfl Tryz.underlying22 T45 r983 q13065 ?_
            intro p13066 c13067 d13068 a13069
            obtain rfl : c13067 = [(.int .u32 x13064)] := d13068
            refine evq (fun w' hw => rn_load rfl rfl (run_loadVar1 T45 ((a13069.step (hp.stp hw)).2 0 _ rfl))) ?_
            refine evq0 (rn_conv rfl rfl U45 Tryz.underlying49) ?_
            obtain ⟨q13070, _, q13046⟩ := need_some q13046
            refine ⟨q13070, ?_⟩
            obtain ⟨x13071, q13072, q13046⟩ := bind_some q13046
            refine evq_index rfl rfl rfl Tryz.underlying22 T45 r983 q13072 ?_
            intro p13073 c13074 d13075 a13076
            obtain rfl : c13074 = [(.int .u32 x13071)] := d13075
            refine evq (fun w' hw => rn_load rfl rfl (run_loadVar1 T45 ((a13076.step (hp.stp hw)).2 0 _ rfl))) ?_
            refine evq0 (rn_conv rfl rfl U45 Tryz.underlying49) ?_
            obtain ⟨q13077, _, q13046⟩ := need_some q13046
            refine ⟨q13077, ?_⟩
            intro w13078 hc
            have hs := hp.stp hc
            replace hp := hp.ext hc
            replace o9751 := o9751.step hs
            replace r983 := r983.step hs
            replace o9755 := o9755.step hs
            obtain ⟨y13217, q13218, q13046⟩ := bind_some q13046
            refine W.cut (γ := Int) (fun g => [(8, (.int .u64 (IntKind.u64.wrap x943))), (9, v969), (10, v982), (11, (.int .i64 (x980.length : Int))), (12, v986), (13, (.int .i64 x9756)), (15, (.int .u64 (g)))]) (fun g w' => y13217 = (g) ∧ Hp ⟨w0, I0, []⟩ (Ad I975 e977) [e9750, e9754] w' ∧ OwnS (dI .u32) 45 w' (Ad I975 e977) v969 e9750 x9748 ∧ RepS (dI .u32) w' (Ad I975 e977) v982 x980 ∧ OwnS (dI .u32) 45 w' (Ad I975 e977) v986 e9754 x9752) ?_ ?_
            ·
              apply go
              refine W.loop q13218 (γ := Unit) (fun s _ => [(8, (.int .u64 (IntKind.u64.wrap x943))), (9, v969), (10, v982), (11, (.int .i64 (x980.length : Int))), (12, v986), (13, (.int .i64 x9756)), (15, (.int .u64 (s.1))), (16, (.int .u64 (s.2)))]) (fun s _ w' => Hp ⟨w0, I0, []⟩ (Ad I975 e977) [e9750, e9754] w' ∧ OwnS (dI .u32) 45 w' (Ad I975 e977) v969 e9750 x9748 ∧ RepS (dI .u32) w' (Ad I975 e977) v982 x980 ∧ OwnS (dI .u32) 45 w' (Ad I975 e977) v986 e9754 x9752) () (.c rfl (.c rfl (.c rfl (.c rfl (.c rfl (.c rfl (.c rfl (.c rfl .n)))))))) ⟨hp, o9751, r983, o9755⟩ ?_
              rintro ⟨x13261, x13262⟩ ⟨⟩ w13307 y13308 ⟨hp, o9751, r983, o9755⟩ q13309 q13310
              unfold integer_divide_L91 at q13309
              apply go
              obtain ⟨y13329, q13330, q13309⟩ := bind_some q13309
              refine W.cut (γ := Bool) (fun g => [(8, (.int .u64 (IntKind.u64.wrap x943))), (9, v969), (10, v982), (11, (.int .i64 (x980.length : Int))), (12, v986), (13, (.int .i64 x9756)), (15, (.int .u64 x13261)), (16, (.int .u64 x13262)), (136, (.bool (g)))]) (fun g w' => y13329 = (g) ∧ Hp ⟨w0, I0, []⟩ (Ad I975 e977) [e9750, e9754] w' ∧ OwnS (dI .u32) 45 w' (Ad I975 e977) v969 e9750 x9748 ∧ RepS (dI .u32) w' (Ad I975 e977) v982 x980 ∧ OwnS (dI .u32) 45 w' (Ad I975 e977) v986 e9754 x9752) ?_ ?_
              ·
                refine W.quiet (fun w' => Ch [] w13307 w') MX (by kernel_rfl) (Ch.drew [] w13307) ?_
                refine sel_of (fun hc => ?_) (fun hc => ?_)
                ·
                  have q13330 := cond_t q13330 hc
                  intro w13331 hc
                  have hs := hp.stp hc
                  replace hp := hp.ext hc
                  replace o9751 := o9751.step hs
                  replace r983 := r983.step hs
                  replace o9755 := o9755.step hs
                  obtain rfl := Option.some.inj q13330
                  exact ⟨true, (.c rfl (.c rfl (.c rfl (.c rfl (.c rfl (.c rfl (.c rfl (.c rfl (.c rfl .n))))))))), rfl, hp, o9751, r983, o9755⟩
                ·
                  have q13330 := cond_f q13330 hc
                  obtain ⟨x13332, q13333, q13330⟩ := bind_some q13330
                  refine evq_index rfl rfl rfl Tryz.underlying22 T45 r983 q13333 ?_
                  intro p13334 c13335 d13336 a13337
                  obtain rfl : c13335 = [(.int .u32 x13332)] := d13336
                  refine evq (fun w' hw => rn_load rfl rfl (run_loadVar1 T45 ((a13337.step (hp.stp hw)).2 0 _ rfl))) ?_
                  refine evq0 (rn_conv rfl rfl U45 Tryz.underlying49) ?_
                  refine ⟨by decide, ?_⟩
                  obtain ⟨x13338, q13339, q13330⟩ := bind_some q13330
                  refine evq_indexO rfl rfl rfl Tryz.underlying22 T45 o9751 q13339 ?_
                  intro g13340 c13341 h13344 d13342 l13343
                  refine evq (fun w' hw => rn_load rfl rfl (run_loadVar1 T45 ((hp.ext hw).cellE (i := 0) rfl h13344 d13342 (j := 0) rfl))) ?_
                  refine evq0 (rn_conv rfl rfl U45 Tryz.underlying49) ?_
                  intro w13346 hc
                  have hs := hp.stp hc
                  replace hp := hp.ext hc
                  replace o9751 := o9751.step hs
                  replace r983 := r983.step hs
                  replace o9755 := o9755.step hs
                  replace a13337 := a13337.step hs
                  obtain rfl := Option.some.inj q13330
                  exact ⟨(decide ((IntKind.u64.wrap (x13261 * (IntKind.u64.wrap x13332))) > (ib .or .u64 (IntKind.u64.wrap (x13262 * 2 ^ min (32 : Int).toNat (IntKind.u64).bits)) (IntKind.u64.wrap x13338)))), (.c rfl (.c rfl (.c rfl (.c rfl (.c rfl (.c rfl (.c rfl (.c rfl (.c rfl .n))))))))), rfl, hp, o9751, r983, o9755⟩
              ·
                rintro x13327 w13328 ⟨hy, hp, o9751, r983, o9755⟩
                replace hy := hy.symm
                subst hy
                apply go
                refine sel_of (fun hc => ?_) (fun hc => ?_)
                ·
                  have q13309 := cond_t q13309 hc
                  apply go
                  apply go
                  apply go
                  apply go
                  apply go
                  apply go
                  obtain ⟨x13347, q13348, q13309⟩ := bind_some q13309
                  refine ev_index rfl rfl rfl Tryz.underlying22 T45 r983 q13348 ?_
                  intro p13349 c13350 d13351 a13352
                  obtain rfl : c13350 = [(.int .u32 x13347)] := d13351
                  refine ev (rn_load rfl rfl (run_loadVar1 T45 (a13352.2 0 _ rfl))) ?_
                  refine ev0 (rn_conv rfl rfl U45 Tryz.underlying49) ?_
                  apply go
                  apply go
                  apply go
                  refine sel_of (fun hc => ?_) (fun hc => ?_)
                  ·
                    have q13309 := cond_t q13309 hc
                    apply go
                    have q13353 := congrArg some (q13310 _ (Option.some.inj q13309).symm)
                    obtain rfl := Option.some.inj q13353
                    exact ⟨(IntKind.u64.wrap (x13261 - 1)), (.c rfl (.c rfl (.c rfl (.c rfl (.c rfl (.c rfl (.c rfl .n))))))), rfl, hp, o9751, r983, o9755⟩
                  ·
                    have q13309 := cond_f q13309 hc
                    apply go
                    exact ⟨_, (Option.some.inj q13309).symm, (), (.c rfl (.c rfl (.c rfl (.c rfl (.c rfl (.c rfl (.c rfl (.c rfl .n)))))))), ⟨hp, o9751, r983, o9755⟩⟩
                ·
                  have q13309 := cond_f q13309 hc
                  apply go
                  have q13354 := congrArg some (q13310 _ (Option.some.inj q13309).symm)
                  obtain rfl := Option.some.inj q13354
                  exact ⟨x13261, (.c rfl (.c rfl (.c rfl (.c rfl (.c rfl (.c rfl (.c rfl .n))))))), rfl, hp, o9751, r983, o9755⟩
            ·
              rintro x13215 w13216 ⟨hy, hp, o9751, r983, o9755⟩
              replace hy := hy.symm
              subst hy
              apply go
              apply go
              apply go
              apply go
              obtain ⟨y13474, q13475, q13046⟩ := bind_some q13046
              refine W.cut (γ := ((List Int) × Int × Int × Ent)) (fun g => [(8, (.int .u64 (IntKind.u64.wrap x943))), (9, v969), (10, v982), (11, (.int .i64 (x980.length : Int))), (12, v986), (13, (.int .i64 x9756)), (15, (.int .u64 x13215)), (17, (.int .u64 (g.2.1))), (18, (.int .u32 (g.2.2.1)))]) (fun g w' => y13474 = ((g.1), (g.2.1), (g.2.2.1)) ∧ Hp ⟨w0, I0, []⟩ (Ad I975 e977) [(g.2.2.2), e9754] w' ∧ OwnS (dI .u32) 45 w' (Ad I975 e977) v969 (g.2.2.2) (g.1) ∧ RepS (dI .u32) w' (Ad I975 e977) v982 x980 ∧ OwnS (dI .u32) 45 w' (Ad I975 e977) v986 e9754 x9752) ?_ ?_
              ·
                apply go
                apply go
                refine ev0 (rn_len rfl rfl Tryz.underlying22 r983) ?_
                apply go
                refine W.loop q13475 (γ := Ent) (fun s g => [(8, (.int .u64 (IntKind.u64.wrap x943))), (9, v969), (10, v982), (11, (.int .i64 (x980.length : Int))), (12, v986), (13, (.int .i64 x9756)), (15, (.int .u64 x13215)), (17, (.int .u64 (s.2.1))), (18, (.int .u32 (s.2.2.1))), (149, v982), (150, (.int .i64 (x980.length : Int))), (151, (.int .i64 (s.2.2.2)))]) (fun s g w' => Hp ⟨w0, I0, []⟩ (Ad I975 e977) [(g), e9754] w' ∧ OwnS (dI .u32) 45 w' (Ad I975 e977) v969 (g) (s.1) ∧ RepS (dI .u32) w' (Ad I975 e977) v982 x980 ∧ OwnS (dI .u32) 45 w' (Ad I975 e977) v986 e9754 x9752) e9750 (.c rfl (.c rfl (.c rfl (.c rfl (.c rfl (.c rfl (.c rfl (.c rfl (.c rfl (.c rfl (.c rfl (.c rfl .n)))))))))))) ⟨hp, o9751, r983, o9755⟩ ?_
                rintro ⟨x13507, x13511, x13512, x13513⟩ e13509 w13552 y13553 ⟨hp, o13510, r983, o9755⟩ q13554 q13555
                unfold integer_divide_L93 at q13554
                apply go
                apply go
                apply go
                apply go
                refine sel_of (fun hc => ?_) (fun hc => ?_)
                ·
                  have q13554 := cond_t q13554 hc
                  apply go
                  apply go
                  apply go
                  apply go
                  apply go
                  obtain ⟨x13556, q13557, q13554⟩ := bind_some q13554
                  refine ev_index rfl rfl rfl Tryz.underlying22 T45 r983 q13557 ?_
                  intro p13558 c13559 d13560 a13561
                  obtain rfl : c13559 = [(.int .u32 x13556)] := d13560
                  refine ev (rn_load rfl rfl (run_loadVar1 T45 (a13561.2 0 _ rfl))) ?_
                  apply go
                  apply go
                  refine ev0 (rn_conv rfl rfl U45 Tryz.underlying49) ?_
                  apply go
                  apply go
                  refine ⟨by decide, ?_⟩
                  apply go
                  obtain ⟨x13562, q13563, q13554⟩ := bind_some q13554
                  refine ev_indexO rfl rfl rfl Tryz.underlying22 T45 o13510 q13563 ?_
                  intro g13564 c13565 h13568 d13566 l13567
                  refine ev (rn_load rfl rfl (run_loadVar1 T45 (hp.cellE (i := 0) rfl h13568 d13566 (j := 0) rfl))) ?_
                  refine ev0 (rn_conv rfl rfl U49 Tryz.underlying45) ?_
                  obtain ⟨⟨x13570, x13571⟩, q13572, q13554⟩ := bind_some q13554
                  refine ev_call rfl rfl C71 (((bits_Sub32_ok n) _ _  x13562 (IntKind.u32.wrap (IntKind.u64.wrap ((IntKind.u64.wrap (x13215 * (IntKind.u64.wrap x13556))) + x13511))) x13512 hp.imm _ q13572).mono ?_)
                  rintro _ w13573 ⟨rfl, hc⟩
                  have hs := hp.stp hc
                  replace hp := hp.ext hc
                  replace o13510 := o13510.step hs
                  replace r983 := r983.step hs
                  replace o9755 := o9755.step hs
                  obtain ⟨x13574, q13575, q13554⟩ := bind_some q13554
                  refine ev_indexO rfl rfl rfl Tryz.underlying22 T45 o13510 q13575 ?_
                  intro g13576 c13577 h13580 d13578 l13579
                  refine ev_storeE hp (i := 0) rfl h13580 rfl rfl rfl T45 o13510 q13575 (x0 := x13570) rfl ?_
                  intro e13583 w13582 hp hs o13584
                  replace r983 := r983.step hs
                  replace o9755 := o9755.step hs
                  apply go
                  exact ⟨_, (Option.some.inj q13554).symm, e13583, (.c rfl (.c rfl (.c rfl (.c rfl (.c rfl (.c rfl (.c rfl (.c rfl (.c rfl (.c rfl (.c rfl (.c rfl .n)))))))))))), ⟨hp, o13584, r983, o9755⟩⟩
                ·
                  have q13554 := cond_f q13554 hc
                  apply go
                  have q13587 := congrArg some (q13555 _ (Option.some.inj q13554).symm)
                  obtain rfl := Option.some.inj q13587
                  exact ⟨(x13507, x13511, x13512, e13509), (.c rfl (.c rfl (.c rfl (.c rfl (.c rfl (.c rfl (.c rfl (.c rfl (.c rfl .n))))))))), rfl, hp, o13510, r983, o9755⟩
              ·
                rintro ⟨x13467, x13471, x13472, e13469⟩ w13473 ⟨hy, hp, o13470, r983, o9755⟩
                replace hy := hy.symm
                subst hy
                apply go
                apply go
                obtain ⟨x13588, q13589, q13046⟩ := bind_some q13046
                refine ev_indexO rfl rfl rfl Tryz.underlying22 T45 o13470 q13589 ?_
                intro g13590 c13591 h13594 d13592 l13593
                refine ev (rn_load rfl rfl (run_loadVar1 T45 (hp.cellE (i := 0) rfl h13594 d13592 (j := 0) rfl))) ?_
                refine ev0 (rn_conv rfl rfl U49 Tryz.underlying45) ?_
                obtain ⟨⟨x13596, x13597⟩, q13598, q13046⟩ := bind_some q13046
                refine ev_call rfl rfl C71 (((bits_Sub32_ok n) _ _  x13588 (IntKind.u32.wrap x13471) x13472 hp.imm _ q13598).mono ?_)
                rintro _ w13599 ⟨rfl, hc⟩
                have hs := hp.stp hc
                replace hp := hp.ext hc
                replace o13470 := o13470.step hs
                replace r983 := r983.step hs
                replace o9755 := o9755.step hs
                obtain ⟨x13600, q13601, q13046⟩ := bind_some q13046
                refine ev_indexO rfl rfl rfl Tryz.underlying22 T45 o13470 q13601 ?_
                intro g13602 c13603 h13606 d13604 l13605
                refine ev_storeE hp (i := 0) rfl h13606 rfl rfl rfl T45 o13470 q13601 (x0 := x13596) rfl ?_
                intro e13609 w13608 hp hs o13610
                replace r983 := r983.step hs
                replace o9755 := o9755.step hs
                obtain ⟨y13868, q13869, q13046⟩ := bind_some q13046
                refine W.cut (γ := ((List Int) × Int × Ent)) (fun g => [(8, (.int .u64 (IntKind.u64.wrap x943))), (9, v969), (10, v982), (11, (.int .i64 (x980.length : Int))), (12, v986), (13, (.int .i64 x9756)), (15, (.int .u64 (g.2.1)))]) (fun g w' => y13868 = ((g.1), (g.2.1)) ∧ Hp ⟨w0, I0, []⟩ (Ad I975 e977) [(g.2.2), e9754] w' ∧ OwnS (dI .u32) 45 w' (Ad I975 e977) v969 (g.2.2) (g.1) ∧ RepS (dI .u32) w' (Ad I975 e977) v982 x980 ∧ OwnS (dI .u32) 45 w' (Ad I975 e977) v986 e9754 x9752) ?_ ?_
                ·
                  apply go
                  apply go
                  apply go
                  refine sel_of (fun hc => ?_) (fun hc => ?_)
                  ·
                    have q13869 := cond_t q13869 hc
                    apply go
                    apply go
                    apply go
                    apply go
                    obtain ⟨y13986, q13987, q13869⟩ := bind_some q13869
                    refine W.cut (γ := ((List Int) × Int × Ent)) (fun g => [(8, (.int .u64 (IntKind.u64.wrap x943))), (9, v969), (10, v982), (11, (.int .i64 (x980.length : Int))), (12, v986), (13, (.int .i64 x9756)), (15, (.int .u64 (IntKind.u64.wrap (x13215 - 1)))), (22, (.int .u32 (g.2.1)))]) (fun g w' => y13986 = ((g.1), (g.2.1)) ∧ Hp ⟨w0, I0, []⟩ (Ad I975 e977) [(g.2.2), e9754] w' ∧ OwnS (dI .u32) 45 w' (Ad I975 e977) v969 (g.2.2) (g.1) ∧ RepS (dI .u32) w' (Ad I975 e977) v982 x980 ∧ OwnS (dI .u32) 45 w' (Ad I975 e977) v986 e9754 x9752) ?_ ?_
                    ·
                      apply go
                      apply go
                      refine ev0 (rn_len rfl rfl Tryz.underlying22 r983) ?_
                      apply go
                      refine W.loop q13987 (γ := Ent) (fun s g => [(8, (.int .u64 (IntKind.u64.wrap x943))), (9, v969), (10, v982), (11, (.int .i64 (x980.length : Int))), (12, v986), (13, (.int .i64 x9756)), (15, (.int .u64 (IntKind.u64.wrap (x13215 - 1)))), (22, (.int .u32 (s.2.1))), (205, v982), (206, (.int .i64 (x980.length : Int))), (207, (.int .i64 (s.2.2)))]) (fun s g w' => Hp ⟨w0, I0, []⟩ (Ad I975 e977) [(g), e9754] w' ∧ OwnS (dI .u32) 45 w' (Ad I975 e977) v969 (g) (s.1) ∧ RepS (dI .u32) w' (Ad I975 e977) v982 x980 ∧ OwnS (dI .u32) 45 w' (Ad I975 e977) v986 e9754 x9752) e13609 (.c rfl (.c rfl (.c rfl (.c rfl (.c rfl (.c rfl (.c rfl (.c rfl (.c rfl (.c rfl (.c rfl .n))))))))))) ⟨hp, o13610, r983, o9755⟩ ?_
                      rintro ⟨x14019, x14023, x14024⟩ e14021 w14062 y14063 ⟨hp, o14022, r983, o9755⟩ q14064 q14065
                      unfold integer_divide_L97 at q14064
                      apply go
                      apply go
                      apply go
                      apply go
                      refine sel_of (fun hc => ?_) (fun hc => ?_)
                      ·
                        have q14064 := cond_t q14064 hc
                        apply go
                        apply go
                        apply go
                        apply go
                        apply go
                        obtain ⟨x14066, q14067, q14064⟩ := bind_some q14064
                        refine ev_index rfl rfl rfl Tryz.underlying22 T45 r983 q14067 ?_
                        intro p14068 c14069 d14070 a14071
                        obtain rfl : c14069 = [(.int .u32 x14066)] := d14070
                        refine ev (rn_load rfl rfl (run_loadVar1 T45 (a14071.2 0 _ rfl))) ?_
                        apply go
                        obtain ⟨x14072, q14073, q14064⟩ := bind_some q14064
                        refine ev_indexO rfl rfl rfl Tryz.underlying22 T45 o14022 q14073 ?_
                        intro g14074 c14075 h14078 d14076 l14077
                        refine ev (rn_load rfl rfl (run_loadVar1 T45 (hp.cellE (i := 0) rfl h14078 d14076 (j := 0) rfl))) ?_
                        obtain ⟨⟨x14080, x14081⟩, q14082, q14064⟩ := bind_some q14064
                        refine ev_call rfl rfl C72 (((bits_Add32_ok n) _ _  x14072 x14066 x14023 hp.imm _ q14082).mono ?_)
                        rintro _ w14083 ⟨rfl, hc⟩
                        have hs := hp.stp hc
                        replace hp := hp.ext hc
                        replace o14022 := o14022.step hs
                        replace r983 := r983.step hs
                        replace o9755 := o9755.step hs
                        obtain ⟨x14084, q14085, q14064⟩ := bind_some q14064
                        refine ev_indexO rfl rfl rfl Tryz.underlying22 T45 o14022 q14085 ?_
                        intro g14086 c14087 h14090 d14088 l14089
                        refine ev_storeE hp (i := 0) rfl h14090 rfl rfl rfl T45 o14022 q14085 (x0 := x14080) rfl ?_
                        intro e14093 w14092 hp hs o14094
                        replace r983 := r983.step hs
                        replace o9755 := o9755.step hs
                        apply go
                        exact ⟨_, (Option.some.inj q14064).symm, e14093, (.c rfl (.c rfl (.c rfl (.c rfl (.c rfl (.c rfl (.c rfl (.c rfl (.c rfl (.c rfl (.c rfl .n))))))))))), ⟨hp, o14094, r983, o9755⟩⟩
                      ·
                        have q14064 := cond_f q14064 hc
                        apply go
                        have q14097 := congrArg some (q14065 _ (Option.some.inj q14064).symm)
                        obtain rfl := Option.some.inj q14097
                        exact ⟨(x14019, x14023, e14021), (.c rfl (.c rfl (.c rfl (.c rfl (.c rfl (.c rfl (.c rfl (.c rfl .n)))))))), rfl, hp, o14022, r983, o9755⟩
                    ·
                      rintro ⟨x13980, x13984, e13982⟩ w13985 ⟨hy, hp, o13983, r983, o9755⟩
                      replace hy := hy.symm
                      subst hy
                      apply go
                      obtain ⟨x14098, q14099, q13869⟩ := bind_some q13869
                      refine ev_indexO rfl rfl rfl Tryz.underlying22 T45 o13983 q14099 ?_
                      intro g14100 c14101 h14104 d14102 l14103
                      refine ev (rn_load rfl rfl (run_loadVar1 T45 (hp.cellE (i := 0) rfl h14104 d14102 (j := 0) rfl))) ?_
                      obtain ⟨x14106, q14107, q13869⟩ := bind_some q13869
                      refine ev_indexO rfl rfl rfl Tryz.underlying22 T45 o13983 q14107 ?_
                      intro g14108 c14109 h14112 d14110 l14111
                      refine ev_storeE hp (i := 0) rfl h14112 rfl rfl rfl T45 o13983 q14107 (x0 := (IntKind.u32.wrap (x14098 + x13984))) rfl ?_
                      intro e14115 w14114 hp hs o14116
                      replace r983 := r983.step hs
                      replace o9755 := o9755.step hs
                      obtain rfl := Option.some.inj q13869
                      exact ⟨((upd x13980 (IntKind.i64.wrap (x9756 + (x980.length : Int))) (IntKind.u32.wrap (x14098 + x13984))), (IntKind.u64.wrap (x13215 - 1)), e14115), (.c rfl (.c rfl (.c rfl (.c rfl (.c rfl (.c rfl (.c rfl .n))))))), rfl, hp, o14116, r983, o9755⟩
                  ·
                    have q13869 := cond_f q13869 hc
                    apply go
                    obtain rfl := Option.some.inj q13869
                    exact ⟨((upd x13467 (IntKind.i64.wrap (x9756 + (x980.length : Int))) x13596), x13215, e13609), (.c rfl (.c rfl (.c rfl (.c rfl (.c rfl (.c rfl (.c rfl .n))))))), rfl, hp, o13610, r983, o9755⟩
                ·
                  rintro ⟨x13862, x13866, e13864⟩ w13867 ⟨hy, hp, o13865, r983, o9755⟩
                  replace hy := hy.symm
                  subst hy
                  apply go
                  refine ev0 (rn_conv rfl rfl U49 Tryz.underlying45) ?_
                  obtain ⟨x14119, q14120, q13046⟩ := bind_some q13046
                  refine ev_indexO rfl rfl rfl Tryz.underlying22 T45 o9755 q14120 ?_
                  intro g14121 c14122 h14125 d14123 l14124
                  refine ev_storeE hp (i := 1) rfl h14125 rfl rfl rfl T45 o9755 q14120 (x0 := (IntKind.u32.wrap x13866)) rfl ?_
                  intro e14128 w14127 hp hs o14129
                  replace o13865 := o13865.step hs
                  replace r983 := r983.step hs
                  obtain rfl := Option.some.inj q13046
                  exact ⟨(x13862, (upd x9752 x9756 (IntKind.u32.wrap x13866)), e13864, e14128), (.c rfl (.c rfl (.c rfl (.c rfl (.c rfl (.c rfl .n)))))), rfl, hp, o13865, r983, o14129⟩
          ·
            rintro ⟨x13036, x13040, e13038, e13042⟩ w13044 ⟨hy, hp, o13039, r983, o13043⟩
            replace hy := hy.symm
            subst hy
            apply go
            exact ⟨_, (Option.some.inj q11949).symm, (e13038, e13042), (.c rfl (.c rfl (.c rfl (.c rfl (.c rfl (.c rfl .n)))))), ⟨hp, o13039, r983, o13043⟩⟩
        ·
          have q11949 := cond_f q11949 hc
          apply go
          have q14132 := congrArg some (q11950 _ (Option.some.inj q11949).symm)
          obtain rfl := Option.some.inj q14132
          exact ⟨(x9748, x9752, e9750, e9754), (.c rfl (.c rfl (.c rfl (.c rfl .n)))), rfl, hp, o9751, o9755⟩
      ·
        rintro ⟨x7556, x7560, e7558, e7562⟩ w7564 ⟨hy, hp, o7559, o7563⟩
        replace hy := hy.symm
        subst hy
        apply go
        apply go
        obtain ⟨x14133, q14134, h⟩ := bind_some h
        refine ev_make (d := (dI .u32)) (x0 := 0) hp rfl rfl rfl Tryz.underlying22 T45 (fun _ _ => rfl) (Nat.le_of_ble_eq_true rfl) q14134 ?_
        intro v14135 e14136 w14137 hp hs o14138
        replace o7559 := o7559.step hs
        replace o7563 := o7563.step hs
        obtain ⟨y14252, q14253, h⟩ := bind_some h
        refine W.cut (γ := ((List Int) × Ent)) (fun g => [(12, v986), (25, v14135)]) (fun g w' => y14252 = (g.1) ∧ Hp ⟨w0, I0, []⟩ (Ad I975 e977) [e7562, (g.2)] w' ∧ OwnS (dI .u32) 45 w' (Ad I975 e977) v986 e7562 x7560 ∧ OwnS (dI .u32) 45 w' (Ad I975 e977) v14135 (g.2) (g.1)) ?_ ?_
        ·
          apply go
          apply go
          refine ev0 (x_lenO rfl rfl Tryz.underlying22 o14138) ?_
          apply go
          have hp := hp.perm [1, 2, 0] (by decide)
          refine W.loop q14253 (γ := Ent) (fun s g => [(8, (.int .u64 (IntKind.u64.wrap x943))), (9, v969), (12, v986), (25, v14135), (247, (.int .i64 (x14133.length : Int))), (248, (.int .i64 (s.2)))]) (fun s g w' => Hp ⟨w0, I0, []⟩ (Ad I975 e977) [e7558, e7562, (g)] w' ∧ OwnS (dI .u32) 45 w' (Ad I975 e977) v969 e7558 x7556 ∧ OwnS (dI .u32) 45 w' (Ad I975 e977) v986 e7562 x7560 ∧ OwnS (dI .u32) 45 w' (Ad I975 e977) v14135 (g) (s.1)) e14136 (.c rfl (.c rfl (.c rfl (.c rfl (.c rfl (.c rfl .n)))))) ⟨hp, o7559, o7563, o14138⟩ ?_
          rintro ⟨x14285, x14289⟩ e14287 w14326 y14327 ⟨hp, o7559, o7563, o14288⟩ q14328 q14329
          unfold integer_divide_L99 at q14328
          apply go
          apply go
          apply go
          apply go
          refine sel_of (fun hc => ?_) (fun hc => ?_)
          ·
            have q14328 := cond_t q14328 hc
            apply go
            apply go
            apply go
            apply go
            apply go
            have hs := hp.stp (Ch.drew [] w14326)
            have hp := hp.drew
            replace o7559 := o7559.step hs
            replace o7563 := o7563.step hs
            replace o14288 := o14288.step hs
            refine W.tail 19 MX (by kernel_rfl) ?_
            obtain ⟨x14331, q14332, q14328⟩ := bind_some q14328
            refine evs_indexO rfl rfl rfl Tryz.underlying22 T45 o7559 q14332 ?_
            intro g14333 c14334 h14337 d14335 l14336
            refine evs (rn_load rfl rfl (run_loadVar1 T45 (hp.cellE (i := 0) rfl h14337 d14335 (j := 0) rfl))) ?_
            refine evs0 (rn_conv rfl rfl U45 Tryz.underlying49) ?_
            refine ⟨by decide, ?_⟩
            obtain ⟨x14339, q14340, q14328⟩ := bind_some q14328
            refine evs_indexO rfl rfl rfl Tryz.underlying22 T45 o7559 q14340 ?_
            intro g14341 c14342 h14345 d14343 l14344
            refine evs (rn_load rfl rfl (run_loadVar1 T45 (hp.cellE (i := 0) rfl h14345 d14343 (j := 0) rfl))) ?_
            refine evs0 (rn_conv rfl rfl U45 Tryz.underlying49) ?_
            obtain ⟨q14347, _, q14328⟩ := need_some q14328
            refine ⟨q14347, ?_⟩
            refine evs0 (rn_conv rfl rfl U49 Tryz.underlying45) ?_
            obtain ⟨x14348, q14349, q14328⟩ := bind_some q14328
            refine evs_indexO rfl rfl rfl Tryz.underlying22 T45 o14288 q14349 ?_
            intro g14350 c14351 h14354 d14352 l14353
            refine ev_storeE hp (i := 2) rfl h14354 rfl rfl rfl T45 o14288 q14349 (x0 := (IntKind.u32.wrap ((ib .or .u64 (IntKind.u64.wrap ((IntKind.u64.wrap x14331) * 2 ^ min (32 : Int).toNat (IntKind.u64).bits)) (IntKind.u64.wrap x14339)).fdiv (2 ^ min (IntKind.u64.wrap x943).toNat (IntKind.u64).bits)))) rfl ?_
            intro e14357 w14356 hp hs o14358
            replace o7559 := o7559.step hs
            replace o7563 := o7563.step hs
            apply go
            exact ⟨_, (Option.some.inj q14328).symm, e14357, (.c rfl (.c rfl (.c rfl (.c rfl (.c rfl (.c rfl .n)))))), ⟨hp, o7559, o7563, o14358⟩⟩
          ·
            have q14328 := cond_f q14328 hc
            apply go
            have q14361 := congrArg some (q14329 _ (Option.some.inj q14328).symm)
            obtain rfl := Option.some.inj q14361
            have hp := hp.sel [1, 2] (by decide)
            exact ⟨(x14285, e14287), (.c rfl (.c rfl .n)), rfl, hp, o7563, o14288⟩
        ·
          rintro ⟨x14247, e14249⟩ w14251 ⟨hy, hp, o7563, o14250⟩
          replace hy := hy.symm
          subst hy
          apply go
          apply go
          apply go
          obtain rfl := Option.some.inj h
          have r14362 := o7563.frz hp (i := 0) rfl
          obtain ⟨hp, hs⟩ := freeze_hp hp (i := 0) rfl
          replace o14250 := o14250.step hs
          have hp := hp.sel [1] (by decide)
          have r14363 := o14250.frz hp (i := 0) rfl
          obtain ⟨hp, hs⟩ := freeze_hp hp (i := 0) rfl
          replace r14362 := r14362.step hs
          have hp := hp.sel [] (by decide)
          exact ⟨(Ad (Ad (Ad I975 e977) e7562) e14249), v986, v14135, rfl, hp, r14362, r14363⟩

end Go.Proofs.YthhghkcopfnbiaaGreatDoor

namespace Go.Proofs.YthhghkcopfnbiaaGreatDoor
open Go Go.Proofs.YthhghkcopfnbiaaGreatDoor.Gw Go.RowKit
set_option linter.unusedVariables false
attribute [local irreducible] Ev EvQ EvS EvH
def integer_DivMod_S (f : Int_2 → Int_2 → Option (Int_2 × Int_2 × Int)) : Prop := ∀ (w0 : World) (I0 : Nat → Prop) (x15260 : Int_2) (v15261 : Value) (r15262 : RepS (dI .u32) w0 I0 v15261 x15260.Mag) (x15263 : Int_2) (v15264 : Value) (r15265 : RepS (dI .u32) w0 I0 v15264 x15263.Mag) (hI : ∀ g, I0 g → g < w0.heap.size) (r : (Int_2 × Int_2 × Int)), f x15260 x15263 = some r →
    Ret Tryz.prog 24 #[(.agg #[(.bool x15260.Neg), v15261]), (.agg #[(.bool x15263.Neg), v15264])] w0 fun v w1 => ∃ (I1 : Nat → Prop) (u15266 : Value) (u15267 : Value), v = (.tuple #[(.agg #[(.bool r.1.Neg), u15266]), (.agg #[(.bool r.2.1.Neg), u15267]), (.int .i64 r.2.2)]) ∧ Hp ⟨w0, I0, []⟩ I1 [] w1 ∧ RepS (dI .u32) w1 I1 u15266 r.1.Mag ∧ RepS (dI .u32) w1 I1 u15267 r.2.1.Mag
theorem integer_DivMod_ok (n : Nat) : integer_DivMod_S (integer_DivMod n) := by
  intro w0 I0 x15260 v15261 r15262 x15263 v15264 r15265 hI r h
  unfold integer_DivMod at h
  refine enter Tryz.func24 rfl (Nat.le_of_ble_eq_true rfl) ?_
  have hp : Hp ⟨w0, I0, []⟩ I0 [] w0 := Hp.start hI
  apply go
  apply go
  refine ev_boxI hp rfl rfl ?_
  intro p15270 I15271 w15269 hp hs a15272
  replace r15265 := r15265.step hs
  replace r15262 := r15262.step hs
  refine ev_boxI hp rfl rfl ?_
  intro p15275 I15276 w15274 hp hs a15277
  replace a15272 := a15272.step hs
  replace r15262 := r15262.step hs
  replace r15265 := r15265.step hs
  refine ev_alloc hp rfl T24 ?_
  intro g15278 w15279 hp hs
  replace a15272 := a15272.step hs
  replace r15262 := r15262.step hs
  replace a15277 := a15277.step hs
  replace r15265 := r15265.step hs
  refine ev_alloc hp rfl T24 ?_
  intro g15280 w15281 hp hs
  replace a15272 := a15272.step hs
  replace r15262 := r15262.step hs
  replace a15277 := a15277.step hs
  replace r15265 := r15265.step hs
  apply go
  have hs := hp.stp (Ch.drew [] w15281)
  have hp := hp.drew
  replace a15272 := a15272.step hs
  replace r15262 := r15262.step hs
  replace a15277 := a15277.step hs
  replace r15265 := r15265.step hs
  refine W.held [(0, true), (1, true), (3, true), (4, true), (2, false), (5, false), (6, true), (7, true)] (Stp I15276 w15281.drew I15276) MX (by kernel_rfl) (Stp.refl _ _) ?_
  have hz := Stp.refl I15276 w15281.drew
  refine evh0 (rn_field rfl rfl FO24_1) ?_
  refine evh (fun w' hw => rn_load rfl rfl (run_loadVar1 T22 ((a15272.step hw).2 1 _ rfl))) ?_
  refine evh0 (rn_field rfl rfl FO24_1) ?_
  refine evh (fun w' hw => rn_load rfl rfl (run_loadVar1 T22 ((a15277.step hw).2 1 _ rfl))) ?_
  obtain ⟨x15294, q15295, h⟩ := bind_some h
  refine ev_call rfl rfl C46 (((integer_trim_ok n) _ _  x15260.Mag v15261 r15262 hp.imm _ q15295).mono ?_)
  rintro _ w15296 ⟨I15297, v15298, hv, hq, r15299⟩
  replace hv := hv.symm
  subst hv
  have hs := hq.st
  have hp := hp.join0 hq
  replace hz := hz.trans hs
  replace a15272 := a15272.step hs
  replace r15262 := r15262.step hs
  replace a15277 := a15277.step hs
  replace r15265 := r15265.step hs
  refine ⟨Stp I15297 w15296 I15297, Stp.refl _ _, fun x hx => hz.held hx, ?_⟩
  have hz := Stp.refl I15297 w15296
  obtain ⟨x15300, q15301, h⟩ := bind_some h
  refine ev_call rfl rfl C46 (((integer_trim_ok n) _ _  x15263.Mag v15264 r15265 hp.imm _ q15301).mono ?_)
  rintro _ w15302 ⟨I15303, v15304, hv, hq, r15305⟩
  replace hv := hv.symm
  subst hv
  have hs := hq.st
  have hp := hp.join0 hq
  replace hz := hz.trans hs
  replace a15272 := a15272.step hs
  replace r15262 := r15262.step hs
  replace a15277 := a15277.step hs
  replace r15265 := r15265.step hs
  replace r15299 := r15299.step hs
  refine ⟨Stp I15303 w15302 I15303, Stp.refl _ _, fun x hx => hz.held hx, ?_⟩
  have hz := Stp.refl I15303 w15302
  apply go
  apply go
  apply go
  refine ev0 (rn_len rfl rfl Tryz.underlying22 r15305) ?_
  apply go
  refine sel_of (fun hc => ?_) (fun hc => ?_)
  ·
    have h := cond_t h hc
    apply go
    apply go
    refine ev0 (fun w => rn_build (cs := [(.bool false), (.slice none 0 0)]) rfl rfl T24 PL24 rfl) ?_
    refine ev0 (fun w => rn_build (cs := [(.bool false), (.slice none 0 0)]) rfl rfl T24 PL24 rfl) ?_
    refine ev_storeA hp (i := 1) (off := 0) (vs := [(.bool false), (.slice none 0 0)]) rfl rfl rfl rfl T24 rfl (Nat.le_of_ble_eq_true rfl) (ones_of rfl) ?_
    intro w15306 hp hs
    refine ev_storeA hp (i := 0) (off := 0) (vs := [(.bool false), (.slice none 0 0)]) rfl rfl rfl rfl T24 rfl (Nat.le_of_ble_eq_true rfl) (ones_of rfl) ?_
    intro w15307 hp hs
    apply go
    obtain rfl := Option.some.inj h
    refine ⟨_, run_loadVarA T24 rfl (hp.at_ (i := 1) rfl), ?_⟩
    refine ⟨_, run_loadVarA T24 rfl (hp.at_ (i := 0) rfl), ?_⟩
    have hp := hp.sel [] (by decide)
    exact ⟨I15303, .slice none 0 0, .slice none 0 0, rfl, hp, RepS.nil _ _ _, RepS.nil _ _ _⟩
  ·
    have h := cond_f h hc
    apply go
    apply go
    apply go
    obtain ⟨⟨x15308, x15309⟩, q15310, h⟩ := bind_some h
    refine ev_call rfl rfl C55 (((integer_divide_ok n) _ _  x15294 v15298 r15299 x15300 v15304 r15305 hp.imm _ q15310).mono ?_)
    rintro _ w15311 ⟨I15312, v15313, v15315, hv, hq, r15314, r15316⟩
    replace hv := hv.symm
    subst hv
    have hs := hq.st
    have hp := hp.join0 hq
    replace a15272 := a15272.step hs
    replace r15262 := r15262.step hs
    replace a15277 := a15277.step hs
    replace r15265 := r15265.step hs
    replace r15305 := r15305.step hs
    obtain ⟨y15641, q15642, h⟩ := bind_some h
    refine W.cut (γ := (Bool × (List Int) × Bool × (List Int) × Nat × Value × Nat × Value × (Nat → Prop))) (fun g => [(3, (.pointer (some (p15275)))), (4, (.pointer (some ⟨g15278, 0, none⟩))), (5, (.pointer (some ⟨g15280, 0, none⟩))), (8, v15304), (11, (.pointer (some ⟨(g.2.2.2.2.1), 0, none⟩))), (12, (.pointer (some ⟨(g.2.2.2.2.2.2.1), 0, none⟩)))]) (fun g w' => y15641 = ((g.1), (g.2.1), (g.2.2.1), (g.2.2.2.1)) ∧ Hp ⟨w0, I0, []⟩ (g.2.2.2.2.2.2.2.2) [some (g15278, [(.bool false), (.slice none 0 0)], 24), some (g15280, [(.bool false), (.slice none 0 0)], 24), some ((g.2.2.2.2.1), [(.bool (g.1)), (g.2.2.2.2.2.1)], 24), some ((g.2.2.2.2.2.2.1), [(.bool (g.2.2.1)), (g.2.2.2.2.2.2.2.1)], 24)] w' ∧ RepS (dI .u32) w' (g.2.2.2.2.2.2.2.2) v15264 x15263.Mag ∧ At w' (g.2.2.2.2.2.2.2.2) p15275 [(.bool x15263.Neg), v15264] ∧ RepS (dI .u32) w' (g.2.2.2.2.2.2.2.2) v15304 x15300 ∧ RepS (dI .u32) w' (g.2.2.2.2.2.2.2.2) (g.2.2.2.2.2.1) (g.2.1) ∧ RepS (dI .u32) w' (g.2.2.2.2.2.2.2.2) (g.2.2.2.2.2.2.2.1) (g.2.2.2.1)) ?_ ?_
    ·
      have hs := hp.stp (Ch.drew [] w15311)
      have hp := hp.drew
      replace a15272 := a15272.step hs
      replace r15262 := r15262.step hs
      replace a15277 := a15277.step hs
      replace r15265 := r15265.step hs
      replace r15305 := r15305.step hs
      replace r15314 := r15314.step hs
      replace r15316 := r15316.step hs
      refine W.heldG (.q 0 (.q 1 (.q 2 (.q 3 (.q 4 (.q 5 (.q 7 (.q 8 (.q 9 (.l 6 (.l 10 (.l 11 (.l 12 (.l 13 (.l 14 .done .no) .no) .no) (.l 12 (.l 11 (.l 13 (.l 14 .done .no) .no) .no) .no)) (.l 11 (.l 10 (.l 12 (.l 13 (.l 14 .done .no) .no) .no) (.l 12 (.l 10 (.l 13 (.l 14 .done .no) .no) .no) .no)) (.l 12 (.l 10 (.l 11 (.l 13 (.l 14 .done .no) .no) .no) (.l 11 (.l 10 (.l 13 (.l 14 .done .no) .no) .no) .no)) .no))) (.l 11 (.l 6 (.l 10 (.l 12 (.l 13 (.l 14 .done .no) .no) .no) (.l 12 (.l 10 (.l 13 (.l 14 .done .no) .no) .no) .no)) (.l 12 (.l 6 (.l 10 (.l 13 (.l 14 .done .no) .no) .no) .no) .no)) (.l 12 (.l 6 (.l 10 (.l 11 (.l 13 (.l 14 .done .no) .no) .no) (.l 11 (.l 10 (.l 13 (.l 14 .done .no) .no) .no) .no)) (.l 11 (.l 6 (.l 10 (.l 13 (.l 14 .done .no) .no) .no) .no) .no)) .no)))))))))))) (SK (Stp I15312 w15311.drew I15312) [] []) MX (by kernel_rfl) ⟨Stp.refl _ _, kp_nil⟩ ?_
      have hz := Stp.refl I15312 w15311.drew
      refine ⟨SK.same (by kernel_rfl), ?_⟩
      refine evh0 (rn_field rfl rfl FO24_0) ?_
      refine ⟨SK.same (by kernel_rfl), ?_⟩
      refine evh (fun w' hw => rn_load rfl rfl (run_loadVar1 T4 ((a15272.step (S0.si hw)).2 0 _ rfl))) ?_
      refine ⟨SK.same (by kernel_rfl), ?_⟩
      refine evh0 (rn_field rfl rfl FO24_0) ?_
      refine ⟨SK.same (by kernel_rfl), ?_⟩
      refine evh (fun w' hw => rn_load rfl rfl (run_loadVar1 T4 ((a15277.step (S0.si hw)).2 0 _ rfl))) ?_
      refine ⟨SK.same (by kernel_rfl), ?_⟩
      refine evh0 (rn_neB rfl rfl rfl Tryz.underlying4) ?_
      refine ⟨SK.same (by kernel_rfl), ?_⟩
      refine ⟨SK.same (by kernel_rfl), ?_⟩
      refine evh0 (rn_field rfl rfl FO24_0) ?_
      refine ⟨SK.same (by kernel_rfl), ?_⟩
      refine evh (fun w' hw => rn_load rfl rfl (run_loadVar1 T4 ((a15272.step (S0.si hw)).2 0 _ rfl))) ?_
      refine ⟨SK.same (by kernel_rfl), ?_⟩
      refine ⟨?_, ?_⟩
      ·
        obtain ⟨x15799, q15800, q15642⟩ := bind_some q15642
        refine ev_call rfl rfl C49 (((integer_made_ok n) _ _  (!(x15260.Neg == x15263.Neg)) x15308 v15313 r15314 hp.imm _ q15800).mono ?_)
        rintro _ w15801 ⟨I15802, v15803, hv, hq, r15804⟩
        replace hv := hv.symm
        subst hv
        have hs := hq.st
        have hp := hp.join0 hq
        replace hz := hz.trans hs
        replace a15277 := a15277.step hs
        replace r15265 := r15265.step hs
        replace r15305 := r15305.step hs
        replace r15316 := r15316.step hs
        refine ⟨SK (Stp I15802 w15801 I15802) [] [], ⟨Stp.refl _ _, kp_nil⟩, fun L x h => ⟨hz.held h.1, h.2⟩, ?_⟩
        have hz := Stp.refl I15802 w15801
        refine ⟨?_, ?_⟩
        ·
          obtain ⟨x15805, q15806, q15642⟩ := bind_some q15642
          refine ev_call rfl rfl C49 (((integer_made_ok n) _ _  x15260.Neg x15309 v15315 r15316 hp.imm _ q15806).mono ?_)
          rintro _ w15807 ⟨I15808, v15809, hv, hq, r15810⟩
          replace hv := hv.symm
          subst hv
          have hs := hq.st
          have hp := hp.join0 hq
          replace hz := hz.trans hs
          replace a15277 := a15277.step hs
          replace r15265 := r15265.step hs
          replace r15305 := r15305.step hs
          replace r15804 := r15804.step hs
          refine ⟨SK (Stp I15808 w15807 I15808) [] [], ⟨Stp.refl _ _, kp_nil⟩, fun L x h => ⟨hz.held h.1, h.2⟩, ?_⟩
          have hz := Stp.refl I15808 w15807
          refine ⟨?_, ?_⟩
          ·
            refine ev_alloc hp rfl T24 ?_
            intro g15811 w15812 hp hs
            replace hz := hz.trans hs
            replace a15277 := a15277.step hs
            replace r15265 := r15265.step hs
            replace r15305 := r15305.step hs
            replace r15804 := r15804.step hs
            replace r15810 := r15810.step hs
            refine ⟨SK (Stp I15808 w15812 I15808) [] [], ⟨Stp.refl _ _, kp_nil⟩, fun L x h => ⟨hz.held h.1, h.2⟩, ?_⟩
            have hz := Stp.refl I15808 w15812
            refine ⟨?_, trivial⟩
            refine ev_alloc hp rfl T24 ?_
            intro g15813 w15814 hp hs
            replace hz := hz.trans hs
            replace a15277 := a15277.step hs
            replace r15265 := r15265.step hs
            replace r15305 := r15305.step hs
            replace r15804 := r15804.step hs
            replace r15810 := r15810.step hs
            refine ⟨SK (Stp I15808 w15814 I15808) [] [], ⟨Stp.refl _ _, kp_nil⟩, fun L x h => ⟨hz.held h.1, h.2⟩, ?_⟩
            have hz := Stp.refl I15808 w15814
            refine ⟨?_, trivial⟩
            refine ev_storeA hp (i := 1) (off := 0) (vs := [(.bool x15799.Neg), v15803]) rfl rfl rfl rfl T24 rfl (Nat.le_of_ble_eq_true rfl) (ones_cons rfl (ones_cons r15804.one ones_nil)) ?_
            intro w15815 hp hs
            replace hz := hz.trans hs
            replace a15277 := a15277.step hs
            replace r15265 := r15265.step hs
            replace r15305 := r15305.step hs
            replace r15810 := r15810.step hs
            replace r15804 := r15804.step hs
            refine ⟨SK (Stp I15808 w15815 I15808) [] [], ⟨Stp.refl _ _, kp_nil⟩, fun L x h => ⟨hz.held h.1, h.2⟩, ?_⟩
            have hz := Stp.refl I15808 w15815
            refine ⟨?_, trivial⟩
            refine ev_storeA hp (i := 0) (off := 0) (vs := [(.bool x15805.Neg), v15809]) rfl rfl rfl rfl T24 rfl (Nat.le_of_ble_eq_true rfl) (ones_cons rfl (ones_cons r15810.one ones_nil)) ?_
            intro w15816 hp hs
            replace hz := hz.trans hs
            replace a15277 := a15277.step hs
            replace r15265 := r15265.step hs
            replace r15305 := r15305.step hs
            replace r15810 := r15810.step hs
            replace r15804 := r15804.step hs
            refine ⟨SK (Stp I15808 w15816 I15808) [] [], ⟨Stp.refl _ _, kp_nil⟩, fun L x h => ⟨hz.held h.1, h.2⟩, ?_⟩
            have hz := Stp.refl I15808 w15816
            obtain rfl := Option.some.inj q15642
            have hp := hp.perm [3, 2, 1, 0] (by decide)
            exact ⟨(x15799.Neg, x15799.Mag, x15805.Neg, x15805.Mag, g15811, v15803, g15813, v15809, I15808), (.c rfl (.c rfl (.c rfl (.c rfl (.c rfl (.c rfl .n)))))), rfl, hp, r15265, a15277, r15305, r15804, r15810⟩
          refine ⟨?_, trivial⟩
          refine ev_alloc hp rfl T24 ?_
          intro g15817 w15818 hp hs
          replace hz := hz.trans hs
          replace a15277 := a15277.step hs
          replace r15265 := r15265.step hs
          replace r15305 := r15305.step hs
          replace r15804 := r15804.step hs
          replace r15810 := r15810.step hs
          refine ⟨SK (Stp I15808 w15818 I15808) [] [], ⟨Stp.refl _ _, kp_nil⟩, fun L x h => ⟨hz.held h.1, h.2⟩, ?_⟩
          have hz := Stp.refl I15808 w15818
          refine ⟨?_, trivial⟩
          refine ev_alloc hp rfl T24 ?_
          intro g15819 w15820 hp hs
          replace hz := hz.trans hs
          replace a15277 := a15277.step hs
          replace r15265 := r15265.step hs
          replace r15305 := r15305.step hs
          replace r15804 := r15804.step hs
          replace r15810 := r15810.step hs
          refine ⟨SK (Stp I15808 w15820 I15808) [] [], ⟨Stp.refl _ _, kp_nil⟩, fun L x h => ⟨hz.held h.1, h.2⟩, ?_⟩
          have hz := Stp.refl I15808 w15820
          refine ⟨?_, trivial⟩
          refine ev_storeA hp (i := 0) (off := 0) (vs := [(.bool x15799.Neg), v15803]) rfl rfl rfl rfl T24 rfl (Nat.le_of_ble_eq_true rfl) (ones_cons rfl (ones_cons r15804.one ones_nil)) ?_
          intro w15821 hp hs
          replace hz := hz.trans hs
          replace a15277 := a15277.step hs
          replace r15265 := r15265.step hs
          replace r15305 := r15305.step hs
          replace r15810 := r15810.step hs
          replace r15804 := r15804.step hs
          refine ⟨SK (Stp I15808 w15821 I15808) [] [], ⟨Stp.refl _ _, kp_nil⟩, fun L x h => ⟨hz.held h.1, h.2⟩, ?_⟩
          have hz := Stp.refl I15808 w15821
          refine ⟨?_, trivial⟩
          refine ev_storeA hp (i := 1) (off := 0) (vs := [(.bool x15805.Neg), v15809]) rfl rfl rfl rfl T24 rfl (Nat.le_of_ble_eq_true rfl) (ones_cons rfl (ones_cons r15810.one ones_nil)) ?_
          intro w15822 hp hs
          replace hz := hz.trans hs
          replace a15277 := a15277.step hs
          replace r15265 := r15265.step hs
          replace r15305 := r15305.step hs
          replace r15804 := r15804.step hs
          replace r15810 := r15810.step hs
          refine ⟨SK (Stp I15808 w15822 I15808) [] [], ⟨Stp.refl _ _, kp_nil⟩, fun L x h => ⟨hz.held h.1, h.2⟩, ?_⟩
          have hz := Stp.refl I15808 w15822
          obtain rfl := Option.some.inj q15642
          have hp := hp.perm [3, 2, 0, 1] (by decide)
          exact ⟨(x15799.Neg, x15799.Mag, x15805.Neg, x15805.Mag, g15819, v15803, g15817, v15809, I15808), (.c rfl (.c rfl (.c rfl (.c rfl (.c rfl (.c rfl .n)))))), rfl, hp, r15265, a15277, r15305, r15804, r15810⟩
        refine ⟨?_, ?_⟩
        ·
          refine ev_alloc hp rfl T24 ?_
          intro g15823 w15824 hp hs
          replace hz := hz.trans hs
          replace a15277 := a15277.step hs
          replace r15265 := r15265.step hs
          replace r15305 := r15305.step hs
          replace r15316 := r15316.step hs
          replace r15804 := r15804.step hs
          refine ⟨SK (Stp I15802 w15824 I15802) [] [], ⟨Stp.refl _ _, kp_nil⟩, fun L x h => ⟨hz.held h.1, h.2⟩, ?_⟩
          have hz := Stp.refl I15802 w15824
          refine ⟨?_, ?_⟩
          ·
            obtain ⟨x15825, q15826, q15642⟩ := bind_some q15642
            refine ev_call rfl rfl C49 (((integer_made_ok n) _ _  x15260.Neg x15309 v15315 r15316 hp.imm _ q15826).mono ?_)
            rintro _ w15827 ⟨I15828, v15829, hv, hq, r15830⟩
            replace hv := hv.symm
            subst hv
            have hs := hq.st
            have hp := hp.join0 hq
            replace hz := hz.trans hs
            replace a15277 := a15277.step hs
            replace r15265 := r15265.step hs
            replace r15305 := r15305.step hs
            replace r15804 := r15804.step hs
            refine ⟨SK (Stp I15828 w15827 I15828) [] [], ⟨Stp.refl _ _, kp_nil⟩, fun L x h => ⟨hz.held h.1, h.2⟩, ?_⟩
            have hz := Stp.refl I15828 w15827
            refine ⟨?_, trivial⟩
            refine ev_alloc hp rfl T24 ?_
            intro g15831 w15832 hp hs
            replace hz := hz.trans hs
            replace a15277 := a15277.step hs
            replace r15265 := r15265.step hs
            replace r15305 := r15305.step hs
            replace r15804 := r15804.step hs
            replace r15830 := r15830.step hs
            refine ⟨SK (Stp I15828 w15832 I15828) [] [], ⟨Stp.refl _ _, kp_nil⟩, fun L x h => ⟨hz.held h.1, h.2⟩, ?_⟩
            have hz := Stp.refl I15828 w15832
            refine ⟨?_, trivial⟩
            refine ev_storeA hp (i := 1) (off := 0) (vs := [(.bool x15799.Neg), v15803]) rfl rfl rfl rfl T24 rfl (Nat.le_of_ble_eq_true rfl) (ones_cons rfl (ones_cons r15804.one ones_nil)) ?_
            intro w15833 hp hs
            replace hz := hz.trans hs
            replace a15277 := a15277.step hs
            replace r15265 := r15265.step hs
            replace r15305 := r15305.step hs
            replace r15830 := r15830.step hs
            replace r15804 := r15804.step hs
            refine ⟨SK (Stp I15828 w15833 I15828) [] [], ⟨Stp.refl _ _, kp_nil⟩, fun L x h => ⟨hz.held h.1, h.2⟩, ?_⟩
            have hz := Stp.refl I15828 w15833
            refine ⟨?_, trivial⟩
            refine ev_storeA hp (i := 0) (off := 0) (vs := [(.bool x15825.Neg), v15829]) rfl rfl rfl rfl T24 rfl (Nat.le_of_ble_eq_true rfl) (ones_cons rfl (ones_cons r15830.one ones_nil)) ?_
            intro w15834 hp hs
            replace hz := hz.trans hs
            replace a15277 := a15277.step hs
            replace r15265 := r15265.step hs
            replace r15305 := r15305.step hs
            replace r15830 := r15830.step hs
            replace r15804 := r15804.step hs
            refine ⟨SK (Stp I15828 w15834 I15828) [] [], ⟨Stp.refl _ _, kp_nil⟩, fun L x h => ⟨hz.held h.1, h.2⟩, ?_⟩
            have hz := Stp.refl I15828 w15834
            obtain rfl := Option.some.inj q15642
            have hp := hp.perm [3, 2, 1, 0] (by decide)
            exact ⟨(x15799.Neg, x15799.Mag, x15825.Neg, x15825.Mag, g15823, v15803, g15831, v15829, I15828), (.c rfl (.c rfl (.c rfl (.c rfl (.c rfl (.c rfl .n)))))), rfl, hp, r15265, a15277, r15305, r15804, r15830⟩
          refine ⟨?_, trivial⟩
          refine ev_alloc hp rfl T24 ?_
          intro g15835 w15836 hp hs
          replace hz := hz.trans hs
          replace a15277 := a15277.step hs
          replace r15265 := r15265.step hs
          replace r15305 := r15305.step hs
          replace r15316 := r15316.step hs
          replace r15804 := r15804.step hs
          refine ⟨SK (Stp I15802 w15836 I15802) [] [], ⟨Stp.refl _ _, kp_nil⟩, fun L x h => ⟨hz.held h.1, h.2⟩, ?_⟩
          have hz := Stp.refl I15802 w15836
          refine ⟨?_, trivial⟩
          obtain ⟨x15837, q15838, q15642⟩ := bind_some q15642
          refine ev_call rfl rfl C49 (((integer_made_ok n) _ _  x15260.Neg x15309 v15315 r15316 hp.imm _ q15838).mono ?_)
          rintro _ w15839 ⟨I15840, v15841, hv, hq, r15842⟩
          replace hv := hv.symm
          subst hv
          have hs := hq.st
          have hp := hp.join0 hq
          replace hz := hz.trans hs
          replace a15277 := a15277.step hs
          replace r15265 := r15265.step hs
          replace r15305 := r15305.step hs
          replace r15804 := r15804.step hs
          refine ⟨SK (Stp I15840 w15839 I15840) [] [], ⟨Stp.refl _ _, kp_nil⟩, fun L x h => ⟨hz.held h.1, h.2⟩, ?_⟩
          have hz := Stp.refl I15840 w15839
          refine ⟨?_, trivial⟩
          refine ev_storeA hp (i := 1) (off := 0) (vs := [(.bool x15799.Neg), v15803]) rfl rfl rfl rfl T24 rfl (Nat.le_of_ble_eq_true rfl) (ones_cons rfl (ones_cons r15804.one ones_nil)) ?_
          intro w15843 hp hs
          replace hz := hz.trans hs
          replace a15277 := a15277.step hs
          replace r15265 := r15265.step hs
          replace r15305 := r15305.step hs
          replace r15842 := r15842.step hs
          replace r15804 := r15804.step hs
          refine ⟨SK (Stp I15840 w15843 I15840) [] [], ⟨Stp.refl _ _, kp_nil⟩, fun L x h => ⟨hz.held h.1, h.2⟩, ?_⟩
          have hz := Stp.refl I15840 w15843
          refine ⟨?_, trivial⟩
          refine ev_storeA hp (i := 0) (off := 0) (vs := [(.bool x15837.Neg), v15841]) rfl rfl rfl rfl T24 rfl (Nat.le_of_ble_eq_true rfl) (ones_cons rfl (ones_cons r15842.one ones_nil)) ?_
          intro w15844 hp hs
          replace hz := hz.trans hs
          replace a15277 := a15277.step hs
          replace r15265 := r15265.step hs
          replace r15305 := r15305.step hs
          replace r15842 := r15842.step hs
          replace r15804 := r15804.step hs
          refine ⟨SK (Stp I15840 w15844 I15840) [] [], ⟨Stp.refl _ _, kp_nil⟩, fun L x h => ⟨hz.held h.1, h.2⟩, ?_⟩
          have hz := Stp.refl I15840 w15844
          obtain rfl := Option.some.inj q15642
          have hp := hp.perm [3, 2, 1, 0] (by decide)
          exact ⟨(x15799.Neg, x15799.Mag, x15837.Neg, x15837.Mag, g15823, v15803, g15835, v15841, I15840), (.c rfl (.c rfl (.c rfl (.c rfl (.c rfl (.c rfl .n)))))), rfl, hp, r15265, a15277, r15305, r15804, r15842⟩
        refine ⟨?_, trivial⟩
        refine ev_alloc hp rfl T24 ?_
        intro g15845 w15846 hp hs
        replace hz := hz.trans hs
        replace a15277 := a15277.step hs
        replace r15265 := r15265.step hs
        replace r15305 := r15305.step hs
        replace r15316 := r15316.step hs
        replace r15804 := r15804.step hs
        refine ⟨SK (Stp I15802 w15846 I15802) [] [], ⟨Stp.refl _ _, kp_nil⟩, fun L x h => ⟨hz.held h.1, h.2⟩, ?_⟩
        have hz := Stp.refl I15802 w15846
        refine ⟨?_, ?_⟩
        ·
          obtain ⟨x15847, q15848, q15642⟩ := bind_some q15642
          refine ev_call rfl rfl C49 (((integer_made_ok n) _ _  x15260.Neg x15309 v15315 r15316 hp.imm _ q15848).mono ?_)
          rintro _ w15849 ⟨I15850, v15851, hv, hq, r15852⟩
          replace hv := hv.symm
          subst hv
          have hs := hq.st
          have hp := hp.join0 hq
          replace hz := hz.trans hs
          replace a15277 := a15277.step hs
          replace r15265 := r15265.step hs
          replace r15305 := r15305.step hs
          replace r15804 := r15804.step hs
          refine ⟨SK (Stp I15850 w15849 I15850) [] [], ⟨Stp.refl _ _, kp_nil⟩, fun L x h => ⟨hz.held h.1, h.2⟩, ?_⟩
          have hz := Stp.refl I15850 w15849
          refine ⟨?_, trivial⟩
          refine ev_alloc hp rfl T24 ?_
          intro g15853 w15854 hp hs
          replace hz := hz.trans hs
          replace a15277 := a15277.step hs
          replace r15265 := r15265.step hs
          replace r15305 := r15305.step hs
          replace r15804 := r15804.step hs
          replace r15852 := r15852.step hs
          refine ⟨SK (Stp I15850 w15854 I15850) [] [], ⟨Stp.refl _ _, kp_nil⟩, fun L x h => ⟨hz.held h.1, h.2⟩, ?_⟩
          have hz := Stp.refl I15850 w15854
          refine ⟨?_, trivial⟩
          refine ev_storeA hp (i := 0) (off := 0) (vs := [(.bool x15799.Neg), v15803]) rfl rfl rfl rfl T24 rfl (Nat.le_of_ble_eq_true rfl) (ones_cons rfl (ones_cons r15804.one ones_nil)) ?_
          intro w15855 hp hs
          replace hz := hz.trans hs
          replace a15277 := a15277.step hs
          replace r15265 := r15265.step hs
          replace r15305 := r15305.step hs
          replace r15852 := r15852.step hs
          replace r15804 := r15804.step hs
          refine ⟨SK (Stp I15850 w15855 I15850) [] [], ⟨Stp.refl _ _, kp_nil⟩, fun L x h => ⟨hz.held h.1, h.2⟩, ?_⟩
          have hz := Stp.refl I15850 w15855
          refine ⟨?_, trivial⟩
          refine ev_storeA hp (i := 1) (off := 0) (vs := [(.bool x15847.Neg), v15851]) rfl rfl rfl rfl T24 rfl (Nat.le_of_ble_eq_true rfl) (ones_cons rfl (ones_cons r15852.one ones_nil)) ?_
          intro w15856 hp hs
          replace hz := hz.trans hs
          replace a15277 := a15277.step hs
          replace r15265 := r15265.step hs
          replace r15305 := r15305.step hs
          replace r15804 := r15804.step hs
          replace r15852 := r15852.step hs
          refine ⟨SK (Stp I15850 w15856 I15850) [] [], ⟨Stp.refl _ _, kp_nil⟩, fun L x h => ⟨hz.held h.1, h.2⟩, ?_⟩
          have hz := Stp.refl I15850 w15856
          obtain rfl := Option.some.inj q15642
          have hp := hp.perm [3, 2, 0, 1] (by decide)
          exact ⟨(x15799.Neg, x15799.Mag, x15847.Neg, x15847.Mag, g15853, v15803, g15845, v15851, I15850), (.c rfl (.c rfl (.c rfl (.c rfl (.c rfl (.c rfl .n)))))), rfl, hp, r15265, a15277, r15305, r15804, r15852⟩
        refine ⟨?_, trivial⟩
        refine ev_alloc hp rfl T24 ?_
        intro g15857 w15858 hp hs
        replace hz := hz.trans hs
        replace a15277 := a15277.step hs
        replace r15265 := r15265.step hs
        replace r15305 := r15305.step hs
        replace r15316 := r15316.step hs
        replace r15804 := r15804.step hs
        refine ⟨SK (Stp I15802 w15858 I15802) [] [], ⟨Stp.refl _ _, kp_nil⟩, fun L x h => ⟨hz.held h.1, h.2⟩, ?_⟩
        have hz := Stp.refl I15802 w15858
        refine ⟨?_, trivial⟩
        obtain ⟨x15859, q15860, q15642⟩ := bind_some q15642
        refine ev_call rfl rfl C49 (((integer_made_ok n) _ _  x15260.Neg x15309 v15315 r15316 hp.imm _ q15860).mono ?_)
        rintro _ w15861 ⟨I15862, v15863, hv, hq, r15864⟩
        replace hv := hv.symm
        subst hv
        have hs := hq.st
        have hp := hp.join0 hq
        replace hz := hz.trans hs
        replace a15277 := a15277.step hs
        replace r15265 := r15265.step hs
        replace r15305 := r15305.step hs
        replace r15804 := r15804.step hs
        refine ⟨SK (Stp I15862 w15861 I15862) [] [], ⟨Stp.refl _ _, kp_nil⟩, fun L x h => ⟨hz.held h.1, h.2⟩, ?_⟩
        have hz := Stp.refl I15862 w15861
        refine ⟨?_, trivial⟩
        refine ev_storeA hp (i := 0) (off := 0) (vs := [(.bool x15799.Neg), v15803]) rfl rfl rfl rfl T24 rfl (Nat.le_of_ble_eq_true rfl) (ones_cons rfl (ones_cons r15804.one ones_nil)) ?_
        intro w15865 hp hs
        replace hz := hz.trans hs
        replace a15277 := a15277.step hs
        replace r15265 := r15265.step hs
        replace r15305 := r15305.step hs
        replace r15864 := r15864.step hs
        replace r15804 := r15804.step hs
        refine ⟨SK (Stp I15862 w15865 I15862) [] [], ⟨Stp.refl _ _, kp_nil⟩, fun L x h => ⟨hz.held h.1, h.2⟩, ?_⟩
        have hz := Stp.refl I15862 w15865
        refine ⟨?_, trivial⟩
        refine ev_storeA hp (i := 1) (off := 0) (vs := [(.bool x15859.Neg), v15863]) rfl rfl rfl rfl T24 rfl (Nat.le_of_ble_eq_true rfl) (ones_cons rfl (ones_cons r15864.one ones_nil)) ?_
        intro w15866 hp hs
        replace hz := hz.trans hs
        replace a15277 := a15277.step hs
        replace r15265 := r15265.step hs
        replace r15305 := r15305.step hs
        replace r15804 := r15804.step hs
        replace r15864 := r15864.step hs
        refine ⟨SK (Stp I15862 w15866 I15862) [] [], ⟨Stp.refl _ _, kp_nil⟩, fun L x h => ⟨hz.held h.1, h.2⟩, ?_⟩
        have hz := Stp.refl I15862 w15866
        obtain rfl := Option.some.inj q15642
        have hp := hp.perm [3, 2, 0, 1] (by decide)
        exact ⟨(x15799.Neg, x15799.Mag, x15859.Neg, x15859.Mag, g15857, v15803, g15845, v15863, I15862), (.c rfl (.c rfl (.c rfl (.c rfl (.c rfl (.c rfl .n)))))), rfl, hp, r15265, a15277, r15305, r15804, r15864⟩
      refine ⟨?_, ?_⟩
      ·
        refine ev_alloc hp rfl T24 ?_
        intro g15867 w15868 hp hs
        replace hz := hz.trans hs
        replace a15277 := a15277.step hs
        replace r15265 := r15265.step hs
        replace r15305 := r15305.step hs
        replace r15314 := r15314.step hs
        replace r15316 := r15316.step hs
        refine ⟨SK (Stp I15312 w15868 I15312) [] [], ⟨Stp.refl _ _, kp_nil⟩, fun L x h => ⟨hz.held h.1, h.2⟩, ?_⟩
        have hz := Stp.refl I15312 w15868
        refine ⟨?_, ?_⟩
        ·
          obtain ⟨x15869, q15870, q15642⟩ := bind_some q15642
          refine ev_call rfl rfl C49 (((integer_made_ok n) _ _  (!(x15260.Neg == x15263.Neg)) x15308 v15313 r15314 hp.imm _ q15870).mono ?_)
          rintro _ w15871 ⟨I15872, v15873, hv, hq, r15874⟩
          replace hv := hv.symm
          subst hv
          have hs := hq.st
          have hp := hp.join0 hq
          replace hz := hz.trans hs
          replace a15277 := a15277.step hs
          replace r15265 := r15265.step hs
          replace r15305 := r15305.step hs
          replace r15316 := r15316.step hs
          refine ⟨SK (Stp I15872 w15871 I15872) [] [], ⟨Stp.refl _ _, kp_nil⟩, fun L x h => ⟨hz.held h.1, h.2⟩, ?_⟩
          have hz := Stp.refl I15872 w15871
          refine ⟨?_, ?_⟩
          ·
            obtain ⟨x15875, q15876, q15642⟩ := bind_some q15642
            refine ev_call rfl rfl C49 (((integer_made_ok n) _ _  x15260.Neg x15309 v15315 r15316 hp.imm _ q15876).mono ?_)
            rintro _ w15877 ⟨I15878, v15879, hv, hq, r15880⟩
            replace hv := hv.symm
            subst hv
            have hs := hq.st
            have hp := hp.join0 hq
            replace hz := hz.trans hs
            replace a15277 := a15277.step hs
            replace r15265 := r15265.step hs
            replace r15305 := r15305.step hs
            replace r15874 := r15874.step hs
            refine ⟨SK (Stp I15878 w15877 I15878) [] [], ⟨Stp.refl _ _, kp_nil⟩, fun L x h => ⟨hz.held h.1, h.2⟩, ?_⟩
            have hz := Stp.refl I15878 w15877
            refine ⟨?_, trivial⟩
            refine ev_alloc hp rfl T24 ?_
            intro g15881 w15882 hp hs
            replace hz := hz.trans hs
            replace a15277 := a15277.step hs
            replace r15265 := r15265.step hs
            replace r15305 := r15305.step hs
            replace r15874 := r15874.step hs
            replace r15880 := r15880.step hs
            refine ⟨SK (Stp I15878 w15882 I15878) [] [], ⟨Stp.refl _ _, kp_nil⟩, fun L x h => ⟨hz.held h.1, h.2⟩, ?_⟩
            have hz := Stp.refl I15878 w15882
            refine ⟨?_, trivial⟩
            refine ev_storeA hp (i := 1) (off := 0) (vs := [(.bool x15869.Neg), v15873]) rfl rfl rfl rfl T24 rfl (Nat.le_of_ble_eq_true rfl) (ones_cons rfl (ones_cons r15874.one ones_nil)) ?_
            intro w15883 hp hs
            replace hz := hz.trans hs
            replace a15277 := a15277.step hs
            replace r15265 := r15265.step hs
            replace r15305 := r15305.step hs
            replace r15880 := r15880.step hs
            replace r15874 := r15874.step hs
            refine ⟨SK (Stp I15878 w15883 I15878) [] [], ⟨Stp.refl _ _, kp_nil⟩, fun L x h => ⟨hz.held h.1, h.2⟩, ?_⟩
            have hz := Stp.refl I15878 w15883
            refine ⟨?_, trivial⟩
            refine ev_storeA hp (i := 0) (off := 0) (vs := [(.bool x15875.Neg), v15879]) rfl rfl rfl rfl T24 rfl (Nat.le_of_ble_eq_true rfl) (ones_cons rfl (ones_cons r15880.one ones_nil)) ?_
            intro w15884 hp hs
            replace hz := hz.trans hs
            replace a15277 := a15277.step hs
            replace r15265 := r15265.step hs
            replace r15305 := r15305.step hs
            replace r15880 := r15880.step hs
            replace r15874 := r15874.step hs
            refine ⟨SK (Stp I15878 w15884 I15878) [] [], ⟨Stp.refl _ _, kp_nil⟩, fun L x h => ⟨hz.held h.1, h.2⟩, ?_⟩
            have hz := Stp.refl I15878 w15884
            obtain rfl := Option.some.inj q15642
            have hp := hp.perm [3, 2, 1, 0] (by decide)
            exact ⟨(x15869.Neg, x15869.Mag, x15875.Neg, x15875.Mag, g15867, v15873, g15881, v15879, I15878), (.c rfl (.c rfl (.c rfl (.c rfl (.c rfl (.c rfl .n)))))), rfl, hp, r15265, a15277, r15305, r15874, r15880⟩
          refine ⟨?_, trivial⟩
          refine ev_alloc hp rfl T24 ?_
          intro g15885 w15886 hp hs
          replace hz := hz.trans hs
          replace a15277 := a15277.step hs
          replace r15265 := r15265.step hs
          replace r15305 := r15305.step hs
          replace r15316 := r15316.step hs
          replace r15874 := r15874.step hs
          refine ⟨SK (Stp I15872 w15886 I15872) [] [], ⟨Stp.refl _ _, kp_nil⟩, fun L x h => ⟨hz.held h.1, h.2⟩, ?_⟩
          have hz := Stp.refl I15872 w15886
          refine ⟨?_, trivial⟩
          obtain ⟨x15887, q15888, q15642⟩ := bind_some q15642
          refine ev_call rfl rfl C49 (((integer_made_ok n) _ _  x15260.Neg x15309 v15315 r15316 hp.imm _ q15888).mono ?_)
          rintro _ w15889 ⟨I15890, v15891, hv, hq, r15892⟩
          replace hv := hv.symm
          subst hv
          have hs := hq.st
          have hp := hp.join0 hq
          replace hz := hz.trans hs
          replace a15277 := a15277.step hs
          replace r15265 := r15265.step hs
          replace r15305 := r15305.step hs
          replace r15874 := r15874.step hs
          refine ⟨SK (Stp I15890 w15889 I15890) [] [], ⟨Stp.refl _ _, kp_nil⟩, fun L x h => ⟨hz.held h.1, h.2⟩, ?_⟩
          have hz := Stp.refl I15890 w15889
          refine ⟨?_, trivial⟩
          refine ev_storeA hp (i := 1) (off := 0) (vs := [(.bool x15869.Neg), v15873]) rfl rfl rfl rfl T24 rfl (Nat.le_of_ble_eq_true rfl) (ones_cons rfl (ones_cons r15874.one ones_nil)) ?_
          intro w15893 hp hs
          replace hz := hz.trans hs
          replace a15277 := a15277.step hs
          replace r15265 := r15265.step hs
          replace r15305 := r15305.step hs
          replace r15892 := r15892.step hs
          replace r15874 := r15874.step hs
          refine ⟨SK (Stp I15890 w15893 I15890) [] [], ⟨Stp.refl _ _, kp_nil⟩, fun L x h => ⟨hz.held h.1, h.2⟩, ?_⟩
          have hz := Stp.refl I15890 w15893
          refine ⟨?_, trivial⟩
          refine ev_storeA hp (i := 0) (off := 0) (vs := [(.bool x15887.Neg), v15891]) rfl rfl rfl rfl T24 rfl (Nat.le_of_ble_eq_true rfl) (ones_cons rfl (ones_cons r15892.one ones_nil)) ?_
          intro w15894 hp hs
          replace hz := hz.trans hs
          replace a15277 := a15277.step hs
          replace r15265 := r15265.step hs
          replace r15305 := r15305.step hs
          replace r15892 := r15892.step hs
          replace r15874 := r15874.step hs
          refine ⟨SK (Stp I15890 w15894 I15890) [] [], ⟨Stp.refl _ _, kp_nil⟩, fun L x h => ⟨hz.held h.1, h.2⟩, ?_⟩
          have hz := Stp.refl I15890 w15894
          obtain rfl := Option.some.inj q15642
          have hp := hp.perm [3, 2, 1, 0] (by decide)
          exact ⟨(x15869.Neg, x15869.Mag, x15887.Neg, x15887.Mag, g15867, v15873, g15885, v15891, I15890), (.c rfl (.c rfl (.c rfl (.c rfl (.c rfl (.c rfl .n)))))), rfl, hp, r15265, a15277, r15305, r15874, r15892⟩
        refine ⟨?_, trivial⟩
        refine ev_alloc hp rfl T24 ?_
        intro g15895 w15896 hp hs
        replace hz := hz.trans hs
        replace a15277 := a15277.step hs
        replace r15265 := r15265.step hs
        replace r15305 := r15305.step hs
        replace r15314 := r15314.step hs
        replace r15316 := r15316.step hs
        refine ⟨SK (Stp I15312 w15896 I15312) [] [], ⟨Stp.refl _ _, kp_nil⟩, fun L x h => ⟨hz.held h.1, h.2⟩, ?_⟩
        have hz := Stp.refl I15312 w15896
        refine ⟨?_, trivial⟩
        obtain ⟨x15897, q15898, q15642⟩ := bind_some q15642
        refine ev_call rfl rfl C49 (((integer_made_ok n) _ _  (!(x15260.Neg == x15263.Neg)) x15308 v15313 r15314 hp.imm _ q15898).mono ?_)
        rintro _ w15899 ⟨I15900, v15901, hv, hq, r15902⟩
        replace hv := hv.symm
        subst hv
        have hs := hq.st
        have hp := hp.join0 hq
        replace hz := hz.trans hs
        replace a15277 := a15277.step hs
        replace r15265 := r15265.step hs
        replace r15305 := r15305.step hs
        replace r15316 := r15316.step hs
        refine ⟨SK (Stp I15900 w15899 I15900) [] [], ⟨Stp.refl _ _, kp_nil⟩, fun L x h => ⟨hz.held h.1, h.2⟩, ?_⟩
        have hz := Stp.refl I15900 w15899
        refine ⟨?_, trivial⟩
        obtain ⟨x15903, q15904, q15642⟩ := bind_some q15642
        refine ev_call rfl rfl C49 (((integer_made_ok n) _ _  x15260.Neg x15309 v15315 r15316 hp.imm _ q15904).mono ?_)
        rintro _ w15905 ⟨I15906, v15907, hv, hq, r15908⟩
        replace hv := hv.symm
        subst hv
        have hs := hq.st
        have hp := hp.join0 hq
        replace hz := hz.trans hs
        replace a15277 := a15277.step hs
        replace r15265 := r15265.step hs
        replace r15305 := r15305.step hs
        replace r15902 := r15902.step hs
        refine ⟨SK (Stp I15906 w15905 I15906) [] [], ⟨Stp.refl _ _, kp_nil⟩, fun L x h => ⟨hz.held h.1, h.2⟩, ?_⟩
        have hz := Stp.refl I15906 w15905
        refine ⟨?_, trivial⟩
        refine ev_storeA hp (i := 1) (off := 0) (vs := [(.bool x15897.Neg), v15901]) rfl rfl rfl rfl T24 rfl (Nat.le_of_ble_eq_true rfl) (ones_cons rfl (ones_cons r15902.one ones_nil)) ?_
        intro w15909 hp hs
        replace hz := hz.trans hs
        replace a15277 := a15277.step hs
        replace r15265 := r15265.step hs
        replace r15305 := r15305.step hs
        replace r15908 := r15908.step hs
        replace r15902 := r15902.step hs
        refine ⟨SK (Stp I15906 w15909 I15906) [] [], ⟨Stp.refl _ _, kp_nil⟩, fun L x h => ⟨hz.held h.1, h.2⟩, ?_⟩
        have hz := Stp.refl I15906 w15909
        refine ⟨?_, trivial⟩
        refine ev_storeA hp (i := 0) (off := 0) (vs := [(.bool x15903.Neg), v15907]) rfl rfl rfl rfl T24 rfl (Nat.le_of_ble_eq_true rfl) (ones_cons rfl (ones_cons r15908.one ones_nil)) ?_
        intro w15910 hp hs
        replace hz := hz.trans hs
        replace a15277 := a15277.step hs
        replace r15265 := r15265.step hs
        replace r15305 := r15305.step hs
        replace r15908 := r15908.step hs
        replace r15902 := r15902.step hs
        refine ⟨SK (Stp I15906 w15910 I15906) [] [], ⟨Stp.refl _ _, kp_nil⟩, fun L x h => ⟨hz.held h.1, h.2⟩, ?_⟩
        have hz := Stp.refl I15906 w15910
        obtain rfl := Option.some.inj q15642
        have hp := hp.perm [3, 2, 1, 0] (by decide)
        exact ⟨(x15897.Neg, x15897.Mag, x15903.Neg, x15903.Mag, g15867, v15901, g15895, v15907, I15906), (.c rfl (.c rfl (.c rfl (.c rfl (.c rfl (.c rfl .n)))))), rfl, hp, r15265, a15277, r15305, r15902, r15908⟩
      refine ⟨?_, trivial⟩
      refine ev_alloc hp rfl T24 ?_
      intro g15911 w15912 hp hs
      replace hz := hz.trans hs
      replace a15277 := a15277.step hs
      replace r15265 := r15265.step hs
      replace r15305 := r15305.step hs
      replace r15314 := r15314.step hs
      replace r15316 := r15316.step hs
      refine ⟨SK (Stp I15312 w15912 I15312) [] [], ⟨Stp.refl _ _, kp_nil⟩, fun L x h => ⟨hz.held h.1, h.2⟩, ?_⟩
      have hz := Stp.refl I15312 w15912
      refine ⟨?_, ?_⟩
      ·
        obtain ⟨x15913, q15914, q15642⟩ := bind_some q15642
        refine ev_call rfl rfl C49 (((integer_made_ok n) _ _  (!(x15260.Neg == x15263.Neg)) x15308 v15313 r15314 hp.imm _ q15914).mono ?_)
        rintro _ w15915 ⟨I15916, v15917, hv, hq, r15918⟩
        replace hv := hv.symm
        subst hv
        have hs := hq.st
        have hp := hp.join0 hq
        replace hz := hz.trans hs
        replace a15277 := a15277.step hs
        replace r15265 := r15265.step hs
        replace r15305 := r15305.step hs
        replace r15316 := r15316.step hs
        refine ⟨SK (Stp I15916 w15915 I15916) [] [], ⟨Stp.refl _ _, kp_nil⟩, fun L x h => ⟨hz.held h.1, h.2⟩, ?_⟩
        have hz := Stp.refl I15916 w15915
        refine ⟨?_, ?_⟩
        ·
          obtain ⟨x15919, q15920, q15642⟩ := bind_some q15642
          refine ev_call rfl rfl C49 (((integer_made_ok n) _ _  x15260.Neg x15309 v15315 r15316 hp.imm _ q15920).mono ?_)
          rintro _ w15921 ⟨I15922, v15923, hv, hq, r15924⟩
          replace hv := hv.symm
          subst hv
          have hs := hq.st
          have hp := hp.join0 hq
          replace hz := hz.trans hs
          replace a15277 := a15277.step hs
          replace r15265 := r15265.step hs
          replace r15305 := r15305.step hs
          replace r15918 := r15918.step hs
          refine ⟨SK (Stp I15922 w15921 I15922) [] [], ⟨Stp.refl _ _, kp_nil⟩, fun L x h => ⟨hz.held h.1, h.2⟩, ?_⟩
          have hz := Stp.refl I15922 w15921
          refine ⟨?_, trivial⟩
          refine ev_alloc hp rfl T24 ?_
          intro g15925 w15926 hp hs
          replace hz := hz.trans hs
          replace a15277 := a15277.step hs
          replace r15265 := r15265.step hs
          replace r15305 := r15305.step hs
          replace r15918 := r15918.step hs
          replace r15924 := r15924.step hs
          refine ⟨SK (Stp I15922 w15926 I15922) [] [], ⟨Stp.refl _ _, kp_nil⟩, fun L x h => ⟨hz.held h.1, h.2⟩, ?_⟩
          have hz := Stp.refl I15922 w15926
          refine ⟨?_, trivial⟩
          refine ev_storeA hp (i := 0) (off := 0) (vs := [(.bool x15913.Neg), v15917]) rfl rfl rfl rfl T24 rfl (Nat.le_of_ble_eq_true rfl) (ones_cons rfl (ones_cons r15918.one ones_nil)) ?_
          intro w15927 hp hs
          replace hz := hz.trans hs
          replace a15277 := a15277.step hs
          replace r15265 := r15265.step hs
          replace r15305 := r15305.step hs
          replace r15924 := r15924.step hs
          replace r15918 := r15918.step hs
          refine ⟨SK (Stp I15922 w15927 I15922) [] [], ⟨Stp.refl _ _, kp_nil⟩, fun L x h => ⟨hz.held h.1, h.2⟩, ?_⟩
          have hz := Stp.refl I15922 w15927
          refine ⟨?_, trivial⟩
          refine ev_storeA hp (i := 1) (off := 0) (vs := [(.bool x15919.Neg), v15923]) rfl rfl rfl rfl T24 rfl (Nat.le_of_ble_eq_true rfl) (ones_cons rfl (ones_cons r15924.one ones_nil)) ?_
          intro w15928 hp hs
          replace hz := hz.trans hs
          replace a15277 := a15277.step hs
          replace r15265 := r15265.step hs
          replace r15305 := r15305.step hs
          replace r15918 := r15918.step hs
          replace r15924 := r15924.step hs
          refine ⟨SK (Stp I15922 w15928 I15922) [] [], ⟨Stp.refl _ _, kp_nil⟩, fun L x h => ⟨hz.held h.1, h.2⟩, ?_⟩
          have hz := Stp.refl I15922 w15928
          obtain rfl := Option.some.inj q15642
          have hp := hp.perm [3, 2, 0, 1] (by decide)
          exact ⟨(x15913.Neg, x15913.Mag, x15919.Neg, x15919.Mag, g15925, v15917, g15911, v15923, I15922), (.c rfl (.c rfl (.c rfl (.c rfl (.c rfl (.c rfl .n)))))), rfl, hp, r15265, a15277, r15305, r15918, r15924⟩
        refine ⟨?_, trivial⟩
        refine ev_alloc hp rfl T24 ?_
        intro g15929 w15930 hp hs
        replace hz := hz.trans hs
        replace a15277 := a15277.step hs
        replace r15265 := r15265.step hs
        replace r15305 := r15305.step hs
        replace r15316 := r15316.step hs
        replace r15918 := r15918.step hs
        refine ⟨SK (Stp I15916 w15930 I15916) [] [], ⟨Stp.refl _ _, kp_nil⟩, fun L x h => ⟨hz.held h.1, h.2⟩, ?_⟩
        have hz := Stp.refl I15916 w15930
        refine ⟨?_, trivial⟩
        obtain ⟨x15931, q15932, q15642⟩ := bind_some q15642
        refine ev_call rfl rfl C49 (((integer_made_ok n) _ _  x15260.Neg x15309 v15315 r15316 hp.imm _ q15932).mono ?_)
        rintro _ w15933 ⟨I15934, v15935, hv, hq, r15936⟩
        replace hv := hv.symm
        subst hv
        have hs := hq.st
        have hp := hp.join0 hq
        replace hz := hz.trans hs
        replace a15277 := a15277.step hs
        replace r15265 := r15265.step hs
        replace r15305 := r15305.step hs
        replace r15918 := r15918.step hs
        refine ⟨SK (Stp I15934 w15933 I15934) [] [], ⟨Stp.refl _ _, kp_nil⟩, fun L x h => ⟨hz.held h.1, h.2⟩, ?_⟩
        have hz := Stp.refl I15934 w15933
        refine ⟨?_, trivial⟩
        refine ev_storeA hp (i := 0) (off := 0) (vs := [(.bool x15913.Neg), v15917]) rfl rfl rfl rfl T24 rfl (Nat.le_of_ble_eq_true rfl) (ones_cons rfl (ones_cons r15918.one ones_nil)) ?_
        intro w15937 hp hs
        replace hz := hz.trans hs
        replace a15277 := a15277.step hs
        replace r15265 := r15265.step hs
        replace r15305 := r15305.step hs
        replace r15936 := r15936.step hs
        replace r15918 := r15918.step hs
        refine ⟨SK (Stp I15934 w15937 I15934) [] [], ⟨Stp.refl _ _, kp_nil⟩, fun L x h => ⟨hz.held h.1, h.2⟩, ?_⟩
        have hz := Stp.refl I15934 w15937
        refine ⟨?_, trivial⟩
        refine ev_storeA hp (i := 1) (off := 0) (vs := [(.bool x15931.Neg), v15935]) rfl rfl rfl rfl T24 rfl (Nat.le_of_ble_eq_true rfl) (ones_cons rfl (ones_cons r15936.one ones_nil)) ?_
        intro w15938 hp hs
        replace hz := hz.trans hs
        replace a15277 := a15277.step hs
        replace r15265 := r15265.step hs
        replace r15305 := r15305.step hs
        replace r15918 := r15918.step hs
        replace r15936 := r15936.step hs
        refine ⟨SK (Stp I15934 w15938 I15934) [] [], ⟨Stp.refl _ _, kp_nil⟩, fun L x h => ⟨hz.held h.1, h.2⟩, ?_⟩
        have hz := Stp.refl I15934 w15938
        obtain rfl := Option.some.inj q15642
        have hp := hp.perm [3, 2, 0, 1] (by decide)
        exact ⟨(x15913.Neg, x15913.Mag, x15931.Neg, x15931.Mag, g15929, v15917, g15911, v15935, I15934), (.c rfl (.c rfl (.c rfl (.c rfl (.c rfl (.c rfl .n)))))), rfl, hp, r15265, a15277, r15305, r15918, r15936⟩
      refine ⟨?_, trivial⟩
      refine ev_alloc hp rfl T24 ?_
      intro g15939 w15940 hp hs
      replace hz := hz.trans hs
      replace a15277 := a15277.step hs
      replace r15265 := r15265.step hs
      replace r15305 := r15305.step hs
      replace r15314 := r15314.step hs
      replace r15316 := r15316.step hs
      refine ⟨SK (Stp I15312 w15940 I15312) [] [], ⟨Stp.refl _ _, kp_nil⟩, fun L x h => ⟨hz.held h.1, h.2⟩, ?_⟩
      have hz := Stp.refl I15312 w15940
      refine ⟨?_, trivial⟩
      obtain ⟨x15941, q15942, q15642⟩ := bind_some q15642
      refine ev_call rfl rfl C49 (((integer_made_ok n) _ _  (!(x15260.Neg == x15263.Neg)) x15308 v15313 r15314 hp.imm _ q15942).mono ?_)
      rintro _ w15943 ⟨I15944, v15945, hv, hq, r15946⟩
      replace hv := hv.symm
      subst hv
      have hs := hq.st
      have hp := hp.join0 hq
      replace hz := hz.trans hs
      replace a15277 := a15277.step hs
      replace r15265 := r15265.step hs
      replace r15305 := r15305.step hs
      replace r15316 := r15316.step hs
      refine ⟨SK (Stp I15944 w15943 I15944) [] [], ⟨Stp.refl _ _, kp_nil⟩, fun L x h => ⟨hz.held h.1, h.2⟩, ?_⟩
      have hz := Stp.refl I15944 w15943
      refine ⟨?_, trivial⟩
      obtain ⟨x15947, q15948, q15642⟩ := bind_some q15642
      refine ev_call rfl rfl C49 (((integer_made_ok n) _ _  x15260.Neg x15309 v15315 r15316 hp.imm _ q15948).mono ?_)
      rintro _ w15949 ⟨I15950, v15951, hv, hq, r15952⟩
      replace hv := hv.symm
      subst hv
      have hs := hq.st
      have hp := hp.join0 hq
      replace hz := hz.trans hs
      replace a15277 := a15277.step hs
      replace r15265 := r15265.step hs
      replace r15305 := r15305.step hs
      replace r15946 := r15946.step hs
      refine ⟨SK (Stp I15950 w15949 I15950) [] [], ⟨Stp.refl _ _, kp_nil⟩, fun L x h => ⟨hz.held h.1, h.2⟩, ?_⟩
      have hz := Stp.refl I15950 w15949
      refine ⟨?_, trivial⟩
      refine ev_storeA hp (i := 0) (off := 0) (vs := [(.bool x15941.Neg), v15945]) rfl rfl rfl rfl T24 rfl (Nat.le_of_ble_eq_true rfl) (ones_cons rfl (ones_cons r15946.one ones_nil)) ?_
      intro w15953 hp hs
      replace hz := hz.trans hs
      replace a15277 := a15277.step hs
      replace r15265 := r15265.step hs
      replace r15305 := r15305.step hs
      replace r15952 := r15952.step hs
      replace r15946 := r15946.step hs
      refine ⟨SK (Stp I15950 w15953 I15950) [] [], ⟨Stp.refl _ _, kp_nil⟩, fun L x h => ⟨hz.held h.1, h.2⟩, ?_⟩
      have hz := Stp.refl I15950 w15953
      refine ⟨?_, trivial⟩
      refine ev_storeA hp (i := 1) (off := 0) (vs := [(.bool x15947.Neg), v15951]) rfl rfl rfl rfl T24 rfl (Nat.le_of_ble_eq_true rfl) (ones_cons rfl (ones_cons r15952.one ones_nil)) ?_
      intro w15954 hp hs
      replace hz := hz.trans hs
      replace a15277 := a15277.step hs
      replace r15265 := r15265.step hs
      replace r15305 := r15305.step hs
      replace r15946 := r15946.step hs
      replace r15952 := r15952.step hs
      refine ⟨SK (Stp I15950 w15954 I15950) [] [], ⟨Stp.refl _ _, kp_nil⟩, fun L x h => ⟨hz.held h.1, h.2⟩, ?_⟩
      have hz := Stp.refl I15950 w15954
      obtain rfl := Option.some.inj q15642
      have hp := hp.perm [3, 2, 0, 1] (by decide)
      exact ⟨(x15941.Neg, x15941.Mag, x15947.Neg, x15947.Mag, g15939, v15945, g15911, v15951, I15950), (.c rfl (.c rfl (.c rfl (.c rfl (.c rfl (.c rfl .n)))))), rfl, hp, r15265, a15277, r15305, r15946, r15952⟩
    ·
      rintro ⟨x15630, x15631, x15635, x15636, g15629, v15632, g15634, v15637, I15639⟩ w15640 ⟨hy, hp, r15265, a15277, r15305, r15633, r15638⟩
      replace hy := hy.symm
      subst hy
      obtain ⟨y15991, q15992, h⟩ := bind_some h
      refine W.cut (γ := (Bool × (List Int) × Bool × (List Int) × Value × Value × (Nat → Prop))) (fun g => [(4, (.pointer (some ⟨g15278, 0, none⟩))), (5, (.pointer (some ⟨g15280, 0, none⟩))), (11, (.pointer (some ⟨g15629, 0, none⟩))), (12, (.pointer (some ⟨g15634, 0, none⟩)))]) (fun g w' => y15991 = ((g.1), (g.2.1), (g.2.2.1), (g.2.2.2.1)) ∧ Hp ⟨w0, I0, []⟩ (g.2.2.2.2.2.2) [some (g15278, [(.bool false), (.slice none 0 0)], 24), some (g15280, [(.bool false), (.slice none 0 0)], 24), some (g15629, [(.bool (g.1)), (g.2.2.2.2.1)], 24), some (g15634, [(.bool (g.2.2.1)), (g.2.2.2.2.2.1)], 24)] w' ∧ RepS (dI .u32) w' (g.2.2.2.2.2.2) (g.2.2.2.2.1) (g.2.1) ∧ RepS (dI .u32) w' (g.2.2.2.2.2.2) (g.2.2.2.2.2.1) (g.2.2.2.1)) ?_ ?_
      ·
        apply go
        apply go
        refine ev0 (rn_field rfl rfl FO24_0) ?_
        refine ev (rn_load rfl rfl (run_loadVar1 T4 (hp.cell (i := 3) (off := 0) rfl rfl))) ?_
        apply go
        refine sel_of (fun hc => ?_) (fun hc => ?_)
        ·
          have q15992 := cond_t q15992 hc
          apply go
          apply go
          refine ev (rn_load rfl rfl (run_loadVarA T24 rfl (hp.at_ (i := 3) rfl))) ?_
          obtain ⟨A15993, m15994, m15995, rfl⟩ := r15305.isSl
          refine ev0 (fun w => rn_build (cs := [(.bool false), (.slice A15993 m15994 m15995)]) rfl rfl T24 PL24 rfl) ?_
          obtain ⟨x15997, q15998, q15992⟩ := bind_some q15992
          refine ev_call rfl rfl C30 (((integer_Add_ok n) _ _  (Int_2.mk x15635 x15636) v15637 r15638 (Int_2.mk false x15300) (.slice A15993 m15994 m15995) r15305 hp.imm _ q15998).mono ?_)
          rintro _ w15999 ⟨I16000, v16001, hv, hq, r16002⟩
          replace hv := hv.symm
          subst hv
          have hs := hq.st
          have hp := hp.join0 hq
          replace a15277 := a15277.step hs
          replace r15265 := r15265.step hs
          replace r15633 := r15633.step hs
          replace r15638 := r15638.step hs
          refine ev_storeA hp (i := 3) (off := 0) (vs := [(.bool x15997.Neg), v16001]) rfl rfl rfl rfl T24 rfl (Nat.le_of_ble_eq_true rfl) (ones_cons rfl (ones_cons r16002.one ones_nil)) ?_
          intro w16003 hp hs
          replace a15277 := a15277.step hs
          replace r15265 := r15265.step hs
          replace r15633 := r15633.step hs
          replace r16002 := r16002.step hs
          apply go
          refine ev (rn_load rfl rfl (run_loadVarA T24 rfl (hp.at_ (i := 2) rfl))) ?_
          refine ev0 (rn_field rfl rfl FO24_0) ?_
          refine ev (rn_load rfl rfl (run_loadVar1 T4 (a15277.2 0 _ rfl))) ?_
          refine ev_litN (d := (dI .u32)) (xs := [1]) (cs := [(.int .u32 1)]) hp rfl rfl Tryz.underlying22 T45 (by decide) rfl rfl (Elems.cons (d := (dI .u32)) (xs := _) rfl (Elems.nil _ _ _ _)) ?_
          intro v16004 I16006 w16005 hp hs r16007
          replace r15633 := r15633.step hs
          replace r16002 := r16002.step hs
          obtain ⟨A16008, m16009, m16010, rfl⟩ := r16007.isSl
          refine ev0 (fun w => rn_build (cs := [(.bool (!x15263.Neg)), (.slice A16008 m16009 m16010)]) rfl rfl T24 PL24 rfl) ?_
          obtain ⟨x16012, q16013, q15992⟩ := bind_some q15992
          refine ev_call rfl rfl C30 (((integer_Add_ok n) _ _  (Int_2.mk x15630 x15631) v15632 r15633 (Int_2.mk (!x15263.Neg) [1]) (.slice A16008 m16009 m16010) r16007 hp.imm _ q16013).mono ?_)
          rintro _ w16014 ⟨I16015, v16016, hv, hq, r16017⟩
          replace hv := hv.symm
          subst hv
          have hs := hq.st
          have hp := hp.join0 hq
          replace r15633 := r15633.step hs
          replace r16002 := r16002.step hs
          refine ev_storeA hp (i := 2) (off := 0) (vs := [(.bool x16012.Neg), v16016]) rfl rfl rfl rfl T24 rfl (Nat.le_of_ble_eq_true rfl) (ones_cons rfl (ones_cons r16017.one ones_nil)) ?_
          intro w16018 hp hs
          replace r16017 := r16017.step hs
          replace r16002 := r16002.step hs
          obtain rfl := Option.some.inj q15992
          exact ⟨(x16012.Neg, x16012.Mag, x15997.Neg, x15997.Mag, v16016, v16001, I16015), (.c rfl (.c rfl (.c rfl (.c rfl .n)))), rfl, hp, r16017, r16002⟩
        ·
          have q15992 := cond_f q15992 hc
          apply go
          obtain rfl := Option.some.inj q15992
          exact ⟨(x15630, x15631, x15635, x15636, v15632, v15637, I15639), (.c rfl (.c rfl (.c rfl (.c rfl .n)))), rfl, hp, r15633, r15638⟩
      ·
        rintro ⟨x15981, x15982, x15985, x15986, v15983, v15987, I15989⟩ w15990 ⟨hy, hp, r15984, r15988⟩
        replace hy := hy.symm
        subst hy
        apply go
        have hs := hp.stp (Ch.drew [] w15990)
        have hp := hp.drew
        replace r15984 := r15984.step hs
        replace r15988 := r15988.step hs
        refine W.held [(0, true), (1, true), (2, false), (3, false), (4, true)] (fun x => Stp I15989 w15990.drew I15989 x ∧ OwnK [(g15629, [(.bool x15981), v15983], 24), (g15634, [(.bool x15985), v15987], 24)] x) MX (by kernel_rfl) ⟨Stp.refl _ _, (OwnK.cons (hp.own 2 _ _ _ rfl).1 (OwnK.cons (hp.own 3 _ _ _ rfl).1 OwnK.nil))⟩ ?_
        have hz := Stp.refl I15989 w15990.drew
        refine evh (fun w' hw => rn_load rfl rfl (run_loadVarA T24 rfl (hw.2.at_ (i := 0) rfl))) ?_
        refine evh (fun w' hw => rn_load rfl rfl (run_loadVarA T24 rfl (hw.2.at_ (i := 1) rfl))) ?_
        refine ev_storeA hp (i := 0) (off := 0) (vs := [(.bool x15981), v15983]) rfl rfl rfl rfl T24 rfl (Nat.le_of_ble_eq_true rfl) (ones_cons rfl (ones_cons r15984.one ones_nil)) ?_
        intro w16021 hp hs
        replace hz := hz.trans hs
        replace r15988 := r15988.step hs
        replace r15984 := r15984.step hs
        refine ⟨fun x => Stp I15989 w16021 I15989 x ∧ OwnK [(g15629, [(.bool x15981), v15983], 24), (g15634, [(.bool x15985), v15987], 24)] x, ⟨Stp.refl _ _, (OwnK.cons (hp.own 2 _ _ _ rfl).1 (OwnK.cons (hp.own 3 _ _ _ rfl).1 OwnK.nil))⟩, fun x hx => ⟨hz.held hx.1, hx.2⟩, ?_⟩
        have hz := Stp.refl I15989 w16021
        refine ev_storeA hp (i := 1) (off := 0) (vs := [(.bool x15985), v15987]) rfl rfl rfl rfl T24 rfl (Nat.le_of_ble_eq_true rfl) (ones_cons rfl (ones_cons r15988.one ones_nil)) ?_
        intro w16022 hp hs
        replace hz := hz.trans hs
        replace r15984 := r15984.step hs
        replace r15988 := r15988.step hs
        refine ⟨fun x => Stp I15989 w16022 I15989 x ∧ OwnK [(g15629, [(.bool x15981), v15983], 24), (g15634, [(.bool x15985), v15987], 24)] x, ⟨Stp.refl _ _, (OwnK.cons (hp.own 2 _ _ _ rfl).1 (OwnK.cons (hp.own 3 _ _ _ rfl).1 OwnK.nil))⟩, fun x hx => ⟨hz.held hx.1, hx.2⟩, ?_⟩
        have hz := Stp.refl I15989 w16022
        apply go
        obtain rfl := Option.some.inj h
        refine ⟨_, run_loadVarA T24 rfl (hp.at_ (i := 0) rfl), ?_⟩
        refine ⟨_, run_loadVarA T24 rfl (hp.at_ (i := 1) rfl), ?_⟩
        have hp := hp.sel [] (by decide)
        exact ⟨I15989, v15983, v15987, rfl, hp, r15984, r15988⟩

end Go.Proofs.YthhghkcopfnbiaaGreatDoor

namespace Go.Proofs.YthhghkcopfnbiaaGreatDoor
open Go Go.Proofs.YthhghkcopfnbiaaGreatDoor.Gw Go.RowKit
set_option linter.unusedVariables false
attribute [local irreducible] Ev EvQ EvS EvH
def integer_Abs_S (f : Int_2 → Option Int_2) : Prop := ∀ (w0 : World) (I0 : Nat → Prop) (x21616 : Int_2) (v21617 : Value) (r21618 : RepS (dI .u32) w0 I0 v21617 x21616.Mag) (hI : ∀ g, I0 g → g < w0.heap.size) (r : Int_2), f x21616 = some r →
    Ret Tryz.prog 32 #[(.agg #[(.bool x21616.Neg), v21617])] w0 fun v w1 => ∃ (I1 : Nat → Prop) (u21619 : Value), v = (.agg #[(.bool r.Neg), u21619]) ∧ Hp ⟨w0, I0, []⟩ I1 [] w1 ∧ RepS (dI .u32) w1 I1 u21619 r.Mag
theorem integer_Abs_ok (n : Nat) : integer_Abs_S (integer_Abs n) := by
  intro w0 I0 x21616 v21617 r21618 hI r h
  unfold integer_Abs at h
  refine enter Tryz.func32 rfl (Nat.le_of_ble_eq_true rfl) ?_
  have hp : Hp ⟨w0, I0, []⟩ I0 [] w0 := Hp.start hI
  apply go
  apply go
  refine ev_boxI hp rfl rfl ?_
  intro p21622 I21623 w21621 hp hs a21624
  replace r21618 := r21618.step hs
  refine ev_alloc hp rfl T24 ?_
  intro g21625 w21626 hp hs
  replace a21624 := a21624.step hs
  replace r21618 := r21618.step hs
  apply go
  apply go
  refine ev0 (rn_field rfl rfl FO24_1) ?_
  refine ev (rn_load rfl rfl (run_loadVar1 T22 (a21624.2 1 _ rfl))) ?_
  obtain ⟨x21627, q21628, h⟩ := bind_some h
  refine ev_call rfl rfl C46 (((integer_trim_ok n) _ _  x21616.Mag v21617 r21618 hp.imm _ q21628).mono ?_)
  rintro _ w21629 ⟨I21630, v21631, hv, hq, r21632⟩
  replace hv := hv.symm
  subst hv
  have hs := hq.st
  have hp := hp.join0 hq
  obtain ⟨x21633, q21634, h⟩ := bind_some h
  refine ev_call rfl rfl C56 (((slices_Cloneuint32_uint32__ok n) _ _  x21627 v21631 r21632 hp.imm _ q21634).mono ?_)
  rintro _ w21635 ⟨I21636, v21637, hv, hq, r21638⟩
  replace hv := hv.symm
  subst hv
  have hs := hq.st
  have hp := hp.join0 hq
  obtain ⟨x21639, q21640, h⟩ := bind_some h
  refine ev_call rfl rfl C49 (((integer_made_ok n) _ _  false x21633 v21637 r21638 hp.imm _ q21640).mono ?_)
  rintro _ w21641 ⟨I21642, v21643, hv, hq, r21644⟩
  replace hv := hv.symm
  subst hv
  have hs := hq.st
  have hp := hp.join0 hq
  refine ev_storeA hp (i := 0) (off := 0) (vs := [(.bool x21639.Neg), v21643]) rfl rfl rfl rfl T24 rfl (Nat.le_of_ble_eq_true rfl) (ones_cons rfl (ones_cons r21644.one ones_nil)) ?_
  intro w21645 hp hs
  replace r21644 := r21644.step hs
  apply go
  obtain rfl := Option.some.inj h
  refine ⟨_, run_loadVarA T24 rfl (hp.at_ (i := 0) rfl), ?_⟩
  have hp := hp.sel [] (by decide)
  exact ⟨I21642, v21643, rfl, hp, r21644⟩

end Go.Proofs.YthhghkcopfnbiaaGreatDoor

namespace Go.Proofs.YthhghkcopfnbiaaGreatDoor
open Go Go.Proofs.YthhghkcopfnbiaaGreatDoor.Gw Go.RowKit
set_option linter.unusedVariables false
attribute [local irreducible] Ev EvQ EvS EvH
def integer_Gcd_S (f : Int_2 → Int_2 → Option Int_2) : Prop := ∀ (w0 : World) (I0 : Nat → Prop) (x21821 : Int_2) (v21822 : Value) (r21823 : RepS (dI .u32) w0 I0 v21822 x21821.Mag) (x21824 : Int_2) (v21825 : Value) (r21826 : RepS (dI .u32) w0 I0 v21825 x21824.Mag) (hI : ∀ g, I0 g → g < w0.heap.size) (r : Int_2), f x21821 x21824 = some r →
    Ret Tryz.prog 20 #[(.agg #[(.bool x21821.Neg), v21822]), (.agg #[(.bool x21824.Neg), v21825])] w0 fun v w1 => ∃ (I1 : Nat → Prop) (u21827 : Value), v = (.agg #[(.bool r.Neg), u21827]) ∧ Hp ⟨w0, I0, []⟩ I1 [] w1 ∧ RepS (dI .u32) w1 I1 u21827 r.Mag
theorem integer_Gcd_ok (n : Nat) : integer_Gcd_S (integer_Gcd n) := by
  intro w0 I0 x21821 v21822 r21823 x21824 v21825 r21826 hI r h
  unfold integer_Gcd at h
  refine enter Tryz.func20 rfl (Nat.le_of_ble_eq_true rfl) ?_
  have hp : Hp ⟨w0, I0, []⟩ I0 [] w0 := Hp.start hI
  apply go
  apply go
  refine ev_boxI hp rfl rfl ?_
  intro p21830 I21831 w21829 hp hs a21832
  replace r21826 := r21826.step hs
  replace r21823 := r21823.step hs
  refine ev_boxI hp rfl rfl ?_
  intro p21835 I21836 w21834 hp hs a21837
  replace a21832 := a21832.step hs
  replace r21823 := r21823.step hs
  replace r21826 := r21826.step hs
  refine ev_alloc hp rfl T24 ?_
  intro g21838 w21839 hp hs
  replace a21832 := a21832.step hs
  replace r21823 := r21823.step hs
  replace a21837 := a21837.step hs
  replace r21826 := r21826.step hs
  obtain ⟨y22164, q22165, h⟩ := bind_some h
  refine W.cut (γ := (Bool × (List Int) × Bool × (List Int) × Nat × Value × Nat × Value × (Nat → Prop))) (fun g => [(4, (.pointer (some ⟨g21838, 0, none⟩))), (5, (.pointer (some ⟨(g.2.2.2.2.1), 0, none⟩))), (6, (.pointer (some ⟨(g.2.2.2.2.2.2.1), 0, none⟩)))]) (fun g w' => y22164 = ((g.1), (g.2.1), (g.2.2.1), (g.2.2.2.1)) ∧ Hp ⟨w0, I0, []⟩ (g.2.2.2.2.2.2.2.2) [some (g21838, [(.bool false), (.slice none 0 0)], 24), some ((g.2.2.2.2.1), [(.bool (g.1)), (g.2.2.2.2.2.1)], 24), some ((g.2.2.2.2.2.2.1), [(.bool (g.2.2.1)), (g.2.2.2.2.2.2.2.1)], 24)] w' ∧ RepS (dI .u32) w' (g.2.2.2.2.2.2.2.2) (g.2.2.2.2.2.1) (g.2.1) ∧ RepS (dI .u32) w' (g.2.2.2.2.2.2.2.2) (g.2.2.2.2.2.2.2.1) (g.2.2.2.1)) ?_ ?_
  ·
    have hs := hp.stp (Ch.drew [] w21839)
    have hp := hp.drew
    replace a21832 := a21832.step hs
    replace r21823 := r21823.step hs
    replace a21837 := a21837.step hs
    replace r21826 := r21826.step hs
    refine W.heldG (.q 0 (.q 2 (.l 1 (.l 3 (.l 4 (.l 5 (.l 6 (.l 7 .done .no) .no) .no) (.l 5 (.l 4 (.l 6 (.l 7 .done .no) .no) .no) .no)) (.l 4 (.l 3 (.l 5 (.l 6 (.l 7 .done .no) .no) .no) (.l 5 (.l 3 (.l 6 (.l 7 .done .no) .no) .no) .no)) (.l 5 (.l 3 (.l 4 (.l 6 (.l 7 .done .no) .no) .no) (.l 4 (.l 3 (.l 6 (.l 7 .done .no) .no) .no) .no)) .no))) (.l 4 (.l 1 (.l 3 (.l 5 (.l 6 (.l 7 .done .no) .no) .no) (.l 5 (.l 3 (.l 6 (.l 7 .done .no) .no) .no) .no)) (.l 5 (.l 1 (.l 3 (.l 6 (.l 7 .done .no) .no) .no) .no) .no)) (.l 5 (.l 1 (.l 3 (.l 4 (.l 6 (.l 7 .done .no) .no) .no) (.l 4 (.l 3 (.l 6 (.l 7 .done .no) .no) .no) .no)) (.l 4 (.l 1 (.l 3 (.l 6 (.l 7 .done .no) .no) .no) .no) .no)) .no))))) (SK (Stp I21836 w21839.drew I21836) [] []) MX (by kernel_rfl) ⟨Stp.refl _ _, kp_nil⟩ ?_
    have hz := Stp.refl I21836 w21839.drew
    refine ⟨SK.same (by kernel_rfl), ?_⟩
    refine evh (fun w' hw => rn_load rfl rfl (run_loadVarA T24 rfl (a21832.step (S0.si hw)))) ?_
    refine ⟨SK.same (by kernel_rfl), ?_⟩
    refine evh (fun w' hw => rn_load rfl rfl (run_loadVarA T24 rfl (a21837.step (S0.si hw)))) ?_
    refine ⟨?_, ?_⟩
    ·
      obtain ⟨x22322, q22323, q22165⟩ := bind_some q22165
      refine ev_call rfl rfl C32 (((integer_Abs_ok n) _ _  (Int_2.mk x21821.Neg x21821.Mag) v21822 r21823 hp.imm _ q22323).mono ?_)
      rintro _ w22324 ⟨I22325, v22326, hv, hq, r22327⟩
      replace hv := hv.symm
      subst hv
      have hs := hq.st
      have hp := hp.join0 hq
      replace hz := hz.trans hs
      replace r21826 := r21826.step hs
      refine ⟨SK (Stp I22325 w22324 I22325) [] [], ⟨Stp.refl _ _, kp_nil⟩, fun L x h => ⟨hz.held h.1, h.2⟩, ?_⟩
      have hz := Stp.refl I22325 w22324
      refine ⟨?_, ?_⟩
      ·
        obtain ⟨x22328, q22329, q22165⟩ := bind_some q22165
        refine ev_call rfl rfl C32 (((integer_Abs_ok n) _ _  (Int_2.mk x21824.Neg x21824.Mag) v21825 r21826 hp.imm _ q22329).mono ?_)
        rintro _ w22330 ⟨I22331, v22332, hv, hq, r22333⟩
        replace hv := hv.symm
        subst hv
        have hs := hq.st
        have hp := hp.join0 hq
        replace hz := hz.trans hs
        replace r22327 := r22327.step hs
        refine ⟨SK (Stp I22331 w22330 I22331) [] [], ⟨Stp.refl _ _, kp_nil⟩, fun L x h => ⟨hz.held h.1, h.2⟩, ?_⟩
        have hz := Stp.refl I22331 w22330
        refine ⟨?_, ?_⟩
        ·
          refine ev_alloc hp rfl T24 ?_
          intro g22334 w22335 hp hs
          replace hz := hz.trans hs
          replace r22327 := r22327.step hs
          replace r22333 := r22333.step hs
          refine ⟨SK (Stp I22331 w22335 I22331) [] [], ⟨Stp.refl _ _, kp_nil⟩, fun L x h => ⟨hz.held h.1, h.2⟩, ?_⟩
          have hz := Stp.refl I22331 w22335
          refine ⟨?_, trivial⟩
          refine ev_alloc hp rfl T24 ?_
          intro g22336 w22337 hp hs
          replace hz := hz.trans hs
          replace r22327 := r22327.step hs
          replace r22333 := r22333.step hs
          refine ⟨SK (Stp I22331 w22337 I22331) [] [], ⟨Stp.refl _ _, kp_nil⟩, fun L x h => ⟨hz.held h.1, h.2⟩, ?_⟩
          have hz := Stp.refl I22331 w22337
          refine ⟨?_, trivial⟩
          refine ev_storeA hp (i := 1) (off := 0) (vs := [(.bool x22322.Neg), v22326]) rfl rfl rfl rfl T24 rfl (Nat.le_of_ble_eq_true rfl) (ones_cons rfl (ones_cons r22327.one ones_nil)) ?_
          intro w22338 hp hs
          replace hz := hz.trans hs
          replace r22333 := r22333.step hs
          replace r22327 := r22327.step hs
          refine ⟨SK (Stp I22331 w22338 I22331) [] [], ⟨Stp.refl _ _, kp_nil⟩, fun L x h => ⟨hz.held h.1, h.2⟩, ?_⟩
          have hz := Stp.refl I22331 w22338
          refine ⟨?_, trivial⟩
          refine ev_storeA hp (i := 0) (off := 0) (vs := [(.bool x22328.Neg), v22332]) rfl rfl rfl rfl T24 rfl (Nat.le_of_ble_eq_true rfl) (ones_cons rfl (ones_cons r22333.one ones_nil)) ?_
          intro w22339 hp hs
          replace hz := hz.trans hs
          replace r22333 := r22333.step hs
          replace r22327 := r22327.step hs
          refine ⟨SK (Stp I22331 w22339 I22331) [] [], ⟨Stp.refl _ _, kp_nil⟩, fun L x h => ⟨hz.held h.1, h.2⟩, ?_⟩
          have hz := Stp.refl I22331 w22339
          obtain rfl := Option.some.inj q22165
          have hp := hp.perm [2, 1, 0] (by decide)
          exact ⟨(x22322.Neg, x22322.Mag, x22328.Neg, x22328.Mag, g22334, v22326, g22336, v22332, I22331), (.c rfl (.c rfl (.c rfl .n))), rfl, hp, r22327, r22333⟩
        refine ⟨?_, trivial⟩
        refine ev_alloc hp rfl T24 ?_
        intro g22340 w22341 hp hs
        replace hz := hz.trans hs
        replace r22327 := r22327.step hs
        replace r22333 := r22333.step hs
        refine ⟨SK (Stp I22331 w22341 I22331) [] [], ⟨Stp.refl _ _, kp_nil⟩, fun L x h => ⟨hz.held h.1, h.2⟩, ?_⟩
        have hz := Stp.refl I22331 w22341
        refine ⟨?_, trivial⟩
        refine ev_alloc hp rfl T24 ?_
        intro g22342 w22343 hp hs
        replace hz := hz.trans hs
        replace r22327 := r22327.step hs
        replace r22333 := r22333.step hs
        refine ⟨SK (Stp I22331 w22343 I22331) [] [], ⟨Stp.refl _ _, kp_nil⟩, fun L x h => ⟨hz.held h.1, h.2⟩, ?_⟩
        have hz := Stp.refl I22331 w22343
        refine ⟨?_, trivial⟩
        refine ev_storeA hp (i := 0) (off := 0) (vs := [(.bool x22322.Neg), v22326]) rfl rfl rfl rfl T24 rfl (Nat.le_of_ble_eq_true rfl) (ones_cons rfl (ones_cons r22327.one ones_nil)) ?_
        intro w22344 hp hs
        replace hz := hz.trans hs
        replace r22333 := r22333.step hs
        replace r22327 := r22327.step hs
        refine ⟨SK (Stp I22331 w22344 I22331) [] [], ⟨Stp.refl _ _, kp_nil⟩, fun L x h => ⟨hz.held h.1, h.2⟩, ?_⟩
        have hz := Stp.refl I22331 w22344
        refine ⟨?_, trivial⟩
        refine ev_storeA hp (i := 1) (off := 0) (vs := [(.bool x22328.Neg), v22332]) rfl rfl rfl rfl T24 rfl (Nat.le_of_ble_eq_true rfl) (ones_cons rfl (ones_cons r22333.one ones_nil)) ?_
        intro w22345 hp hs
        replace hz := hz.trans hs
        replace r22327 := r22327.step hs
        replace r22333 := r22333.step hs
        refine ⟨SK (Stp I22331 w22345 I22331) [] [], ⟨Stp.refl _ _, kp_nil⟩, fun L x h => ⟨hz.held h.1, h.2⟩, ?_⟩
        have hz := Stp.refl I22331 w22345
        obtain rfl := Option.some.inj q22165
        have hp := hp.perm [2, 0, 1] (by decide)
        exact ⟨(x22322.Neg, x22322.Mag, x22328.Neg, x22328.Mag, g22342, v22326, g22340, v22332, I22331), (.c rfl (.c rfl (.c rfl .n))), rfl, hp, r22327, r22333⟩
      refine ⟨?_, ?_⟩
      ·
        refine ev_alloc hp rfl T24 ?_
        intro g22346 w22347 hp hs
        replace hz := hz.trans hs
        replace r21826 := r21826.step hs
        replace r22327 := r22327.step hs
        refine ⟨SK (Stp I22325 w22347 I22325) [] [], ⟨Stp.refl _ _, kp_nil⟩, fun L x h => ⟨hz.held h.1, h.2⟩, ?_⟩
        have hz := Stp.refl I22325 w22347
        refine ⟨?_, ?_⟩
        ·
          obtain ⟨x22348, q22349, q22165⟩ := bind_some q22165
          refine ev_call rfl rfl C32 (((integer_Abs_ok n) _ _  (Int_2.mk x21824.Neg x21824.Mag) v21825 r21826 hp.imm _ q22349).mono ?_)
          rintro _ w22350 ⟨I22351, v22352, hv, hq, r22353⟩
          replace hv := hv.symm
          subst hv
          have hs := hq.st
          have hp := hp.join0 hq
          replace hz := hz.trans hs
          replace r22327 := r22327.step hs
          refine ⟨SK (Stp I22351 w22350 I22351) [] [], ⟨Stp.refl _ _, kp_nil⟩, fun L x h => ⟨hz.held h.1, h.2⟩, ?_⟩
          have hz := Stp.refl I22351 w22350
          refine ⟨?_, trivial⟩
          refine ev_alloc hp rfl T24 ?_
          intro g22354 w22355 hp hs
          replace hz := hz.trans hs
          replace r22327 := r22327.step hs
          replace r22353 := r22353.step hs
          refine ⟨SK (Stp I22351 w22355 I22351) [] [], ⟨Stp.refl _ _, kp_nil⟩, fun L x h => ⟨hz.held h.1, h.2⟩, ?_⟩
          have hz := Stp.refl I22351 w22355
          refine ⟨?_, trivial⟩
          refine ev_storeA hp (i := 1) (off := 0) (vs := [(.bool x22322.Neg), v22326]) rfl rfl rfl rfl T24 rfl (Nat.le_of_ble_eq_true rfl) (ones_cons rfl (ones_cons r22327.one ones_nil)) ?_
          intro w22356 hp hs
          replace hz := hz.trans hs
          replace r22353 := r22353.step hs
          replace r22327 := r22327.step hs
          refine ⟨SK (Stp I22351 w22356 I22351) [] [], ⟨Stp.refl _ _, kp_nil⟩, fun L x h => ⟨hz.held h.1, h.2⟩, ?_⟩
          have hz := Stp.refl I22351 w22356
          refine ⟨?_, trivial⟩
          refine ev_storeA hp (i := 0) (off := 0) (vs := [(.bool x22348.Neg), v22352]) rfl rfl rfl rfl T24 rfl (Nat.le_of_ble_eq_true rfl) (ones_cons rfl (ones_cons r22353.one ones_nil)) ?_
          intro w22357 hp hs
          replace hz := hz.trans hs
          replace r22353 := r22353.step hs
          replace r22327 := r22327.step hs
          refine ⟨SK (Stp I22351 w22357 I22351) [] [], ⟨Stp.refl _ _, kp_nil⟩, fun L x h => ⟨hz.held h.1, h.2⟩, ?_⟩
          have hz := Stp.refl I22351 w22357
          obtain rfl := Option.some.inj q22165
          have hp := hp.perm [2, 1, 0] (by decide)
          exact ⟨(x22322.Neg, x22322.Mag, x22348.Neg, x22348.Mag, g22346, v22326, g22354, v22352, I22351), (.c rfl (.c rfl (.c rfl .n))), rfl, hp, r22327, r22353⟩
        refine ⟨?_, trivial⟩
        refine ev_alloc hp rfl T24 ?_
        intro g22358 w22359 hp hs
        replace hz := hz.trans hs
        replace r21826 := r21826.step hs
        replace r22327 := r22327.step hs
        refine ⟨SK (Stp I22325 w22359 I22325) [] [], ⟨Stp.refl _ _, kp_nil⟩, fun L x h => ⟨hz.held h.1, h.2⟩, ?_⟩
        have hz := Stp.refl I22325 w22359
        refine ⟨?_, trivial⟩
        obtain ⟨x22360, q22361, q22165⟩ := bind_some q22165
        refine ev_call rfl rfl C32 (((integer_Abs_ok n) _ _  (Int_2.mk x21824.Neg x21824.Mag) v21825 r21826 hp.imm _ q22361).mono ?_)
        rintro _ w22362 ⟨I22363, v22364, hv, hq, r22365⟩
        replace hv := hv.symm
        subst hv
        have hs := hq.st
        have hp := hp.join0 hq
        replace hz := hz.trans hs
        replace r22327 := r22327.step hs
        refine ⟨SK (Stp I22363 w22362 I22363) [] [], ⟨Stp.refl _ _, kp_nil⟩, fun L x h => ⟨hz.held h.1, h.2⟩, ?_⟩
        have hz := Stp.refl I22363 w22362
        refine ⟨?_, trivial⟩
        refine ev_storeA hp (i := 1) (off := 0) (vs := [(.bool x22322.Neg), v22326]) rfl rfl rfl rfl T24 rfl (Nat.le_of_ble_eq_true rfl) (ones_cons rfl (ones_cons r22327.one ones_nil)) ?_
        intro w22366 hp hs
        replace hz := hz.trans hs
        replace r22365 := r22365.step hs
        replace r22327 := r22327.step hs
        refine ⟨SK (Stp I22363 w22366 I22363) [] [], ⟨Stp.refl _ _, kp_nil⟩, fun L x h => ⟨hz.held h.1, h.2⟩, ?_⟩
        have hz := Stp.refl I22363 w22366
        refine ⟨?_, trivial⟩
        refine ev_storeA hp (i := 0) (off := 0) (vs := [(.bool x22360.Neg), v22364]) rfl rfl rfl rfl T24 rfl (Nat.le_of_ble_eq_true rfl) (ones_cons rfl (ones_cons r22365.one ones_nil)) ?_
        intro w22367 hp hs
        replace hz := hz.trans hs
        replace r22365 := r22365.step hs
        replace r22327 := r22327.step hs
        refine ⟨SK (Stp I22363 w22367 I22363) [] [], ⟨Stp.refl _ _, kp_nil⟩, fun L x h => ⟨hz.held h.1, h.2⟩, ?_⟩
        have hz := Stp.refl I22363 w22367
        obtain rfl := Option.some.inj q22165
        have hp := hp.perm [2, 1, 0] (by decide)
        exact ⟨(x22322.Neg, x22322.Mag, x22360.Neg, x22360.Mag, g22346, v22326, g22358, v22364, I22363), (.c rfl (.c rfl (.c rfl .n))), rfl, hp, r22327, r22365⟩
      refine ⟨?_, trivial⟩
      refine ev_alloc hp rfl T24 ?_
      intro g22368 w22369 hp hs
      replace hz := hz.trans hs
      replace r21826 := r21826.step hs
      replace r22327 := r22327.step hs
      refine ⟨SK (Stp I22325 w22369 I22325) [] [], ⟨Stp.refl _ _, kp_nil⟩, fun L x h => ⟨hz.held h.1, h.2⟩, ?_⟩
      have hz := Stp.refl I22325 w22369
      refine ⟨?_, ?_⟩
      ·
        obtain ⟨x22370, q22371, q22165⟩ := bind_some q22165
        refine ev_call rfl rfl C32 (((integer_Abs_ok n) _ _  (Int_2.mk x21824.Neg x21824.Mag) v21825 r21826 hp.imm _ q22371).mono ?_)
        rintro _ w22372 ⟨I22373, v22374, hv, hq, r22375⟩
        replace hv := hv.symm
        subst hv
        have hs := hq.st
        have hp := hp.join0 hq
        replace hz := hz.trans hs
        replace r22327 := r22327.step hs
        refine ⟨SK (Stp I22373 w22372 I22373) [] [], ⟨Stp.refl _ _, kp_nil⟩, fun L x h => ⟨hz.held h.1, h.2⟩, ?_⟩
        have hz := Stp.refl I22373 w22372
        refine ⟨?_, trivial⟩
        refine ev_alloc hp rfl T24 ?_
        intro g22376 w22377 hp hs
        replace hz := hz.trans hs
        replace r22327 := r22327.step hs
        replace r22375 := r22375.step hs
        refine ⟨SK (Stp I22373 w22377 I22373) [] [], ⟨Stp.refl _ _, kp_nil⟩, fun L x h => ⟨hz.held h.1, h.2⟩, ?_⟩
        have hz := Stp.refl I22373 w22377
        refine ⟨?_, trivial⟩
        refine ev_storeA hp (i := 0) (off := 0) (vs := [(.bool x22322.Neg), v22326]) rfl rfl rfl rfl T24 rfl (Nat.le_of_ble_eq_true rfl) (ones_cons rfl (ones_cons r22327.one ones_nil)) ?_
        intro w22378 hp hs
        replace hz := hz.trans hs
        replace r22375 := r22375.step hs
        replace r22327 := r22327.step hs
        refine ⟨SK (Stp I22373 w22378 I22373) [] [], ⟨Stp.refl _ _, kp_nil⟩, fun L x h => ⟨hz.held h.1, h.2⟩, ?_⟩
        have hz := Stp.refl I22373 w22378
        refine ⟨?_, trivial⟩
        refine ev_storeA hp (i := 1) (off := 0) (vs := [(.bool x22370.Neg), v22374]) rfl rfl rfl rfl T24 rfl (Nat.le_of_ble_eq_true rfl) (ones_cons rfl (ones_cons r22375.one ones_nil)) ?_
        intro w22379 hp hs
        replace hz := hz.trans hs
        replace r22327 := r22327.step hs
        replace r22375 := r22375.step hs
        refine ⟨SK (Stp I22373 w22379 I22373) [] [], ⟨Stp.refl _ _, kp_nil⟩, fun L x h => ⟨hz.held h.1, h.2⟩, ?_⟩
        have hz := Stp.refl I22373 w22379
        obtain rfl := Option.some.inj q22165
        have hp := hp.perm [2, 0, 1] (by decide)
        exact ⟨(x22322.Neg, x22322.Mag, x22370.Neg, x22370.Mag, g22376, v22326, g22368, v22374, I22373), (.c rfl (.c rfl (.c rfl .n))), rfl, hp, r22327, r22375⟩
      refine ⟨?_, trivial⟩
      refine ev_alloc hp rfl T24 ?_
      intro g22380 w22381 hp hs
      replace hz := hz.trans hs
      replace r21826 := r21826.step hs
      replace r22327 := r22327.step hs
      refine ⟨SK (Stp I22325 w22381 I22325) [] [], ⟨Stp.refl _ _, kp_nil⟩, fun L x h => ⟨hz.held h.1, h.2⟩, ?_⟩
      have hz := Stp.refl I22325 w22381
      refine ⟨?_, trivial⟩
      obtain ⟨x22382, q22383, q22165⟩ := bind_some q22165
      refine ev_call rfl rfl C32 (((integer_Abs_ok n) _ _  (Int_2.mk x21824.Neg x21824.Mag) v21825 r21826 hp.imm _ q22383).mono ?_)
      rintro _ w22384 ⟨I22385, v22386, hv, hq, r22387⟩
      replace hv := hv.symm
      subst hv
      have hs := hq.st
      have hp := hp.join0 hq
      replace hz := hz.trans hs
      replace r22327 := r22327.step hs
      refine ⟨SK (Stp I22385 w22384 I22385) [] [], ⟨Stp.refl _ _, kp_nil⟩, fun L x h => ⟨hz.held h.1, h.2⟩, ?_⟩
      have hz := Stp.refl I22385 w22384
      refine ⟨?_, trivial⟩
      refine ev_storeA hp (i := 0) (off := 0) (vs := [(.bool x22322.Neg), v22326]) rfl rfl rfl rfl T24 rfl (Nat.le_of_ble_eq_true rfl) (ones_cons rfl (ones_cons r22327.one ones_nil)) ?_
      intro w22388 hp hs
      replace hz := hz.trans hs
      replace r22387 := r22387.step hs
      replace r22327 := r22327.step hs
      refine ⟨SK (Stp I22385 w22388 I22385) [] [], ⟨Stp.refl _ _, kp_nil⟩, fun L x h => ⟨hz.held h.1, h.2⟩, ?_⟩
      have hz := Stp.refl I22385 w22388
      refine ⟨?_, trivial⟩
      refine ev_storeA hp (i := 1) (off := 0) (vs := [(.bool x22382.Neg), v22386]) rfl rfl rfl rfl T24 rfl (Nat.le_of_ble_eq_true rfl) (ones_cons rfl (ones_cons r22387.one ones_nil)) ?_
      intro w22389 hp hs
      replace hz := hz.trans hs
      replace r22327 := r22327.step hs
      replace r22387 := r22387.step hs
      refine ⟨SK (Stp I22385 w22389 I22385) [] [], ⟨Stp.refl _ _, kp_nil⟩, fun L x h => ⟨hz.held h.1, h.2⟩, ?_⟩
      have hz := Stp.refl I22385 w22389
      obtain rfl := Option.some.inj q22165
      have hp := hp.perm [2, 0, 1] (by decide)
      exact ⟨(x22322.Neg, x22322.Mag, x22382.Neg, x22382.Mag, g22380, v22326, g22368, v22386, I22385), (.c rfl (.c rfl (.c rfl .n))), rfl, hp, r22327, r22387⟩
    refine ⟨?_, ?_⟩
    ·
      refine ev_alloc hp rfl T24 ?_
      intro g22390 w22391 hp hs
      replace hz := hz.trans hs
      replace r21823 := r21823.step hs
      replace r21826 := r21826.step hs
      refine ⟨SK (Stp I21836 w22391 I21836) [] [], ⟨Stp.refl _ _, kp_nil⟩, fun L x h => ⟨hz.held h.1, h.2⟩, ?_⟩
      have hz := Stp.refl I21836 w22391
      refine ⟨?_, ?_⟩
      ·
        obtain ⟨x22392, q22393, q22165⟩ := bind_some q22165
        refine ev_call rfl rfl C32 (((integer_Abs_ok n) _ _  (Int_2.mk x21821.Neg x21821.Mag) v21822 r21823 hp.imm _ q22393).mono ?_)
        rintro _ w22394 ⟨I22395, v22396, hv, hq, r22397⟩
        replace hv := hv.symm
        subst hv
        have hs := hq.st
        have hp := hp.join0 hq
        replace hz := hz.trans hs
        replace r21826 := r21826.step hs
        refine ⟨SK (Stp I22395 w22394 I22395) [] [], ⟨Stp.refl _ _, kp_nil⟩, fun L x h => ⟨hz.held h.1, h.2⟩, ?_⟩
        have hz := Stp.refl I22395 w22394
        refine ⟨?_, ?_⟩
        ·
          obtain ⟨x22398, q22399, q22165⟩ := bind_some q22165
          refine ev_call rfl rfl C32 (((integer_Abs_ok n) _ _  (Int_2.mk x21824.Neg x21824.Mag) v21825 r21826 hp.imm _ q22399).mono ?_)
          rintro _ w22400 ⟨I22401, v22402, hv, hq, r22403⟩
          replace hv := hv.symm
          subst hv
          have hs := hq.st
          have hp := hp.join0 hq
          replace hz := hz.trans hs
          replace r22397 := r22397.step hs
          refine ⟨SK (Stp I22401 w22400 I22401) [] [], ⟨Stp.refl _ _, kp_nil⟩, fun L x h => ⟨hz.held h.1, h.2⟩, ?_⟩
          have hz := Stp.refl I22401 w22400
          refine ⟨?_, trivial⟩
          refine ev_alloc hp rfl T24 ?_
          intro g22404 w22405 hp hs
          replace hz := hz.trans hs
          replace r22397 := r22397.step hs
          replace r22403 := r22403.step hs
          refine ⟨SK (Stp I22401 w22405 I22401) [] [], ⟨Stp.refl _ _, kp_nil⟩, fun L x h => ⟨hz.held h.1, h.2⟩, ?_⟩
          have hz := Stp.refl I22401 w22405
          refine ⟨?_, trivial⟩
          refine ev_storeA hp (i := 1) (off := 0) (vs := [(.bool x22392.Neg), v22396]) rfl rfl rfl rfl T24 rfl (Nat.le_of_ble_eq_true rfl) (ones_cons rfl (ones_cons r22397.one ones_nil)) ?_
          intro w22406 hp hs
          replace hz := hz.trans hs
          replace r22403 := r22403.step hs
          replace r22397 := r22397.step hs
          refine ⟨SK (Stp I22401 w22406 I22401) [] [], ⟨Stp.refl _ _, kp_nil⟩, fun L x h => ⟨hz.held h.1, h.2⟩, ?_⟩
          have hz := Stp.refl I22401 w22406
          refine ⟨?_, trivial⟩
          refine ev_storeA hp (i := 0) (off := 0) (vs := [(.bool x22398.Neg), v22402]) rfl rfl rfl rfl T24 rfl (Nat.le_of_ble_eq_true rfl) (ones_cons rfl (ones_cons r22403.one ones_nil)) ?_
          intro w22407 hp hs
          replace hz := hz.trans hs
          replace r22403 := r22403.step hs
          replace r22397 := r22397.step hs
          refine ⟨SK (Stp I22401 w22407 I22401) [] [], ⟨Stp.refl _ _, kp_nil⟩, fun L x h => ⟨hz.held h.1, h.2⟩, ?_⟩
          have hz := Stp.refl I22401 w22407
          obtain rfl := Option.some.inj q22165
          have hp := hp.perm [2, 1, 0] (by decide)
          exact ⟨(x22392.Neg, x22392.Mag, x22398.Neg, x22398.Mag, g22390, v22396, g22404, v22402, I22401), (.c rfl (.c rfl (.c rfl .n))), rfl, hp, r22397, r22403⟩
        refine ⟨?_, trivial⟩
        refine ev_alloc hp rfl T24 ?_
        intro g22408 w22409 hp hs
        replace hz := hz.trans hs
        replace r21826 := r21826.step hs
        replace r22397 := r22397.step hs
        refine ⟨SK (Stp I22395 w22409 I22395) [] [], ⟨Stp.refl _ _, kp_nil⟩, fun L x h => ⟨hz.held h.1, h.2⟩, ?_⟩
        have hz := Stp.refl I22395 w22409
        refine ⟨?_, trivial⟩
        obtain ⟨x22410, q22411, q22165⟩ := bind_some q22165
        refine ev_call rfl rfl C32 (((integer_Abs_ok n) _ _  (Int_2.mk x21824.Neg x21824.Mag) v21825 r21826 hp.imm _ q22411).mono ?_)
        rintro _ w22412 ⟨I22413, v22414, hv, hq, r22415⟩
        replace hv := hv.symm
        subst hv
        have hs := hq.st
        have hp := hp.join0 hq
        replace hz := hz.trans hs
        replace r22397 := r22397.step hs
        refine ⟨SK (Stp I22413 w22412 I22413) [] [], ⟨Stp.refl _ _, kp_nil⟩, fun L x h => ⟨hz.held h.1, h.2⟩, ?_⟩
        have hz := Stp.refl I22413 w22412
        refine ⟨?_, trivial⟩
        refine ev_storeA hp (i := 1) (off := 0) (vs := [(.bool x22392.Neg), v22396]) rfl rfl rfl rfl T24 rfl (Nat.le_of_ble_eq_true rfl) (ones_cons rfl (ones_cons r22397.one ones_nil)) ?_
        intro w22416 hp hs
        replace hz := hz.trans hs
        replace r22415 := r22415.step hs
        replace r22397 := r22397.step hs
        refine ⟨SK (Stp I22413 w22416 I22413) [] [], ⟨Stp.refl _ _, kp_nil⟩, fun L x h => ⟨hz.held h.1, h.2⟩, ?_⟩
        have hz := Stp.refl I22413 w22416
        refine ⟨?_, trivial⟩
        refine ev_storeA hp (i := 0) (off := 0) (vs := [(.bool x22410.Neg), v22414]) rfl rfl rfl rfl T24 rfl (Nat.le_of_ble_eq_true rfl) (ones_cons rfl (ones_cons r22415.one ones_nil)) ?_
        intro w22417 hp hs
        replace hz := hz.trans hs
        replace r22415 := r22415.step hs
        replace r22397 := r22397.step hs
        refine ⟨SK (Stp I22413 w22417 I22413) [] [], ⟨Stp.refl _ _, kp_nil⟩, fun L x h => ⟨hz.held h.1, h.2⟩, ?_⟩
        have hz := Stp.refl I22413 w22417
        obtain rfl := Option.some.inj q22165
        have hp := hp.perm [2, 1, 0] (by decide)
        exact ⟨(x22392.Neg, x22392.Mag, x22410.Neg, x22410.Mag, g22390, v22396, g22408, v22414, I22413), (.c rfl (.c rfl (.c rfl .n))), rfl, hp, r22397, r22415⟩
      refine ⟨?_, trivial⟩
      refine ev_alloc hp rfl T24 ?_
      intro g22418 w22419 hp hs
      replace hz := hz.trans hs
      replace r21823 := r21823.step hs
      replace r21826 := r21826.step hs
      refine ⟨SK (Stp I21836 w22419 I21836) [] [], ⟨Stp.refl _ _, kp_nil⟩, fun L x h => ⟨hz.held h.1, h.2⟩, ?_⟩
      have hz := Stp.refl I21836 w22419
      refine ⟨?_, trivial⟩
      obtain ⟨x22420, q22421, q22165⟩ := bind_some q22165
      refine ev_call rfl rfl C32 (((integer_Abs_ok n) _ _  (Int_2.mk x21821.Neg x21821.Mag) v21822 r21823 hp.imm _ q22421).mono ?_)
      rintro _ w22422 ⟨I22423, v22424, hv, hq, r22425⟩
      replace hv := hv.symm
      subst hv
      have hs := hq.st
      have hp := hp.join0 hq
      replace hz := hz.trans hs
      replace r21826 := r21826.step hs
      refine ⟨SK (Stp I22423 w22422 I22423) [] [], ⟨Stp.refl _ _, kp_nil⟩, fun L x h => ⟨hz.held h.1, h.2⟩, ?_⟩
      have hz := Stp.refl I22423 w22422
      refine ⟨?_, trivial⟩
      obtain ⟨x22426, q22427, q22165⟩ := bind_some q22165
      refine ev_call rfl rfl C32 (((integer_Abs_ok n) _ _  (Int_2.mk x21824.Neg x21824.Mag) v21825 r21826 hp.imm _ q22427).mono ?_)
      rintro _ w22428 ⟨I22429, v22430, hv, hq, r22431⟩
      replace hv := hv.symm
      subst hv
      have hs := hq.st
      have hp := hp.join0 hq
      replace hz := hz.trans hs
      replace r22425 := r22425.step hs
      refine ⟨SK (Stp I22429 w22428 I22429) [] [], ⟨Stp.refl _ _, kp_nil⟩, fun L x h => ⟨hz.held h.1, h.2⟩, ?_⟩
      have hz := Stp.refl I22429 w22428
      refine ⟨?_, trivial⟩
      refine ev_storeA hp (i := 1) (off := 0) (vs := [(.bool x22420.Neg), v22424]) rfl rfl rfl rfl T24 rfl (Nat.le_of_ble_eq_true rfl) (ones_cons rfl (ones_cons r22425.one ones_nil)) ?_
      intro w22432 hp hs
      replace hz := hz.trans hs
      replace r22431 := r22431.step hs
      replace r22425 := r22425.step hs
      refine ⟨SK (Stp I22429 w22432 I22429) [] [], ⟨Stp.refl _ _, kp_nil⟩, fun L x h => ⟨hz.held h.1, h.2⟩, ?_⟩
      have hz := Stp.refl I22429 w22432
      refine ⟨?_, trivial⟩
      refine ev_storeA hp (i := 0) (off := 0) (vs := [(.bool x22426.Neg), v22430]) rfl rfl rfl rfl T24 rfl (Nat.le_of_ble_eq_true rfl) (ones_cons rfl (ones_cons r22431.one ones_nil)) ?_
      intro w22433 hp hs
      replace hz := hz.trans hs
      replace r22431 := r22431.step hs
      replace r22425 := r22425.step hs
      refine ⟨SK (Stp I22429 w22433 I22429) [] [], ⟨Stp.refl _ _, kp_nil⟩, fun L x h => ⟨hz.held h.1, h.2⟩, ?_⟩
      have hz := Stp.refl I22429 w22433
      obtain rfl := Option.some.inj q22165
      have hp := hp.perm [2, 1, 0] (by decide)
      exact ⟨(x22420.Neg, x22420.Mag, x22426.Neg, x22426.Mag, g22390, v22424, g22418, v22430, I22429), (.c rfl (.c rfl (.c rfl .n))), rfl, hp, r22425, r22431⟩
    refine ⟨?_, trivial⟩
    refine ev_alloc hp rfl T24 ?_
    intro g22434 w22435 hp hs
    replace hz := hz.trans hs
    replace r21823 := r21823.step hs
    replace r21826 := r21826.step hs
    refine ⟨SK (Stp I21836 w22435 I21836) [] [], ⟨Stp.refl _ _, kp_nil⟩, fun L x h => ⟨hz.held h.1, h.2⟩, ?_⟩
    have hz := Stp.refl I21836 w22435
    refine ⟨?_, ?_⟩
    ·
      obtain ⟨x22436, q22437, q22165⟩ := bind_some q22165
      refine ev_call rfl rfl C32 (((integer_Abs_ok n) _ _  (Int_2.mk x21821.Neg x21821.Mag) v21822 r21823 hp.imm _ q22437).mono ?_)
      rintro _ w22438 ⟨I22439, v22440, hv, hq, r22441⟩
      replace hv := hv.symm
      subst hv
      have hs := hq.st
      have hp := hp.join0 hq
      replace hz := hz.trans hs
      replace r21826 := r21826.step hs
      refine ⟨SK (Stp I22439 w22438 I22439) [] [], ⟨Stp.refl _ _, kp_nil⟩, fun L x h => ⟨hz.held h.1, h.2⟩, ?_⟩
      have hz := Stp.refl I22439 w22438
      refine ⟨?_, ?_⟩
      ·
        obtain ⟨x22442, q22443, q22165⟩ := bind_some q22165
        refine ev_call rfl rfl C32 (((integer_Abs_ok n) _ _  (Int_2.mk x21824.Neg x21824.Mag) v21825 r21826 hp.imm _ q22443).mono ?_)
        rintro _ w22444 ⟨I22445, v22446, hv, hq, r22447⟩
        replace hv := hv.symm
        subst hv
        have hs := hq.st
        have hp := hp.join0 hq
        replace hz := hz.trans hs
        replace r22441 := r22441.step hs
        refine ⟨SK (Stp I22445 w22444 I22445) [] [], ⟨Stp.refl _ _, kp_nil⟩, fun L x h => ⟨hz.held h.1, h.2⟩, ?_⟩
        have hz := Stp.refl I22445 w22444
        refine ⟨?_, trivial⟩
        refine ev_alloc hp rfl T24 ?_
        intro g22448 w22449 hp hs
        replace hz := hz.trans hs
        replace r22441 := r22441.step hs
        replace r22447 := r22447.step hs
        refine ⟨SK (Stp I22445 w22449 I22445) [] [], ⟨Stp.refl _ _, kp_nil⟩, fun L x h => ⟨hz.held h.1, h.2⟩, ?_⟩
        have hz := Stp.refl I22445 w22449
        refine ⟨?_, trivial⟩
        refine ev_storeA hp (i := 0) (off := 0) (vs := [(.bool x22436.Neg), v22440]) rfl rfl rfl rfl T24 rfl (Nat.le_of_ble_eq_true rfl) (ones_cons rfl (ones_cons r22441.one ones_nil)) ?_
        intro w22450 hp hs
        replace hz := hz.trans hs
        replace r22447 := r22447.step hs
        replace r22441 := r22441.step hs
        refine ⟨SK (Stp I22445 w22450 I22445) [] [], ⟨Stp.refl _ _, kp_nil⟩, fun L x h => ⟨hz.held h.1, h.2⟩, ?_⟩
        have hz := Stp.refl I22445 w22450
        refine ⟨?_, trivial⟩
        refine ev_storeA hp (i := 1) (off := 0) (vs := [(.bool x22442.Neg), v22446]) rfl rfl rfl rfl T24 rfl (Nat.le_of_ble_eq_true rfl) (ones_cons rfl (ones_cons r22447.one ones_nil)) ?_
        intro w22451 hp hs
        replace hz := hz.trans hs
        replace r22441 := r22441.step hs
        replace r22447 := r22447.step hs
        refine ⟨SK (Stp I22445 w22451 I22445) [] [], ⟨Stp.refl _ _, kp_nil⟩, fun L x h => ⟨hz.held h.1, h.2⟩, ?_⟩
        have hz := Stp.refl I22445 w22451
        obtain rfl := Option.some.inj q22165
        have hp := hp.perm [2, 0, 1] (by decide)
        exact ⟨(x22436.Neg, x22436.Mag, x22442.Neg, x22442.Mag, g22448, v22440, g22434, v22446, I22445), (.c rfl (.c rfl (.c rfl .n))), rfl, hp, r22441, r22447⟩
      refine ⟨?_, trivial⟩
      refine ev_alloc hp rfl T24 ?_
      intro g22452 w22453 hp hs
      replace hz := hz.trans hs
      replace r21826 := r21826.step hs
      replace r22441 := r22441.step hs
      refine ⟨SK (Stp I22439 w22453 I22439) [] [], ⟨Stp.refl _ _, kp_nil⟩, fun L x h => ⟨hz.held h.1, h.2⟩, ?_⟩
      have hz := Stp.refl I22439 w22453
      refine ⟨?_, trivial⟩
      obtain ⟨x22454, q22455, q22165⟩ := bind_some q22165
      refine ev_call rfl rfl C32 (((integer_Abs_ok n) _ _  (Int_2.mk x21824.Neg x21824.Mag) v21825 r21826 hp.imm _ q22455).mono ?_)
      rintro _ w22456 ⟨I22457, v22458, hv, hq, r22459⟩
      replace hv := hv.symm
      subst hv
      have hs := hq.st
      have hp := hp.join0 hq
      replace hz := hz.trans hs
      replace r22441 := r22441.step hs
      refine ⟨SK (Stp I22457 w22456 I22457) [] [], ⟨Stp.refl _ _, kp_nil⟩, fun L x h => ⟨hz.held h.1, h.2⟩, ?_⟩
      have hz := Stp.refl I22457 w22456
      refine ⟨?_, trivial⟩
      refine ev_storeA hp (i := 0) (off := 0) (vs := [(.bool x22436.Neg), v22440]) rfl rfl rfl rfl T24 rfl (Nat.le_of_ble_eq_true rfl) (ones_cons rfl (ones_cons r22441.one ones_nil)) ?_
      intro w22460 hp hs
      replace hz := hz.trans hs
      replace r22459 := r22459.step hs
      replace r22441 := r22441.step hs
      refine ⟨SK (Stp I22457 w22460 I22457) [] [], ⟨Stp.refl _ _, kp_nil⟩, fun L x h => ⟨hz.held h.1, h.2⟩, ?_⟩
      have hz := Stp.refl I22457 w22460
      refine ⟨?_, trivial⟩
      refine ev_storeA hp (i := 1) (off := 0) (vs := [(.bool x22454.Neg), v22458]) rfl rfl rfl rfl T24 rfl (Nat.le_of_ble_eq_true rfl) (ones_cons rfl (ones_cons r22459.one ones_nil)) ?_
      intro w22461 hp hs
      replace hz := hz.trans hs
      replace r22441 := r22441.step hs
      replace r22459 := r22459.step hs
      refine ⟨SK (Stp I22457 w22461 I22457) [] [], ⟨Stp.refl _ _, kp_nil⟩, fun L x h => ⟨hz.held h.1, h.2⟩, ?_⟩
      have hz := Stp.refl I22457 w22461
      obtain rfl := Option.some.inj q22165
      have hp := hp.perm [2, 0, 1] (by decide)
      exact ⟨(x22436.Neg, x22436.Mag, x22454.Neg, x22454.Mag, g22452, v22440, g22434, v22458, I22457), (.c rfl (.c rfl (.c rfl .n))), rfl, hp, r22441, r22459⟩
    refine ⟨?_, trivial⟩
    refine ev_alloc hp rfl T24 ?_
    intro g22462 w22463 hp hs
    replace hz := hz.trans hs
    replace r21823 := r21823.step hs
    replace r21826 := r21826.step hs
    refine ⟨SK (Stp I21836 w22463 I21836) [] [], ⟨Stp.refl _ _, kp_nil⟩, fun L x h => ⟨hz.held h.1, h.2⟩, ?_⟩
    have hz := Stp.refl I21836 w22463
    refine ⟨?_, trivial⟩
    obtain ⟨x22464, q22465, q22165⟩ := bind_some q22165
    refine ev_call rfl rfl C32 (((integer_Abs_ok n) _ _  (Int_2.mk x21821.Neg x21821.Mag) v21822 r21823 hp.imm _ q22465).mono ?_)
    rintro _ w22466 ⟨I22467, v22468, hv, hq, r22469⟩
    replace hv := hv.symm
    subst hv
    have hs := hq.st
    have hp := hp.join0 hq
    replace hz := hz.trans hs
    replace r21826 := r21826.step hs
    refine ⟨SK (Stp I22467 w22466 I22467) [] [], ⟨Stp.refl _ _, kp_nil⟩, fun L x h => ⟨hz.held h.1, h.2⟩, ?_⟩
    have hz := Stp.refl I22467 w22466
    refine ⟨?_, trivial⟩
    obtain ⟨x22470, q22471, q22165⟩ := bind_some q22165
    refine ev_call rfl rfl C32 (((integer_Abs_ok n) _ _  (Int_2.mk x21824.Neg x21824.Mag) v21825 r21826 hp.imm _ q22471).mono ?_)
    rintro _ w22472 ⟨I22473, v22474, hv, hq, r22475⟩
    replace hv := hv.symm
    subst hv
    have hs := hq.st
    have hp := hp.join0 hq
    replace hz := hz.trans hs
    replace r22469 := r22469.step hs
    refine ⟨SK (Stp I22473 w22472 I22473) [] [], ⟨Stp.refl _ _, kp_nil⟩, fun L x h => ⟨hz.held h.1, h.2⟩, ?_⟩
    have hz := Stp.refl I22473 w22472
    refine ⟨?_, trivial⟩
    refine ev_storeA hp (i := 0) (off := 0) (vs := [(.bool x22464.Neg), v22468]) rfl rfl rfl rfl T24 rfl (Nat.le_of_ble_eq_true rfl) (ones_cons rfl (ones_cons r22469.one ones_nil)) ?_
    intro w22476 hp hs
    replace hz := hz.trans hs
    replace r22475 := r22475.step hs
    replace r22469 := r22469.step hs
    refine ⟨SK (Stp I22473 w22476 I22473) [] [], ⟨Stp.refl _ _, kp_nil⟩, fun L x h => ⟨hz.held h.1, h.2⟩, ?_⟩
    have hz := Stp.refl I22473 w22476
    refine ⟨?_, trivial⟩
    refine ev_storeA hp (i := 1) (off := 0) (vs := [(.bool x22470.Neg), v22474]) rfl rfl rfl rfl T24 rfl (Nat.le_of_ble_eq_true rfl) (ones_cons rfl (ones_cons r22475.one ones_nil)) ?_
    intro w22477 hp hs
    replace hz := hz.trans hs
    replace r22469 := r22469.step hs
    replace r22475 := r22475.step hs
    refine ⟨SK (Stp I22473 w22477 I22473) [] [], ⟨Stp.refl _ _, kp_nil⟩, fun L x h => ⟨hz.held h.1, h.2⟩, ?_⟩
    have hz := Stp.refl I22473 w22477
    obtain rfl := Option.some.inj q22165
    have hp := hp.perm [2, 0, 1] (by decide)
    exact ⟨(x22464.Neg, x22464.Mag, x22470.Neg, x22470.Mag, g22462, v22468, g22434, v22474, I22473), (.c rfl (.c rfl (.c rfl .n))), rfl, hp, r22469, r22475⟩
  ·
    rintro ⟨x22153, x22154, x22158, x22159, g22152, v22155, g22157, v22160, I22162⟩ w22163 ⟨hy, hp, r22156, r22161⟩
    replace hy := hy.symm
    subst hy
    obtain ⟨y22567, q22568, h⟩ := bind_some h
    refine W.cut (γ := (Bool × (List Int) × Value × (Nat → Prop))) (fun g => [(4, (.pointer (some ⟨g21838, 0, none⟩))), (5, (.pointer (some ⟨g22152, 0, none⟩)))]) (fun g w' => y22567 = ((g.1), (g.2.1)) ∧ Hp ⟨w0, I0, []⟩ (g.2.2.2) [some (g21838, [(.bool false), (.slice none 0 0)], 24), some (g22152, [(.bool (g.1)), (g.2.2.1)], 24)] w' ∧ RepS (dI .u32) w' (g.2.2.2) (g.2.2.1) (g.2.1)) ?_ ?_
    ·
      apply go
      refine W.loop q22568 (γ := (Value × Value × (Nat → Prop))) (fun s g => [(4, (.pointer (some ⟨g21838, 0, none⟩))), (5, (.pointer (some ⟨g22152, 0, none⟩))), (6, (.pointer (some ⟨g22157, 0, none⟩)))]) (fun s g w' => Hp ⟨w0, I0, []⟩ (g.2.2) [some (g21838, [(.bool false), (.slice none 0 0)], 24), some (g22152, [(.bool (s.1)), (g.1)], 24), some (g22157, [(.bool (s.2.2.1)), (g.2.1)], 24)] w' ∧ RepS (dI .u32) w' (g.2.2) (g.1) (s.2.1) ∧ RepS (dI .u32) w' (g.2.2) (g.2.1) (s.2.2.2)) (v22155, v22160, I22162) (.c rfl (.c rfl (.c rfl .n))) ⟨hp, r22156, r22161⟩ ?_
      rintro ⟨x22589, x22590, x22593, x22594⟩ ⟨v22591, v22595, I22597⟩ w22627 y22628 ⟨hp, r22592, r22596⟩ q22629 q22630
      unfold integer_Gcd_L1 at q22629
      apply go
      apply go
      apply go
      refine ev0 (rn_field rfl rfl FO24_1) ?_
      refine ev (rn_load rfl rfl (run_loadVar1 T22 (hp.cell (i := 2) (off := 1) rfl rfl))) ?_
      refine ev0 (rn_len rfl rfl Tryz.underlying22 r22596) ?_
      apply go
      refine sel_of (fun hc => ?_) (fun hc => ?_)
      ·
        have q22629 := cond_t q22629 hc
        apply go
        apply go
        apply go
        apply go
        refine ev (rn_load rfl rfl (run_loadVarA T24 rfl (hp.at_ (i := 1) rfl))) ?_
        refine ev (rn_load rfl rfl (run_loadVarA T24 rfl (hp.at_ (i := 2) rfl))) ?_
        obtain ⟨⟨x22631, x22632, x22633⟩, q22634, q22629⟩ := bind_some q22629
        refine ev_call rfl rfl C24 (((integer_DivMod_ok n) _ _  (Int_2.mk x22589 x22590) v22591 r22592 (Int_2.mk x22593 x22594) v22595 r22596 hp.imm _ q22634).mono ?_)
        rintro _ w22635 ⟨I22636, v22637, v22639, hv, hq, r22638, r22640⟩
        replace hv := hv.symm
        subst hv
        have hs := hq.st
        have hp := hp.join0 hq
        replace r22592 := r22592.step hs
        replace r22596 := r22596.step hs
        refine ev_alloc hp rfl T24 ?_
        intro g22641 w22642 hp hs
        replace r22638 := r22638.step hs
        replace r22640 := r22640.step hs
        replace r22592 := r22592.step hs
        replace r22596 := r22596.step hs
        refine ev_alloc hp rfl T24 ?_
        intro g22643 w22644 hp hs
        replace r22638 := r22638.step hs
        replace r22640 := r22640.step hs
        replace r22592 := r22592.step hs
        replace r22596 := r22596.step hs
        refine ev_storeA hp (i := 1) (off := 0) (vs := [(.bool x22631.Neg), v22637]) rfl rfl rfl rfl T24 rfl (Nat.le_of_ble_eq_true rfl) (ones_cons rfl (ones_cons r22638.one ones_nil)) ?_
        intro w22645 hp hs
        replace r22640 := r22640.step hs
        replace r22638 := r22638.step hs
        replace r22592 := r22592.step hs
        replace r22596 := r22596.step hs
        refine ev_storeA hp (i := 0) (off := 0) (vs := [(.bool x22632.Neg), v22639]) rfl rfl rfl rfl T24 rfl (Nat.le_of_ble_eq_true rfl) (ones_cons rfl (ones_cons r22640.one ones_nil)) ?_
        intro w22646 hp hs
        replace r22640 := r22640.step hs
        replace r22638 := r22638.step hs
        replace r22592 := r22592.step hs
        replace r22596 := r22596.step hs
        have hs := hp.stp (Ch.drew [] w22646)
        have hp := hp.drew
        replace r22640 := r22640.step hs
        replace r22638 := r22638.step hs
        replace r22592 := r22592.step hs
        replace r22596 := r22596.step hs
        refine W.held [(1, true), (0, false), (2, false), (3, false)] (fun x => Stp I22636 w22646.drew I22636 x ∧ OwnK [(g22643, [(.bool x22632.Neg), v22639], 24)] x) MX (by kernel_rfl) ⟨Stp.refl _ _, (OwnK.cons (hp.own 0 _ _ _ rfl).1 OwnK.nil)⟩ ?_
        have hz := Stp.refl I22636 w22646.drew
        refine evh (fun w' hw => rn_load rfl rfl (run_loadVarA T24 rfl (hw.2.at_ (i := 0) rfl))) ?_
        refine ev (rn_load rfl rfl (run_loadVarA T24 rfl (hp.at_ (i := 4) rfl))) ?_
        refine ⟨fun x => Stp I22636 w22646.drew I22636 x ∧ OwnK [(g22643, [(.bool x22632.Neg), v22639], 24)] x, ⟨Stp.refl _ _, (OwnK.cons (hp.own 0 _ _ _ rfl).1 OwnK.nil)⟩, fun x hx => ⟨hz.held hx.1, hx.2⟩, ?_⟩
        have hz := Stp.refl I22636 w22646.drew
        refine ev_storeA hp (i := 3) (off := 0) (vs := [(.bool x22593), v22595]) rfl rfl rfl rfl T24 rfl (Nat.le_of_ble_eq_true rfl) (ones_cons rfl (ones_cons r22596.one ones_nil)) ?_
        intro w22649 hp hs
        replace hz := hz.trans hs
        replace r22640 := r22640.step hs
        replace r22638 := r22638.step hs
        replace r22596 := r22596.step hs
        refine ⟨fun x => Stp I22636 w22649 I22636 x ∧ OwnK [(g22643, [(.bool x22632.Neg), v22639], 24)] x, ⟨Stp.refl _ _, (OwnK.cons (hp.own 0 _ _ _ rfl).1 OwnK.nil)⟩, fun x hx => ⟨hz.held hx.1, hx.2⟩, ?_⟩
        have hz := Stp.refl I22636 w22649
        refine ev_storeA hp (i := 4) (off := 0) (vs := [(.bool x22632.Neg), v22639]) rfl rfl rfl rfl T24 rfl (Nat.le_of_ble_eq_true rfl) (ones_cons rfl (ones_cons r22640.one ones_nil)) ?_
        intro w22650 hp hs
        replace hz := hz.trans hs
        replace r22640 := r22640.step hs
        replace r22638 := r22638.step hs
        replace r22596 := r22596.step hs
        refine ⟨fun x => Stp I22636 w22650 I22636 x ∧ OwnK [(g22643, [(.bool x22632.Neg), v22639], 24)] x, ⟨Stp.refl _ _, (OwnK.cons (hp.own 0 _ _ _ rfl).1 OwnK.nil)⟩, fun x hx => ⟨hz.held hx.1, hx.2⟩, ?_⟩
        have hz := Stp.refl I22636 w22650
        have hp := hp.sel [2, 3, 4] (by decide)
        exact ⟨_, (Option.some.inj q22629).symm, (v22595, v22639, I22636), (.c rfl (.c rfl (.c rfl .n))), ⟨hp, r22596, r22640⟩⟩
      ·
        have q22629 := cond_f q22629 hc
        apply go
        have q22651 := congrArg some (q22630 _ (Option.some.inj q22629).symm)
        obtain rfl := Option.some.inj q22651
        have hp := hp.sel [0, 1] (by decide)
        exact ⟨(x22589, x22590, v22591, I22597), (.c rfl (.c rfl .n)), rfl, hp, r22592⟩
    ·
      rintro ⟨x22561, x22562, v22563, I22565⟩ w22566 ⟨hy, hp, r22564⟩
      replace hy := hy.symm
      subst hy
      apply go
      apply go
      refine ev (rn_load rfl rfl (run_loadVarA T24 rfl (hp.at_ (i := 1) rfl))) ?_
      refine ev_storeA hp (i := 0) (off := 0) (vs := [(.bool x22561), v22563]) rfl rfl rfl rfl T24 rfl (Nat.le_of_ble_eq_true rfl) (ones_cons rfl (ones_cons r22564.one ones_nil)) ?_
      intro w22652 hp hs
      replace r22564 := r22564.step hs
      apply go
      obtain rfl := Option.some.inj h
      refine ⟨_, run_loadVarA T24 rfl (hp.at_ (i := 0) rfl), ?_⟩
      have hp := hp.sel [] (by decide)
      exact ⟨I22565, v22563, rfl, hp, r22564⟩

end Go.Proofs.YthhghkcopfnbiaaGreatDoor

namespace Go.Proofs.YthhghkcopfnbiaaGreatDoor
open Go Go.Proofs.YthhghkcopfnbiaaGreatDoor.Gw Go.RowKit
set_option linter.unusedVariables false
attribute [local irreducible] Ev EvQ EvS EvH
def ref01_Same_S (f : Int_2 → Int_2 → Option Bool) : Prop := ∀ (w0 : World) (I0 : Nat → Prop) (x20093 : Int_2) (v20094 : Value) (r20095 : RepS (dI .u32) w0 I0 v20094 x20093.Mag) (x20096 : Int_2) (v20097 : Value) (r20098 : RepS (dI .u32) w0 I0 v20097 x20096.Mag) (hI : ∀ g, I0 g → g < w0.heap.size) (r : Bool), f x20093 x20096 = some r →
    Ret Tryz.prog 21 #[(.agg #[(.bool x20093.Neg), v20094]), (.agg #[(.bool x20096.Neg), v20097])] w0 fun v w1 => v = (.bool r) ∧ Ch [] w0 w1
theorem ref01_Same_ok (n : Nat) : ref01_Same_S (ref01_Same n) := by
  intro w0 I0 x20093 v20094 r20095 x20096 v20097 r20098 hI r h
  unfold ref01_Same at h
  refine enter Tryz.func21 rfl (Nat.le_of_ble_eq_true rfl) ?_
  have hp : Hp ⟨w0, I0, []⟩ I0 [] w0 := Hp.start hI
  apply go
  apply go
  refine ev_boxI hp rfl rfl ?_
  intro p20101 I20102 w20100 hp hs a20103
  replace r20098 := r20098.step hs
  replace r20095 := r20095.step hs
  refine ev_boxI hp rfl rfl ?_
  intro p20106 I20107 w20105 hp hs a20108
  replace a20103 := a20103.step hs
  replace r20095 := r20095.step hs
  replace r20098 := r20098.step hs
  apply go
  obtain ⟨y20110, q20111, h⟩ := bind_some h
  refine W.cut (γ := Bool) (fun g => [(2, (.pointer (some (p20101)))), (3, (.pointer (some (p20106)))), (19, (.bool (g)))]) (fun g w' => y20110 = (g) ∧ w20105 = w') ?_ ?_
  ·
    apply go
    refine ev0 (rn_field rfl rfl FO24_0) ?_
    refine ev (rn_load rfl rfl (run_loadVar1 T4 (a20103.2 0 _ rfl))) ?_
    refine ev0 (rn_field rfl rfl FO24_0) ?_
    refine ev (rn_load rfl rfl (run_loadVar1 T4 (a20108.2 0 _ rfl))) ?_
    refine ev0 (rn_neB rfl rfl rfl Tryz.underlying4) ?_
    refine sel_of (fun hc => ?_) (fun hc => ?_)
    ·
      have q20111 := cond_t q20111 hc
      obtain rfl := Option.some.inj q20111
      exact ⟨true, (.c rfl (.c rfl (.c rfl .n))), rfl, rfl⟩
    ·
      have q20111 := cond_f q20111 hc
      refine ev0 (rn_field rfl rfl FO24_1) ?_
      refine ev (rn_load rfl rfl (run_loadVar1 T22 (a20103.2 1 _ rfl))) ?_
      refine ev0 (rn_len rfl rfl Tryz.underlying22 r20095) ?_
      refine ev0 (rn_field rfl rfl FO24_1) ?_
      refine ev (rn_load rfl rfl (run_loadVar1 T22 (a20108.2 1 _ rfl))) ?_
      refine ev0 (rn_len rfl rfl Tryz.underlying22 r20098) ?_
      obtain rfl := Option.some.inj q20111
      exact ⟨((x20093.Mag.length : Int) != (x20096.Mag.length : Int)), (.c rfl (.c rfl (.c rfl .n))), rfl, rfl⟩
  ·
    rintro x20109 _ ⟨hy, rfl⟩
    replace hy := hy.symm
    subst hy
    apply go
    refine sel_of (fun hc => ?_) (fun hc => ?_)
    ·
      have h := cond_t h hc
      apply go
      apply go
      apply go
      obtain rfl := Option.some.inj h
      exact ⟨rfl, hp.ch⟩
    ·
      have h := cond_f h hc
      apply go
      obtain ⟨y20160, q20161, h⟩ := bind_some h
      refine W.cut (γ := Unit) (fun _ => []) (fun _ w' => y20160 = .go () ∧ Hp ⟨w0, I0, []⟩ I20107 [] w') ?_ ?_
      ·
        apply go
        apply go
        apply go
        refine W.loop q20161 (γ := Unit) (fun s _ => [(2, (.pointer (some (p20101)))), (3, (.pointer (some (p20106)))), (5, (.int .i64 (s)))]) (fun s _ w' => Hp ⟨w0, I0, []⟩ I20107 [] w' ∧ RepS (dI .u32) w' I20107 v20094 x20093.Mag ∧ At w' I20107 p20101 [(.bool x20093.Neg), v20094] ∧ RepS (dI .u32) w' I20107 v20097 x20096.Mag ∧ At w' I20107 p20106 [(.bool x20096.Neg), v20097]) () (.c rfl (.c rfl (.c rfl .n))) ⟨hp, r20095, a20103, r20098, a20108⟩ ?_
        rintro x20175 ⟨⟩ w20190 y20191 ⟨hp, r20095, a20103, r20098, a20108⟩ q20192 q20193
        unfold ref01_Same_L1 at q20192
        apply go
        apply go
        apply go
        refine ev0 (rn_field rfl rfl FO24_1) ?_
        refine ev (rn_load rfl rfl (run_loadVar1 T22 (a20103.2 1 _ rfl))) ?_
        refine ev0 (rn_len rfl rfl Tryz.underlying22 r20095) ?_
        apply go
        refine sel_of (fun hc => ?_) (fun hc => ?_)
        ·
          have q20192 := cond_t q20192 hc
          apply go
          apply go
          apply go
          apply go
          refine W.quiet (fun w' => Ch [] w20190 w') MX (by kernel_rfl) (Ch.drew [] w20190) ?_
          refine evq0 (rn_field rfl rfl FO24_1) ?_
          refine evq (fun w' hw => rn_load rfl rfl (run_loadVar1 T22 ((a20103.step (hp.stp hw)).2 1 _ rfl))) ?_
          obtain ⟨x20194, q20195, q20192⟩ := bind_some q20192
          refine evq_index rfl rfl rfl Tryz.underlying22 T45 r20095 q20195 ?_
          intro p20196 c20197 d20198 a20199
          obtain rfl : c20197 = [(.int .u32 x20194)] := d20198
          refine evq (fun w' hw => rn_load rfl rfl (run_loadVar1 T45 ((a20199.step (hp.stp hw)).2 0 _ rfl))) ?_
          refine evq0 (rn_field rfl rfl FO24_1) ?_
          refine evq (fun w' hw => rn_load rfl rfl (run_loadVar1 T22 ((a20108.step (hp.stp hw)).2 1 _ rfl))) ?_
          obtain ⟨x20200, q20201, q20192⟩ := bind_some q20192
          refine evq_index rfl rfl rfl Tryz.underlying22 T45 r20098 q20201 ?_
          intro p20202 c20203 d20204 a20205
          obtain rfl : c20203 = [(.int .u32 x20200)] := d20204
          refine evq (fun w' hw => rn_load rfl rfl (run_loadVar1 T45 ((a20205.step (hp.stp hw)).2 0 _ rfl))) ?_
          intro w20206 hc
          have hs := hp.stp hc
          replace hp := hp.ext hc
          replace a20103 := a20103.step hs
          replace r20095 := r20095.step hs
          replace a20108 := a20108.step hs
          replace r20098 := r20098.step hs
          apply go
          refine sel_of (fun hc => ?_) (fun hc => ?_)
          ·
            have q20192 := cond_t q20192 hc
            apply go
            apply go
            apply go
            have q20207 := congrArg some (q20193 _ (Option.some.inj q20192).symm)
            obtain rfl := Option.some.inj q20207
            obtain rfl := Option.some.inj h
            exact ⟨rfl, hp.ch⟩
          ·
            have q20192 := cond_f q20192 hc
            apply go
            apply go
            exact ⟨_, (Option.some.inj q20192).symm, (), (.c rfl (.c rfl (.c rfl .n))), ⟨hp, r20095, a20103, r20098, a20108⟩⟩
        ·
          have q20192 := cond_f q20192 hc
          apply go
          have q20208 := congrArg some (q20193 _ (Option.some.inj q20192).symm)
          obtain rfl := Option.some.inj q20208
          exact ⟨(), .n, rfl, hp⟩
      ·
        rintro ⟨⟩ w20159 ⟨hy, hp⟩
        replace hy := hy.symm
        subst hy
        apply go
        apply go
        apply go
        obtain rfl := Option.some.inj h
        exact ⟨rfl, hp.ch⟩

end Go.Proofs.YthhghkcopfnbiaaGreatDoor

namespace Go.Proofs.YthhghkcopfnbiaaGreatDoor
open Go Go.Proofs.YthhghkcopfnbiaaGreatDoor.Gw Go.RowKit
set_option linter.unusedVariables false
attribute [local irreducible] Ev EvQ EvS EvH
def strconv_FormatUint_S (f : Int → Int → Option ByteArray) : Prop := ∀ (w0 : World) (I0 : Nat → Prop) (tb : Tb w0 I0 1 .u64 pow10) (x20209 : Int) (x20210 : Int) (hI : ∀ g, I0 g → g < w0.heap.size) (r : ByteArray), f x20209 x20210 = some r →
    Ret Tryz.prog 58 #[(.int .u64 x20209), (.int .i64 x20210)] w0 fun v w1 => v = (.string r) ∧ Ch [] w0 w1

open Go.Sort in
theorem fmt_zero (w : World) (nd : Nat) (hs : nd ≤ 24) : Holds (fun (b : UInt8) => Value.int .u8 (b.toNat : Int)) (w.alloc (.cells Lib.zeros24 95)) w.heap.size 0 (Array.replicate nd (0 : UInt8)) := fun j hj => by
  have hj' : j < nd := by simpa using hj
  refine ⟨?_, World.frozen?_alloc_new _ _ _ _⟩
  rw [World.cell?_alloc_new, Lib.zeros24_at _ (by omega), getElem!_pos _ j hj]
  simp
open Go.Sort in
theorem fmt_below (w : World) (o : Obj) (dk : Array UInt8) (k : Nat) : Below w.heap.size w ((putRow (fun (b : UInt8) => Value.int .u8 (b.toNat : Int)) (w.alloc o) w.heap.size 0 dk).drewN k) := by
  have h1 : Below w.heap.size w (putRow (fun (b : UInt8) => Value.int .u8 (b.toNat : Int)) (w.alloc o) w.heap.size 0 dk) := by
    refine ⟨rfl, rfl, rfl, by rw [size_putRow]; exact (Below.alloc (Below.refl w.heap.size w) (Nat.le_refl _) o).size, fun g hg => ?_⟩
    rw [← Below.heap_alloc w o g hg]
    unfold putRow mapBlock
    dsimp only
    rw [Array.getElem?_modify, if_neg (by omega)]
  refine ⟨?_, ?_, ?_, ?_, ?_⟩
  · exact h1.os
  · exact h1.tape
  · exact h1.output
  · exact h1.size
  · exact h1.block
set_option maxHeartbeats 6400000 in
set_option maxRecDepth 100000 in
theorem fmt_big (u : Nat) (h100 : 100 ≤ u) (hu64 : u < 18446744073709551616) (w : World) (htab : Lib.TabIs Tryz.prog w "internal/strconv.uint64pow10" .u64 Lib.pow10Tab) :
    Calls Tryz.prog 74 #[.int .u64 u, .int .i64 10] w fun e w' => e = .returned (.string ⟨(Lib.decDigits u).toArray⟩) ∧ Below w.heap.size w w' := by
  have hu1 : 1 ≤ u := by omega
  have hnd20 : Lib.nDigits u ≤ 20 := by have := Lib.numDigits_eq u hu1 hu64; split at this <;> omega
  have hb3 : Lib.nDigits u ≤ 24 := by omega
  have hal : Tryz.prog.arrayLen 95 = 24 := by simp [Program.arrayLen, Tryz.underlying95]
  have hsl : ∀ W, (Instr.sliceAt 95 (.pointer (some ⟨w.heap.size, 0, none⟩)) none (some (.int .i64 (Lib.nDigits u : Int))) none).run Tryz.prog W = .ok (.slice (some ⟨w.heap.size, 0, none⟩) (Lib.nDigits u) 24) W := fun W => by
    rw [run_sliceAt_array_h W 95 ⟨w.heap.size, 0, none⟩ (by simp [Program.arrayLen, Program.elem, Tryz.underlying95]) .i64 (Lib.nDigits u : Int) (by omega) (by rw [hal]; omega)]
    go_simp
  have hH0 := fmt_zero w (Lib.nDigits u) (by omega)
  have hfmt := sh_internal_strconv_formatBase10 w.heap.size 0 24 u (Array.replicate (Lib.nDigits u) 0) (w.alloc (.cells Lib.zeros24 95)) hH0 (by rw [Array.size_replicate]; exact Lib.lt_pow_nDigits u) hu64 (by rw [Array.size_replicate]; omega)
  rw [Array.size_replicate] at hfmt
  have HH0 := Lib.hid hH0
  clear hH0 hal
  go_enter Tryz.func74, Tryz.ntmps74
  go_wp2_with (first
    | (go_at_call 92; refine (sh_internal_strconv_numDigits u hu1 hu64 _ (Lib.tabIs_alloc htab _)).mono ?_; rintro e w' ⟨rfl, rfl⟩))
  go_at_call 93
  refine hfmt.mono ?_
  rintro e w' ⟨rfl, k, v', dk, rfl, hF⟩
  have hcv : (convert 70 9 (.slice (some ⟨w.heap.size, 0, none⟩) (Lib.nDigits u) 24)).run Tryz.prog ((Go.Sort.putRow (fun (b : UInt8) => Value.int .u8 (b.toNat : Int)) (w.alloc (.cells Lib.zeros24 95)) w.heap.size 0 dk).drewN k) = .ok (.string ⟨(Lib.decDigits u).toArray⟩) ((Go.Sort.putRow (fun (b : UInt8) => Value.int .u8 (b.toNat : Int)) (w.alloc (.cells Lib.zeros24 95)) w.heap.size 0 dk).drewN k) := by
    have h := run_convert_bytes_back (P := Tryz.prog) ((Go.Sort.putRow (fun (b : UInt8) => Value.int .u8 (b.toNat : Int)) (w.alloc (.cells Lib.zeros24 95)) w.heap.size 0 dk).drewN k) 70 9 5 ⟨w.heap.size, 0, none⟩ 24 (Lib.decDigits u) Tryz.underlying70 Tryz.underlying5 Tryz.underlying9 (fun j hj => by
      rw [Lib.row_is_numeral hF j hj, Lib.add_plain, World.cell?_drewN]
      exact Go.Sort.cell?_putRow (fun (b : UInt8) => Value.int .u8 (b.toNat : Int)) _ w.heap.size 0 _ dk HH0.out (by rw [hF.size, Array.size_replicate]) j (by rw [hF.size]; rw [Lib.decDigits_length] at hj; exact hj))
    rw [Lib.decDigits_length] at h
    exact h
  go_wp2
  go_ret
  exact ⟨rfl, fmt_below w _ dk k⟩
theorem fmt_inner (u : Nat) (hu64 : u < 18446744073709551616) (w : World) (htab : Lib.TabIs Tryz.prog w "internal/strconv.uint64pow10" .u64 Lib.pow10Tab) :
    Calls Tryz.prog 74 #[.int .u64 u, .int .i64 10] w fun e w' => e = .returned (.string ⟨(Lib.decDigits u).toArray⟩) ∧ Below w.heap.size w w' := by
  by_cases h100 : u < 100
  · go_enter Tryz.func74, Tryz.ntmps74
    go_wp2_with (first
      | (go_at_call 91; refine (sh_internal_strconv_small u h100 _).mono ?_; rintro e w' ⟨rfl, rfl⟩))
    go_ret
    exact ⟨rfl, Below.refl _ _⟩
  · exact fmt_big u (by omega) hu64 w htab
theorem strconv_FormatUint_ok (n : Nat) : strconv_FormatUint_S (strconv_FormatUint n) := by
  intro w0 I0 tb x b hI r h
  obtain ⟨rfl, ⟨u, rfl, hu⟩, rfl⟩ := fmtU_some h
  have htab : Lib.TabIs Tryz.prog w0 "internal/strconv.uint64pow10" .u64 Lib.pow10Tab := tb.tab (zs := Lib.pow10Tab) (by kernel_rfl)
  apply ret_below
  go_enter Tryz.func58, Tryz.ntmps58
  go_wp2_with (first
    | (go_at_call 74; refine (fmt_inner u hu _ htab).mono ?_; rintro e w' ⟨rfl, hb⟩))
  go_ret
  exact ⟨rfl, hb⟩

end Go.Proofs.YthhghkcopfnbiaaGreatDoor

namespace Go.Proofs.YthhghkcopfnbiaaGreatDoor
open Go Go.Proofs.YthhghkcopfnbiaaGreatDoor.Gw Go.RowKit
set_option linter.unusedVariables false
attribute [local irreducible] Ev EvQ EvS EvH
def bits_Mul32_S (f : Int → Int → Option (Int × Int)) : Prop := ∀ (w0 : World) (I0 : Nat → Prop) (x20211 : Int) (x20212 : Int) (hI : ∀ g, I0 g → g < w0.heap.size) (r : (Int × Int)), f x20211 x20212 = some r →
    Ret Tryz.prog 95 #[(.int .u32 x20211), (.int .u32 x20212)] w0 fun v w1 => v = (.tuple #[(.int .u32 r.1), (.int .u32 r.2)]) ∧ Ch [] w0 w1
theorem bits_Mul32_ok (n : Nat) : bits_Mul32_S (bits_Mul32 n) := by
  intro w0 I0 x20211 x20212 hI r h
  unfold bits_Mul32 at h
  refine enter Tryz.func95 rfl (Nat.le_of_ble_eq_true rfl) ?_
  have hp : Hp ⟨w0, I0, []⟩ I0 [] w0 := Hp.start hI
  apply go
  apply go
  apply go
  apply go
  refine ev0 (rn_conv rfl rfl U45 Tryz.underlying49) ?_
  refine ev0 (rn_conv rfl rfl U45 Tryz.underlying49) ?_
  apply go
  apply go
  refine ⟨by decide, ?_⟩
  refine ev0 (rn_conv rfl rfl U49 Tryz.underlying45) ?_
  refine ev0 (rn_conv rfl rfl U49 Tryz.underlying45) ?_
  apply go
  obtain rfl := Option.some.inj h
  exact ⟨rfl, hp.ch⟩

end Go.Proofs.YthhghkcopfnbiaaGreatDoor

namespace Go.Proofs.YthhghkcopfnbiaaGreatDoor
open Go Go.Proofs.YthhghkcopfnbiaaGreatDoor.Gw Go.RowKit
set_option linter.unusedVariables false
attribute [local irreducible] Ev EvQ EvS EvH
def bits_Mul64_S (f : Int → Int → Option (Int × Int)) : Prop := ∀ (w0 : World) (I0 : Nat → Prop) (x20213 : Int) (x20214 : Int) (hI : ∀ g, I0 g → g < w0.heap.size) (r : (Int × Int)), f x20213 x20214 = some r →
    Ret Tryz.prog 96 #[(.int .u64 x20213), (.int .u64 x20214)] w0 fun v w1 => v = (.tuple #[(.int .u64 r.1), (.int .u64 r.2)]) ∧ Ch [] w0 w1
theorem bits_Mul64_ok (n : Nat) : bits_Mul64_S (bits_Mul64 n) := by
  intro w0 I0 x20213 x20214 hI r h
  unfold bits_Mul64 at h
  refine enter Tryz.func96 rfl (Nat.le_of_ble_eq_true rfl) ?_
  have hp : Hp ⟨w0, I0, []⟩ I0 [] w0 := Hp.start hI
  apply go
  apply go
  apply go
  apply go
  apply go
  apply go
  refine ⟨by decide, ?_⟩
  apply go
  apply go
  apply go
  apply go
  refine ⟨by decide, ?_⟩
  apply go
  apply go
  apply go
  apply go
  refine ⟨by decide, ?_⟩
  apply go
  apply go
  apply go
  apply go
  refine ⟨by decide, ?_⟩
  apply go
  apply go
  apply go
  apply go
  refine ⟨by decide, ?_⟩
  apply go
  apply go
  apply go
  obtain rfl := Option.some.inj h
  exact ⟨rfl, hp.ch⟩

end Go.Proofs.YthhghkcopfnbiaaGreatDoor

namespace Go.Proofs.YthhghkcopfnbiaaGreatDoor
open Go Go.Proofs.YthhghkcopfnbiaaGreatDoor.Gw Go.RowKit
set_option linter.unusedVariables false
attribute [local irreducible] Ev EvQ EvS EvH
def bits_Mul_S (f : Int → Int → Option (Int × Int)) : Prop := ∀ (w0 : World) (I0 : Nat → Prop) (x20215 : Int) (x20216 : Int) (hI : ∀ g, I0 g → g < w0.heap.size) (r : (Int × Int)), f x20215 x20216 = some r →
    Ret Tryz.prog 75 #[(.int .u64 x20215), (.int .u64 x20216)] w0 fun v w1 => v = (.tuple #[(.int .u64 r.1), (.int .u64 r.2)]) ∧ Ch [] w0 w1
theorem bits_Mul_ok (n : Nat) : bits_Mul_S (bits_Mul n) := by
  intro w0 I0 x20215 x20216 hI r h
  unfold bits_Mul at h
  refine enter Tryz.func75 rfl (Nat.le_of_ble_eq_true rfl) ?_
  have hp : Hp ⟨w0, I0, []⟩ I0 [] w0 := Hp.start hI
  apply go
  apply go
  apply go
  apply go
  apply go
  apply go
  apply go
  obtain ⟨⟨x20217, x20218⟩, q20219, h⟩ := bind_some h
  refine ev_call rfl rfl C96 (((bits_Mul64_ok n) _ _  x20215 x20216 hp.imm _ q20219).mono ?_)
  rintro _ w20220 ⟨rfl, hc⟩
  have hs := hp.stp hc
  replace hp := hp.ext hc
  apply go
  apply go
  apply go
  obtain rfl := Option.some.inj h
  exact ⟨rfl, hp.ch⟩

end Go.Proofs.YthhghkcopfnbiaaGreatDoor

namespace Go.Proofs.YthhghkcopfnbiaaGreatDoor
open Go Go.Proofs.YthhghkcopfnbiaaGreatDoor.Gw Go.RowKit
set_option linter.unusedVariables false
attribute [local irreducible] Ev EvQ EvS EvH
def stringslite_HasPrefix_S (f : ByteArray → ByteArray → Option Bool) : Prop := ∀ (w0 : World) (I0 : Nat → Prop) (x16403 : ByteArray) (x16404 : ByteArray) (hI : ∀ g, I0 g → g < w0.heap.size) (r : Bool), f x16403 x16404 = some r →
    Ret Tryz.prog 97 #[(.string x16403), (.string x16404)] w0 fun v w1 => v = (.bool r) ∧ Ch [] w0 w1
theorem stringslite_HasPrefix_ok (n : Nat) : stringslite_HasPrefix_S (stringslite_HasPrefix n) := by
  intro w0 I0 x16403 x16404 hI r h
  unfold stringslite_HasPrefix at h
  refine enter Tryz.func97 rfl (Nat.le_of_ble_eq_true rfl) ?_
  have hp : Hp ⟨w0, I0, []⟩ I0 [] w0 := Hp.start hI
  apply go
  apply go
  obtain ⟨y16408, q16409, h⟩ := bind_some h
  refine W.cut (γ := Bool) (fun g => [(4, (.bool (g)))]) (fun g w' => y16408 = (g) ∧ w0 = w') ?_ ?_
  ·
    apply go
    refine ev0 (rn_lenS rfl rfl Tryz.underlying9) ?_
    refine ev0 (rn_lenS rfl rfl Tryz.underlying9) ?_
    refine sel_of (fun hc => ?_) (fun hc => ?_)
    ·
      have q16409 := cond_t q16409 hc
      refine ev0 (rn_lenS rfl rfl Tryz.underlying9) ?_
      obtain ⟨x16410, q16411, q16409⟩ := bind_some q16409
      refine ev0 (rn_sliceStr (kl := .i64) (kh := .i64) rfl rfl rfl rfl Tryz.underlying9 q16411) ?_
      obtain rfl := Option.some.inj q16409
      exact ⟨(x16410.toList == x16404.toList), (.c rfl .n), rfl, rfl⟩
    ·
      have q16409 := cond_f q16409 hc
      obtain rfl := Option.some.inj q16409
      exact ⟨false, (.c rfl .n), rfl, rfl⟩
  ·
    rintro x16407 _ ⟨hy, rfl⟩
    replace hy := hy.symm
    subst hy
    apply go
    obtain rfl := Option.some.inj h
    exact ⟨rfl, hp.ch⟩

end Go.Proofs.YthhghkcopfnbiaaGreatDoor

namespace Go.Proofs.YthhghkcopfnbiaaGreatDoor
open Go Go.Proofs.YthhghkcopfnbiaaGreatDoor.Gw Go.RowKit
set_option linter.unusedVariables false
attribute [local irreducible] Ev EvQ EvS EvH
def strings_HasPrefix_S (f : ByteArray → ByteArray → Option Bool) : Prop := ∀ (w0 : World) (I0 : Nat → Prop) (x20221 : ByteArray) (x20222 : ByteArray) (hI : ∀ g, I0 g → g < w0.heap.size) (r : Bool), f x20221 x20222 = some r →
    Ret Tryz.prog 76 #[(.string x20221), (.string x20222)] w0 fun v w1 => v = (.bool r) ∧ Ch [] w0 w1
theorem strings_HasPrefix_ok (n : Nat) : strings_HasPrefix_S (strings_HasPrefix n) := by
  intro w0 I0 x20221 x20222 hI r h
  unfold strings_HasPrefix at h
  refine enter Tryz.func76 rfl (Nat.le_of_ble_eq_true rfl) ?_
  have hp : Hp ⟨w0, I0, []⟩ I0 [] w0 := Hp.start hI
  apply go
  apply go
  apply go
  apply go
  obtain ⟨x20223, q20224, h⟩ := bind_some h
  refine ev_call rfl rfl C97 (((stringslite_HasPrefix_ok n) _ _  x20221 x20222 hp.imm _ q20224).mono ?_)
  rintro _ w20225 ⟨rfl, hc⟩
  have hs := hp.stp hc
  replace hp := hp.ext hc
  apply go
  obtain rfl := Option.some.inj h
  exact ⟨rfl, hp.ch⟩

end Go.Proofs.YthhghkcopfnbiaaGreatDoor

namespace Go.Proofs.YthhghkcopfnbiaaGreatDoor
open Go Go.Proofs.YthhghkcopfnbiaaGreatDoor.Gw Go.RowKit
set_option linter.unusedVariables false
attribute [local irreducible] Ev EvQ EvS EvH
def strings_Repeat_S (f : ByteArray → Int → Option ByteArray) : Prop := ∀ (w0 : World) (I0 : Nat → Prop) (x20226 : ByteArray) (x20227 : Int) (hI : ∀ g, I0 g → g < w0.heap.size) (r : ByteArray), f x20226 x20227 = some r →
    Ret Tryz.prog 59 #[(.string x20226), (.int .i64 x20227)] w0 fun v w1 => v = (.string r) ∧ Ch [] w0 w1

theorem strings_Repeat_ok (n : Nat) : strings_Repeat_S (strings_Repeat n) := by
  intro w0 I0 s c hI r h
  obtain ⟨⟨k, rfl, hk⟩, hs, rfl⟩ := repS_some h
  have hm : s.size * k ≤ 1000000 * 1000000 := Nat.mul_le_mul hs hk
  exact ret_below (sh_strings_Repeat s k w0 (by omega) (by omega))

end Go.Proofs.YthhghkcopfnbiaaGreatDoor

namespace Go.Proofs.YthhghkcopfnbiaaGreatDoor
open Go Go.Proofs.YthhghkcopfnbiaaGreatDoor.Gw Go.RowKit
set_option linter.unusedVariables false
attribute [local irreducible] Ev EvQ EvS EvH vch
def slices_Reversestring_string__S (f : (List ByteArray) → Option (List ByteArray)) : Prop := ∀ (w0 : World) (I0 : Nat → Prop) (x20317 : (List ByteArray)) (v20318 : Value) (e20319 : Ent) (o20320 : OwnS dS 9 w0 I0 v20318 e20319 x20317) (hp : Hp ⟨w0, I0, (blk e20319)⟩ I0 [e20319] w0) (r : (List ByteArray)), f x20317 = some r →
    Ret Tryz.prog 60 #[v20318] w0 fun v w1 => ∃ (I1 : Nat → Prop) (u20321 : Ent), v = (.tuple #[]) ∧ Hp ⟨w0, I0, (blk e20319)⟩ I1 [u20321] w1 ∧ OwnS dS 9 w1 I1 v20318 u20321 r ∧ blk u20321 = blk e20319
theorem slices_Reversestring_string__ok (n : Nat) : slices_Reversestring_string__S (slices_Reversestring_string_ n) := by
  intro w0 I0 x20317 v20318 e20319 o20320 hp r h
  unfold slices_Reversestring_string_ at h
  refine enter Tryz.func60 rfl (Nat.le_of_ble_eq_true rfl) ?_
  have o20320z := o20320
  apply go
  apply go
  refine ev0 (x_lenO rfl rfl Tryz.underlying56 o20320) ?_
  apply go
  refine W.loop h (γ := Ent) (fun s g => [(0, v20318), (2, (.int .i64 (s.2.1))), (3, (.int .i64 (s.2.2)))]) (fun s g w' => Hp ⟨w0, I0, (blk e20319)⟩ I0 [(g)] w' ∧ OwnS dS 9 w' I0 v20318 (g) (s.1)) e20319 (.c rfl (.c rfl (.c rfl .n))) ⟨hp, o20320⟩ ?_
  rintro ⟨x20633, x20637, x20638⟩ e20635 w20956 y20957 ⟨hp, o20636⟩ q20958 q20959
  unfold slices_Reversestring_string__L0 at q20958
  apply go
  apply go
  apply go
  apply go
  refine sel_of (fun hc => ?_) (fun hc => ?_)
  ·
    have q20958 := cond_t q20958 hc
    apply go
    obtain ⟨y21117, q21118, q20958⟩ := bind_some q20958
    refine W.cut (γ := ((List ByteArray) × Ent)) (fun g => [(0, v20318), (2, (.int .i64 x20637)), (3, (.int .i64 x20638))]) (fun g w' => y21117 = (g.1) ∧ Hp ⟨w0, I0, (blk e20319)⟩ I0 [(g.2)] w' ∧ OwnS dS 9 w' I0 v20318 (g.2) (g.1)) ?_ ?_
    ·
      apply go
      have hs := hp.stp (Ch.drew [] w20956)
      have hp := hp.drew
      replace o20636 := o20636.step hs
      refine W.heldG (.q 0 (.q 1 (.q 2 (.q 3 (.q 4 (.q 5 (.q 6 (.q 8 (.q 9 (.q 10 (.l 7 (.l 11 (.q 12 (.l 13 (.q 14 (.l 15 .done .no)) .no)) .no) (.l 11 (.l 7 (.q 12 (.l 13 (.q 14 (.l 15 .done .no)) .no)) .no) .no)))))))))))) (SK (Stp I0 w20956.drew I0) [] []) MX (by kernel_rfl) ⟨Stp.refl _ _, kp_nil⟩ ?_
      have hz := Stp.refl I0 w20956.drew
      refine ⟨SK.same (by kernel_rfl), ?_⟩
      refine ⟨SK.same (by kernel_rfl), ?_⟩
      refine ⟨SK.same (by kernel_rfl), ?_⟩
      refine ⟨SK.same (by kernel_rfl), ?_⟩
      refine ⟨SK.same (by kernel_rfl), ?_⟩
      refine ⟨SK.same (by kernel_rfl), ?_⟩
      refine ⟨SK.same (by kernel_rfl), ?_⟩
      obtain ⟨x21203, q21204, q21118⟩ := bind_some q21118
      refine evh_indexO rfl rfl rfl Tryz.underlying56 T9 o20636 q21204 ?_
      intro g21205 c21206 h21209 d21207 l21208
      refine ⟨SK.same (by kernel_rfl), ?_⟩
      refine ⟨SK.same (by kernel_rfl), ?_⟩
      refine ⟨SK.same (by kernel_rfl), ?_⟩
      obtain ⟨x21211, q21212, q21118⟩ := bind_some q21118
      refine evh_indexO rfl rfl rfl Tryz.underlying56 T9 o20636 q21212 ?_
      intro g21213 c21214 h21217 d21215 l21216
      refine ⟨?_, ?_⟩
      ·
        refine ev (rn_load rfl rfl (run_loadVar1 T9 (hp.cellE (i := 0) rfl h21209 d21207 (j := 0) rfl))) ?_
        refine ⟨SK (Stp I0 w20956.drew I0) [] [], ⟨Stp.refl _ _, kp_nil⟩, fun L x h => ⟨hz.held h.1, h.2⟩, ?_⟩
        have hz := Stp.refl I0 w20956.drew
        refine ⟨?_, trivial⟩
        refine ev (rn_load rfl rfl (run_loadVar1 T9 (hp.cellE (i := 0) rfl h21217 d21215 (j := 0) rfl))) ?_
        refine ⟨SK (Stp I0 w20956.drew I0) [] [], ⟨Stp.refl _ _, kp_nil⟩, fun L x h => ⟨hz.held h.1, h.2⟩, ?_⟩
        have hz := Stp.refl I0 w20956.drew
        refine ⟨SK.same (by kernel_rfl), ?_⟩
        obtain ⟨x21219, q21220, q21118⟩ := bind_some q21118
        refine evh_indexO rfl rfl rfl Tryz.underlying56 T9 o20636 q21220 ?_
        intro g21221 c21222 h21225 d21223 l21224
        refine ⟨?_, trivial⟩
        refine ev_storeE hp (i := 0) rfl h21225 rfl rfl rfl T9 o20636 q21220 (x0 := x21203) rfl ?_
        intro e21228 w21227 hp hs o21229
        replace hz := hz.trans hs
        refine ⟨SK (Stp I0 w21227 I0) [] [], ⟨Stp.refl _ _, kp_nil⟩, fun L x h => ⟨hz.held h.1, h.2⟩, ?_⟩
        have hz := Stp.refl I0 w21227
        refine ⟨SK.same (by kernel_rfl), ?_⟩
        obtain ⟨x21232, q21233, q21118⟩ := bind_some q21118
        refine evh_indexO rfl rfl rfl Tryz.underlying56 T9 o21229 q21233 ?_
        intro g21234 c21235 h21238 d21236 l21237
        refine ⟨?_, trivial⟩
        refine ev_storeE hp (i := 0) rfl h21238 rfl rfl rfl T9 o21229 q21233 (x0 := x21211) rfl ?_
        intro e21241 w21240 hp hs o21242
        replace hz := hz.trans hs
        refine ⟨SK (Stp I0 w21240 I0) [] [], ⟨Stp.refl _ _, kp_nil⟩, fun L x h => ⟨hz.held h.1, h.2⟩, ?_⟩
        have hz := Stp.refl I0 w21240
        obtain rfl := Option.some.inj q21118
        exact ⟨((upd (upd x20633 x20637 x21203) x20638 x21211), e21241), (.c rfl (.c rfl (.c rfl .n))), rfl, hp, o21242⟩
      refine ⟨?_, trivial⟩
      refine ev (rn_load rfl rfl (run_loadVar1 T9 (hp.cellE (i := 0) rfl h21217 d21215 (j := 0) rfl))) ?_
      refine ⟨SK (Stp I0 w20956.drew I0) [] [], ⟨Stp.refl _ _, kp_nil⟩, fun L x h => ⟨hz.held h.1, h.2⟩, ?_⟩
      have hz := Stp.refl I0 w20956.drew
      refine ⟨?_, trivial⟩
      refine ev (rn_load rfl rfl (run_loadVar1 T9 (hp.cellE (i := 0) rfl h21209 d21207 (j := 0) rfl))) ?_
      refine ⟨SK (Stp I0 w20956.drew I0) [] [], ⟨Stp.refl _ _, kp_nil⟩, fun L x h => ⟨hz.held h.1, h.2⟩, ?_⟩
      have hz := Stp.refl I0 w20956.drew
      refine ⟨SK.same (by kernel_rfl), ?_⟩
      obtain ⟨x21245, q21246, q21118⟩ := bind_some q21118
      refine evh_indexO rfl rfl rfl Tryz.underlying56 T9 o20636 q21246 ?_
      intro g21247 c21248 h21251 d21249 l21250
      refine ⟨?_, trivial⟩
      refine ev_storeE hp (i := 0) rfl h21251 rfl rfl rfl T9 o20636 q21246 (x0 := x21203) rfl ?_
      intro e21254 w21253 hp hs o21255
      replace hz := hz.trans hs
      refine ⟨SK (Stp I0 w21253 I0) [] [], ⟨Stp.refl _ _, kp_nil⟩, fun L x h => ⟨hz.held h.1, h.2⟩, ?_⟩
      have hz := Stp.refl I0 w21253
      refine ⟨SK.same (by kernel_rfl), ?_⟩
      obtain ⟨x21258, q21259, q21118⟩ := bind_some q21118
      refine evh_indexO rfl rfl rfl Tryz.underlying56 T9 o21255 q21259 ?_
      intro g21260 c21261 h21264 d21262 l21263
      refine ⟨?_, trivial⟩
      refine ev_storeE hp (i := 0) rfl h21264 rfl rfl rfl T9 o21255 q21259 (x0 := x21211) rfl ?_
      intro e21267 w21266 hp hs o21268
      replace hz := hz.trans hs
      refine ⟨SK (Stp I0 w21266 I0) [] [], ⟨Stp.refl _ _, kp_nil⟩, fun L x h => ⟨hz.held h.1, h.2⟩, ?_⟩
      have hz := Stp.refl I0 w21266
      obtain rfl := Option.some.inj q21118
      exact ⟨((upd (upd x20633 x20637 x21203) x20638 x21211), e21267), (.c rfl (.c rfl (.c rfl .n))), rfl, hp, o21268⟩
    ·
      rintro ⟨x21112, e21114⟩ w21116 ⟨hy, hp, o21115⟩
      replace hy := hy.symm
      subst hy
      apply go
      exact ⟨_, (Option.some.inj q20958).symm, e21114, (.c rfl (.c rfl (.c rfl .n))), ⟨hp, o21115⟩⟩
  ·
    have q20958 := cond_f q20958 hc
    apply go
    have q21271 := congrArg some (q20959 _ (Option.some.inj q20958).symm)
    obtain rfl := Option.some.inj q21271
    exact ⟨I0, e20635, rfl, hp, o20636, (OwnS.blk o20320z o20636)⟩

end Go.Proofs.YthhghkcopfnbiaaGreatDoor

namespace Go.Proofs.YthhghkcopfnbiaaGreatDoor
open Go Go.Proofs.YthhghkcopfnbiaaGreatDoor.Gw Go.RowKit
set_option linter.unusedVariables false
attribute [local irreducible] Ev EvQ EvS EvH
def strings_Join_S (f : (List ByteArray) → ByteArray → Option ByteArray) : Prop := ∀ (w0 : World) (I0 : Nat → Prop) (x21272 : (List ByteArray)) (v21273 : Value) (r21274 : RepS dS w0 I0 v21273 x21272) (x21275 : ByteArray) (hI : ∀ g, I0 g → g < w0.heap.size) (r : ByteArray), f x21272 x21275 = some r →
    Ret Tryz.prog 61 #[v21273, (.string x21275)] w0 fun v w1 => v = (.string r) ∧ Ch [] w0 w1

theorem strings_Join_ok (n : Nat) : strings_Join_S (strings_Join n) := by
  intro w0 I0 xs v hr sep hI r h
  obtain ⟨hN, hL, rfl⟩ := joinS_some h
  rcases Nat.eq_zero_or_pos xs.length with h0 | h0
  · obtain rfl := List.eq_nil_of_length_eq_zero h0
    obtain ⟨a, c, rfl, _, _⟩ := hr
    exact ret_same (sh_strings_Join_none a c sep w0)
  · obtain ⟨b, o, c, rfl, hc, hb, hcells⟩ := hr.strs h0
    exact ret_below (sh_strings_Join b o c xs sep w0 hcells (hI b hb) hN hc hL)

end Go.Proofs.YthhghkcopfnbiaaGreatDoor

namespace Go.Proofs.YthhghkcopfnbiaaGreatDoor
open Go Go.Proofs.YthhghkcopfnbiaaGreatDoor.Gw Go.RowKit
set_option linter.unusedVariables false
attribute [local irreducible] Ev EvQ EvS EvH
def integer_Text_S (f : Int_2 → Option ByteArray) : Prop := ∀ (w0 : World) (I0 : Nat → Prop) (tb : Tb w0 I0 1 .u64 pow10) (x21276 : Int_2) (v21277 : Value) (r21278 : RepS (dI .u32) w0 I0 v21277 x21276.Mag) (hI : ∀ g, I0 g → g < w0.heap.size) (r : ByteArray), f x21276 = some r →
    Ret Tryz.prog 25 #[(.agg #[(.bool x21276.Neg), v21277])] w0 fun v w1 => v = (.string r) ∧ Ch [] w0 w1
theorem integer_Text_ok (n : Nat) : integer_Text_S (integer_Text n) := by
  intro w0 I0 tb x21276 v21277 r21278 hI r h
  unfold integer_Text at h
  refine enter Tryz.func25 rfl (Nat.le_of_ble_eq_true rfl) ?_
  have hp : Hp ⟨w0, I0, []⟩ I0 [] w0 := Hp.start hI
  apply go
  apply go
  refine ev_boxI hp rfl rfl ?_
  intro p21281 I21282 w21280 hp hs a21283
  replace r21278 := r21278.step hs
  replace tb := tb.step hs
  apply go
  apply go
  refine ev0 (rn_field rfl rfl FO24_1) ?_
  refine ev (rn_load rfl rfl (run_loadVar1 T22 (a21283.2 1 _ rfl))) ?_
  obtain ⟨x21284, q21285, h⟩ := bind_some h
  refine ev_call rfl rfl C46 (((integer_trim_ok n) _ _  x21276.Mag v21277 r21278 hp.imm _ q21285).mono ?_)
  rintro _ w21286 ⟨I21287, v21288, hv, hq, r21289⟩
  replace hv := hv.symm
  subst hv
  have hs := hq.st
  have hp := hp.join0 hq
  replace a21283 := a21283.step hs
  replace r21278 := r21278.step hs
  replace tb := tb.step hs
  obtain ⟨x21290, q21291, h⟩ := bind_some h
  refine ev_call rfl rfl C56 (((slices_Cloneuint32_uint32__ok n) _ _  x21284 v21288 r21289 hp.imm _ q21291).mono ?_)
  rintro _ w21292 ⟨I21293, v21294, hv, hq, r21295⟩
  replace hv := hv.symm
  subst hv
  have hs := hq.st
  have hp := hp.join0 hq
  replace a21283 := a21283.step hs
  replace r21278 := r21278.step hs
  replace tb := tb.step hs
  apply go
  apply go
  apply go
  refine ev0 (rn_len rfl rfl Tryz.underlying22 r21295) ?_
  apply go
  refine sel_of (fun hc => ?_) (fun hc => ?_)
  ·
    have h := cond_t h hc
    apply go
    apply go
    apply go
    obtain rfl := Option.some.inj h
    exact ⟨rfl, hp.ch⟩
  ·
    have h := cond_f h hc
    apply go
    apply go
    apply go
    obtain ⟨y21439, q21440, h⟩ := bind_some h
    refine W.cut (γ := ((List ByteArray) × Value × Ent × (Nat → Prop))) (fun g => [(1, (.pointer (some (p21281)))), (4, (g.2.1))]) (fun g w' => y21439 = (g.1) ∧ Hp ⟨w0, I0, []⟩ (g.2.2.2) [(g.2.2.1)] w' ∧ RepS (dI .u32) w' (g.2.2.2) v21277 x21276.Mag ∧ At w' (g.2.2.2) p21281 [(.bool x21276.Neg), v21277] ∧ OwnS dS 9 w' (g.2.2.2) (g.2.1) (g.2.2.1) (g.1) ∧ Tb w' (g.2.2.2) 1 .u64 pow10) ?_ ?_
    ·
      apply go
      have hp := hp.none_
      have o21535 := OwnS.nil dS 9 w21292 I21293
      refine W.loop q21440 (γ := (Value × Value × Ent × (Nat → Prop))) (fun s g => [(1, (.pointer (some (p21281)))), (3, (g.1)), (4, (g.2.1))]) (fun s g w' => Hp ⟨w0, I0, []⟩ (g.2.2.2) [(g.2.2.1)] w' ∧ RepS (dI .u32) w' (g.2.2.2) v21277 x21276.Mag ∧ At w' (g.2.2.2) p21281 [(.bool x21276.Neg), v21277] ∧ RepS (dI .u32) w' (g.2.2.2) (g.1) (s.1) ∧ OwnS dS 9 w' (g.2.2.2) (g.2.1) (g.2.2.1) (s.2) ∧ Tb w' (g.2.2.2) 1 .u64 pow10) (v21294, (.slice none 0 0), none, I21293) (.c rfl (.c rfl (.c rfl .n))) ⟨hp, r21278, a21283, r21295, o21535, tb⟩ ?_
      rintro ⟨x21480, x21483⟩ ⟨v21481, v21484, e21485, I21487⟩ w21534 y21536 ⟨hp, r21278, a21283, r21482, o21486, tb⟩ q21537 q21538
      unfold integer_Text_L1 at q21537
      apply go
      apply go
      apply go
      refine ev0 (rn_len rfl rfl Tryz.underlying22 r21482) ?_
      apply go
      refine sel_of (fun hc => ?_) (fun hc => ?_)
      ·
        have q21537 := cond_t q21537 hc
        apply go
        apply go
        apply go
        apply go
        apply go
        apply go
        obtain ⟨⟨x21539, x21540⟩, q21541, q21537⟩ := bind_some q21537
        refine ev_call rfl rfl C57 (((integer_short_ok n) _ _  x21480 v21481 r21482 1000000000 hp.imm _ q21541).mono ?_)
        rintro _ w21542 ⟨I21543, v21544, hv, hq, r21545⟩
        replace hv := hv.symm
        subst hv
        have hs := hq.st
        have hp := hp.join0 hq
        replace a21283 := a21283.step hs
        replace r21278 := r21278.step hs
        replace o21486 := o21486.step hs
        replace tb := tb.step hs
        apply go
        apply go
        obtain ⟨x21546, q21547, q21537⟩ := bind_some q21537
        refine ev_call rfl rfl C46 (((integer_trim_ok n) _ _  x21539 v21544 r21545 hp.imm _ q21547).mono ?_)
        rintro _ w21548 ⟨I21549, v21550, hv, hq, r21551⟩
        replace hv := hv.symm
        subst hv
        have hs := hq.st
        have hp := hp.join0 hq
        replace a21283 := a21283.step hs
        replace r21278 := r21278.step hs
        replace o21486 := o21486.step hs
        replace tb := tb.step hs
        apply go
        apply go
        refine ev0 (rn_conv rfl rfl U45 Tryz.underlying49) ?_
        obtain ⟨x21552, q21553, q21537⟩ := bind_some q21537
        refine ev_call rfl rfl C58 (((strconv_FormatUint_ok n) _ _ tb (IntKind.u64.wrap x21540) 10 hp.imm _ q21553).mono ?_)
        rintro _ w21554 ⟨rfl, hc⟩
        have hs := hp.stp hc
        replace hp := hp.ext hc
        replace a21283 := a21283.step hs
        replace r21278 := r21278.step hs
        replace o21486 := o21486.step hs
        replace r21551 := r21551.step hs
        replace tb := tb.step hs
        obtain ⟨y21561, q21562, q21537⟩ := bind_some q21537
        refine W.cut (γ := ByteArray) (fun g => [(1, (.pointer (some (p21281)))), (3, v21550), (4, v21484), (6, (.string (g)))]) (fun g w' => y21561 = (g) ∧ Hp ⟨w0, I0, []⟩ I21549 [e21485] w' ∧ RepS (dI .u32) w' I21549 v21277 x21276.Mag ∧ At w' I21549 p21281 [(.bool x21276.Neg), v21277] ∧ RepS (dI .u32) w' I21549 v21550 x21546 ∧ OwnS dS 9 w' I21549 v21484 e21485 x21483 ∧ Tb w' I21549 1 .u64 pow10) ?_ ?_
        ·
          apply go
          apply go
          refine ev0 (rn_len rfl rfl Tryz.underlying22 r21551) ?_
          apply go
          refine sel_of (fun hc => ?_) (fun hc => ?_)
          ·
            have q21562 := cond_t q21562 hc
            apply go
            refine ev0 (rn_lenS rfl rfl Tryz.underlying9) ?_
            obtain ⟨x21563, q21564, q21562⟩ := bind_some q21562
            refine ev_call rfl rfl C59 (((strings_Repeat_ok n) _ _  (ByteArray.mk #[48]) (IntKind.i64.wrap (9 - (x21552.size : Int))) hp.imm _ q21564).mono ?_)
            rintro _ w21565 ⟨rfl, hc⟩
            have hs := hp.stp hc
            replace hp := hp.ext hc
            replace a21283 := a21283.step hs
            replace r21278 := r21278.step hs
            replace o21486 := o21486.step hs
            replace r21551 := r21551.step hs
            replace tb := tb.step hs
            obtain ⟨q21566, _, q21562⟩ := need_some q21562
            refine ⟨q21566, ?_⟩
            obtain rfl := Option.some.inj q21562
            exact ⟨(x21563 ++ x21552), (.c rfl (.c rfl (.c rfl (.c rfl .n)))), rfl, hp, r21278, a21283, r21551, o21486, tb⟩
          ·
            have q21562 := cond_f q21562 hc
            apply go
            obtain rfl := Option.some.inj q21562
            exact ⟨x21552, (.c rfl (.c rfl (.c rfl (.c rfl .n)))), rfl, hp, r21278, a21283, r21551, o21486, tb⟩
        ·
          rintro x21559 w21560 ⟨hy, hp, r21278, a21283, r21551, o21486, tb⟩
          replace hy := hy.symm
          subst hy
          apply go
          refine ev_litN (d := dS) (xs := [x21559]) (cs := [(.string x21559)]) hp rfl rfl Tryz.underlying56 T9 (by decide) rfl rfl (Elems.cons (d := dS) (xs := _) rfl (Elems.nil _ _ _ _)) ?_
          intro v21567 I21569 w21568 hp hs r21570
          replace a21283 := a21283.step hs
          replace r21278 := r21278.step hs
          replace r21551 := r21551.step hs
          replace o21486 := o21486.step hs
          replace tb := tb.step hs
          obtain ⟨x21571, q21572, q21537⟩ := bind_some q21537
          refine ev_append hp (i := 0) rfl rfl rfl rfl Tryz.underlying56 T9 rfl rfl o21486 r21570 q21572 ?_
          rintro v21573 e21574 w21575 hp hs o21576
          replace a21283 := a21283.step hs
          replace r21278 := r21278.step hs
          replace r21551 := r21551.step hs
          replace tb := tb.step hs
          exact ⟨_, (Option.some.inj q21537).symm, (v21550, v21573, e21574, I21569), (.c rfl (.c rfl (.c rfl .n))), ⟨hp, r21278, a21283, r21551, o21576, tb⟩⟩
      ·
        have q21537 := cond_f q21537 hc
        apply go
        have q21577 := congrArg some (q21538 _ (Option.some.inj q21537).symm)
        obtain rfl := Option.some.inj q21577
        exact ⟨(x21483, v21484, e21485, I21487), (.c rfl (.c rfl .n)), rfl, hp, r21278, a21283, o21486, tb⟩
    ·
      rintro ⟨x21433, v21434, e21435, I21437⟩ w21438 ⟨hy, hp, r21278, a21283, o21436, tb⟩
      replace hy := hy.symm
      subst hy
      obtain ⟨y21594, q21595, h⟩ := bind_some h
      refine W.cut (γ := ((List ByteArray) × Value × Ent × (Nat → Prop))) (fun g => [(4, (g.2.1))]) (fun g w' => y21594 = (g.1) ∧ Hp ⟨w0, I0, []⟩ (g.2.2.2) [(g.2.2.1)] w' ∧ OwnS dS 9 w' (g.2.2.2) (g.2.1) (g.2.2.1) (g.1) ∧ Tb w' (g.2.2.2) 1 .u64 pow10) ?_ ?_
      ·
        apply go
        apply go
        refine ev0 (rn_field rfl rfl FO24_0) ?_
        refine ev (rn_load rfl rfl (run_loadVar1 T4 (a21283.2 0 _ rfl))) ?_
        apply go
        refine sel_of (fun hc => ?_) (fun hc => ?_)
        ·
          have q21595 := cond_t q21595 hc
          apply go
          refine ev_litN (d := dS) (xs := [(ByteArray.mk #[45])]) (cs := [(.string (ByteArray.mk #[45]))]) hp rfl rfl Tryz.underlying56 T9 (by decide) rfl rfl (Elems.cons (d := dS) (xs := _) rfl (Elems.nil _ _ _ _)) ?_
          intro v21596 I21598 w21597 hp hs r21599
          replace o21436 := o21436.step hs
          replace tb := tb.step hs
          obtain ⟨x21600, q21601, q21595⟩ := bind_some q21595
          refine ev_append hp (i := 0) rfl rfl rfl rfl Tryz.underlying56 T9 rfl rfl o21436 r21599 q21601 ?_
          rintro v21602 e21603 w21604 hp hs o21605
          replace tb := tb.step hs
          obtain rfl := Option.some.inj q21595
          exact ⟨(x21600, v21602, e21603, I21598), (.c rfl .n), rfl, hp, o21605, tb⟩
        ·
          have q21595 := cond_f q21595 hc
          apply go
          obtain rfl := Option.some.inj q21595
          exact ⟨(x21433, v21434, e21435, I21437), (.c rfl .n), rfl, hp, o21436, tb⟩
      ·
        rintro ⟨x21588, v21589, e21590, I21592⟩ w21593 ⟨hy, hp, o21591, tb⟩
        replace hy := hy.symm
        subst hy
        apply go
        apply go
        obtain ⟨x21606, q21607, h⟩ := bind_some h
        refine ev_call rfl rfl C60 (((slices_Reversestring_string__ok n) _ _  x21588 v21589 e21590 o21591 (hp.lend (i := 0) rfl) _ q21607).mono ?_)
        rintro _ w21608 ⟨I21609, e21610, hv, hq, o21611, hsame⟩
        replace hv := hv.symm
        subst hv
        have hs := hq.st
        have hp := hp.backO (i := 0) rfl hq hsame
        replace tb := tb.step hs
        apply go
        apply go
        have r21612 := o21611.frz hp (i := 0) rfl
        obtain ⟨hp, hs⟩ := freeze_hp hp (i := 0) rfl
        replace tb := tb.step hs
        have hp := hp.sel [] (by decide)
        obtain ⟨x21613, q21614, h⟩ := bind_some h
        refine ev_call rfl rfl C61 (((strings_Join_ok n) _ _  x21606 v21589 r21612 (ByteArray.mk #[]) hp.imm _ q21614).mono ?_)
        rintro _ w21615 ⟨rfl, hc⟩
        have hs := hp.stp hc
        replace hp := hp.ext hc
        replace tb := tb.step hs
        apply go
        obtain rfl := Option.some.inj h
        exact ⟨rfl, hp.ch⟩

end Go.Proofs.YthhghkcopfnbiaaGreatDoor

namespace Go.Proofs.YthhghkcopfnbiaaGreatDoor
open Go Go.Proofs.YthhghkcopfnbiaaGreatDoor.Gw Go.RowKit
set_option linter.unusedVariables false
attribute [local irreducible] Ev EvQ EvS EvH
def stringslite_CutPrefix_S (f : ByteArray → ByteArray → Option (ByteArray × Bool)) : Prop := ∀ (w0 : World) (I0 : Nat → Prop) (x16412 : ByteArray) (x16413 : ByteArray) (hI : ∀ g, I0 g → g < w0.heap.size) (r : (ByteArray × Bool)), f x16412 x16413 = some r →
    Ret Tryz.prog 81 #[(.string x16412), (.string x16413)] w0 fun v w1 => v = (.tuple #[(.string r.1), (.bool r.2)]) ∧ Ch [] w0 w1
theorem stringslite_CutPrefix_ok (n : Nat) : stringslite_CutPrefix_S (stringslite_CutPrefix n) := by
  intro w0 I0 x16412 x16413 hI r h
  unfold stringslite_CutPrefix at h
  refine enter Tryz.func81 rfl (Nat.le_of_ble_eq_true rfl) ?_
  have hp : Hp ⟨w0, I0, []⟩ I0 [] w0 := Hp.start hI
  apply go
  apply go
  apply go
  apply go
  apply go
  obtain ⟨x16414, q16415, h⟩ := bind_some h
  refine ev_call rfl rfl C97 (((stringslite_HasPrefix_ok n) _ _  x16412 x16413 hp.imm _ q16415).mono ?_)
  rintro _ w16416 ⟨rfl, hc⟩
  have hs := hp.stp hc
  replace hp := hp.ext hc
  apply go
  refine sel_of (fun hc => ?_) (fun hc => ?_)
  ·
    have h := cond_t h hc
    apply go
    apply go
    apply go
    obtain rfl := Option.some.inj h
    exact ⟨rfl, hp.ch⟩
  ·
    have h := cond_f h hc
    apply go
    apply go
    apply go
    refine ev0 (rn_lenS rfl rfl Tryz.underlying9) ?_
    obtain ⟨x16417, q16418, h⟩ := bind_some h
    refine ev0 (rn_sliceStr (kl := .i64) (kh := .i64) rfl rfl rfl rfl Tryz.underlying9 q16418) ?_
    apply go
    obtain rfl := Option.some.inj h
    exact ⟨rfl, hp.ch⟩

end Go.Proofs.YthhghkcopfnbiaaGreatDoor

namespace Go.Proofs.YthhghkcopfnbiaaGreatDoor
open Go Go.Proofs.YthhghkcopfnbiaaGreatDoor.Gw Go.RowKit
set_option linter.unusedVariables false
attribute [local irreducible] Ev EvQ EvS EvH
def strings_CutPrefix_S (f : ByteArray → ByteArray → Option (ByteArray × Bool)) : Prop := ∀ (w0 : World) (I0 : Nat → Prop) (x16419 : ByteArray) (x16420 : ByteArray) (hI : ∀ g, I0 g → g < w0.heap.size) (r : (ByteArray × Bool)), f x16419 x16420 = some r →
    Ret Tryz.prog 62 #[(.string x16419), (.string x16420)] w0 fun v w1 => v = (.tuple #[(.string r.1), (.bool r.2)]) ∧ Ch [] w0 w1
theorem strings_CutPrefix_ok (n : Nat) : strings_CutPrefix_S (strings_CutPrefix n) := by
  intro w0 I0 x16419 x16420 hI r h
  unfold strings_CutPrefix at h
  refine enter Tryz.func62 rfl (Nat.le_of_ble_eq_true rfl) ?_
  have hp : Hp ⟨w0, I0, []⟩ I0 [] w0 := Hp.start hI
  apply go
  apply go
  apply go
  apply go
  obtain ⟨⟨x16421, x16422⟩, q16423, h⟩ := bind_some h
  refine ev_call rfl rfl C81 (((stringslite_CutPrefix_ok n) _ _  x16419 x16420 hp.imm _ q16423).mono ?_)
  rintro _ w16424 ⟨rfl, hc⟩
  have hs := hp.stp hc
  replace hp := hp.ext hc
  apply go
  obtain rfl := Option.some.inj h
  exact ⟨rfl, hp.ch⟩

end Go.Proofs.YthhghkcopfnbiaaGreatDoor

namespace Go.Proofs.YthhghkcopfnbiaaGreatDoor
open Go Go.Proofs.YthhghkcopfnbiaaGreatDoor.Gw Go.RowKit
set_option linter.unusedVariables false
attribute [local irreducible] Ev EvQ EvS EvH
def strings_makeASCIISet_S (f : ByteArray → Option ((List Bool) × Bool)) : Prop := ∀ (w0 : World) (I0 : Nat → Prop) (x16425 : ByteArray) (hI : ∀ g, I0 g → g < w0.heap.size) (r : ((List Bool) × Bool)), f x16425 = some r →
    Ret Tryz.prog 84 #[(.string x16425)] w0 fun v w1 => ∃ (I1 : Nat → Prop) (u16426 : List Value), v = (.tuple #[(.agg u16426.toArray), (.bool r.2)]) ∧ Hp ⟨w0, I0, []⟩ I1 [] w1 ∧ (dA 256 dB).rep w1 I1 u16426 r.1
theorem strings_makeASCIISet_ok (n : Nat) : strings_makeASCIISet_S (strings_makeASCIISet n) := by
  intro w0 I0 x16425 hI r h
  unfold strings_makeASCIISet at h
  refine enter Tryz.func84 rfl (Nat.le_of_ble_eq_true rfl) ?_
  have hp : Hp ⟨w0, I0, []⟩ I0 [] w0 := Hp.start hI
  apply go
  apply go
  refine ev_allocA (d := (dA 256 dB)) (x0 := (List.replicate 256 false)) hp rfl T88 (fun _ _ => (rep_zero 256 rfl)) ?_
  intro g16427 c16430 w16428 hp hs r16429
  obtain ⟨y16482, q16483, h⟩ := bind_some h
  refine W.cut (γ := ((List Bool) × (List Value))) (fun g => [(2, (.pointer (some ⟨g16427, 0, none⟩)))]) (fun g w' => y16482 = .go (g.1) ∧ Hp ⟨w0, I0, []⟩ I0 [some (g16427, (g.2), 88)] w' ∧ (dA 256 dB).rep w' I0 (g.2) (g.1)) ?_ ?_
  ·
    apply go
    apply go
    apply go
    refine W.loop q16483 (γ := (List Value)) (fun s g => [(0, (.string x16425)), (2, (.pointer (some ⟨g16427, 0, none⟩))), (4, (.int .i64 (s.2)))]) (fun s g w' => Hp ⟨w0, I0, []⟩ I0 [some (g16427, (g), 88)] w' ∧ (dA 256 dB).rep w' I0 (g) (s.1)) c16430 (.c rfl (.c rfl (.c rfl .n))) ⟨hp, r16429⟩ ?_
    rintro ⟨x16495, x16498⟩ c16496 w16514 y16515 ⟨hp, r16497⟩ q16516 q16517
    unfold strings_makeASCIISet_L1 at q16516
    apply go
    apply go
    apply go
    refine ev0 (rn_lenS rfl rfl Tryz.underlying9) ?_
    apply go
    refine sel_of (fun hc => ?_) (fun hc => ?_)
    ·
      have q16516 := cond_t q16516 hc
      apply go
      apply go
      apply go
      apply go
      apply go
      obtain ⟨x16518, q16519, q16516⟩ := bind_some q16516
      refine ev0 (rn_indexS rfl rfl rfl Tryz.underlying9 q16519) ?_
      apply go
      apply go
      apply go
      apply go
      refine sel_of (fun hc => ?_) (fun hc => ?_)
      ·
        have q16516 := cond_t q16516 hc
        apply go
        apply go
        refine ev (rn_load rfl rfl (run_loadVarA T88 (Desc.len _ r16497) (hp.at_ (i := 0) rfl))) ?_
        have r16520 := r16497
        refine ev_storeW (d := (dA 256 dB)) hp (i := 0) rfl rfl rfl rfl T88 rfl r16497 r16520 ?_
        intro w16521 hp hs r16522
        apply go
        have q16523 := congrArg some (q16517 _ (Option.some.inj q16516).symm)
        obtain rfl := Option.some.inj q16523
        obtain rfl := Option.some.inj h
        refine ⟨_, run_loadVarA T88 (Desc.len _ r16522) (hp.at_ (i := 0) rfl), ?_⟩
        have hp := hp.sel [] (by decide)
        exact ⟨I0, c16496, rfl, hp, r16522⟩
      ·
        have q16516 := cond_f q16516 hc
        apply go
        apply go
        obtain ⟨x16524, q16525, q16516⟩ := bind_some q16516
        refine ev_indexA rfl rfl rfl Tryz.underlying88 T4 (SubA.top r16497) q16525 ?_
        refine ev_store1A hp (i := 0) rfl rfl rfl rfl T4 rfl ((SubA.top r16497).el q16525).1 ?_
        intro c16528 w16526 q16529 hp hs
        have r16527 : ((dA 256 dB)).rep w16526 I0 c16528 (upd x16495 x16518 true) := by subst q16529; exact PutA.rep (Desc.len _ r16497) (PutA.up (SubA.top (r16497.step hs)) q16525 (PutA.leaf ((SubA.top r16497).el q16525).1 rfl rfl))
        clear q16529
        apply go
        exact ⟨_, (Option.some.inj q16516).symm, c16528, (.c rfl (.c rfl (.c rfl .n))), ⟨hp, r16527⟩⟩
    ·
      have q16516 := cond_f q16516 hc
      apply go
      have q16530 := congrArg some (q16517 _ (Option.some.inj q16516).symm)
      obtain rfl := Option.some.inj q16530
      exact ⟨(x16495, c16496), (.c rfl .n), rfl, hp, r16497⟩
  ·
    rintro ⟨x16478, c16479⟩ w16481 ⟨hy, hp, r16480⟩
    replace hy := hy.symm
    subst hy
    apply go
    apply go
    refine ev (rn_load rfl rfl (run_loadVarA T88 (Desc.len _ r16480) (hp.at_ (i := 0) rfl))) ?_
    have r16531 := r16480
    refine ev_storeW (d := (dA 256 dB)) hp (i := 0) rfl rfl rfl rfl T88 rfl r16480 r16531 ?_
    intro w16532 hp hs r16533
    apply go
    obtain rfl := Option.some.inj h
    refine ⟨_, run_loadVarA T88 (Desc.len _ r16533) (hp.at_ (i := 0) rfl), ?_⟩
    have hp := hp.sel [] (by decide)
    exact ⟨I0, c16479, rfl, hp, r16533⟩

end Go.Proofs.YthhghkcopfnbiaaGreatDoor

namespace Go.Proofs.YthhghkcopfnbiaaGreatDoor
open Go Go.Proofs.YthhghkcopfnbiaaGreatDoor.Gw Go.RowKit
set_option linter.unusedVariables false
attribute [local irreducible] Ev EvQ EvS EvH
def strings_asciiSet_contains_S (f : (List Bool) → Int → Option (Bool × (List Bool))) : Prop := ∀ (w0 : World) (I0 : Nat → Prop) (x16534 : (List Bool)) (g16535 : Nat) (c16536 : List Value) (r16537 : (dA 256 dB).rep w0 I0 c16536 x16534) (x16538 : Int) (hp : Hp ⟨w0, I0, [g16535]⟩ I0 [some (g16535, c16536, 88)] w0) (r : (Bool × (List Bool))), f x16534 x16538 = some r →
    Ret Tryz.prog 100 #[(.pointer (some ⟨g16535, 0, none⟩)), (.int .u8 x16538)] w0 fun v w1 => ∃ (I1 : Nat → Prop) (u16539 : List Value), v = (.bool r.1) ∧ Hp ⟨w0, I0, [g16535]⟩ I1 [some (g16535, u16539, 88)] w1 ∧ (dA 256 dB).rep w1 I1 u16539 r.2
theorem strings_asciiSet_contains_ok (n : Nat) : strings_asciiSet_contains_S (strings_asciiSet_contains n) := by
  intro w0 I0 x16534 g16535 c16536 r16537 x16538 hp r h
  unfold strings_asciiSet_contains at h
  refine enter Tryz.func100 rfl (Nat.le_of_ble_eq_true rfl) ?_
  apply go
  apply go
  apply go
  apply go
  obtain ⟨x16540, q16541, h⟩ := bind_some h
  refine ev_indexA rfl rfl rfl Tryz.underlying88 T4 (SubA.top r16537) q16541 ?_
  refine ev (rn_load rfl rfl (run_loadVar1 T4 (hp.cell (i := 0) rfl ((SubA.top r16537).el q16541).bool))) ?_
  apply go
  obtain rfl := Option.some.inj h
  exact ⟨I0, c16536, rfl, hp, r16537⟩

end Go.Proofs.YthhghkcopfnbiaaGreatDoor
