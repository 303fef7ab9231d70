/-
  Each function of the program computes the plain function of its name.
-/
import Derived.Test.YthhghkcopfnbiaaGreatDoorFactsA
import Derived.Lib.Walk
import Derived.BigCall
import Derived.BigGuard
import Derived.Test.YthhghkcopfnbiaaGreatDoorCoreA
namespace Go.Proofs.YthhghkcopfnbiaaGreatDoor
open Go Go.Proofs.YthhghkcopfnbiaaGreatDoor.Gw Go.RowKit
set_option linter.unusedVariables false
attribute [local irreducible] Ev EvQ EvS EvH
def integer_trim_S (f : (List Int) → Option (List Int)) : Prop := ∀ (w0 : World) (I0 : Nat → Prop) (x1 : (List Int)) (v2 : Value) (r3 : RepS (dI .u32) w0 I0 v2 x1) (hI : ∀ g, I0 g → g < w0.heap.size) (r : (List Int)), f x1 = some r →
    Ret Tryz.prog 46 #[v2] w0 fun v w1 => ∃ (I1 : Nat → Prop) (u4 : Value), v = u4 ∧ Hp ⟨w0, I0, []⟩ I1 [] w1 ∧ RepS (dI .u32) w1 I1 u4 r
theorem integer_trim_ok (n : Nat) : integer_trim_S (integer_trim n) := by
  intro w0 I0 x1 v2 r3 hI r h
  unfold integer_trim at h
  refine enter Tryz.func46 rfl (Nat.le_of_ble_eq_true rfl) ?_
  have hp : Hp ⟨w0, I0, []⟩ I0 [] w0 := Hp.start hI
  apply go
  apply go
  obtain ⟨y75, q76, h⟩ := bind_some h
  refine W.cut (γ := ((List Int) × Value)) (fun g => [(0, (g.2))]) (fun g w' => y75 = (g.1) ∧ w0 = w' ∧ RepS (dI .u32) w' I0 (g.2) (g.1)) ?_ ?_
  ·
    apply go
    refine W.loop q76 (γ := Value) (fun s g => [(0, (g))]) (fun s g w' => w0 = w' ∧ RepS (dI .u32) w' I0 (g) (s)) v2 (.c rfl .n) ⟨rfl, r3⟩ ?_
    rintro x96 v97 _ y121 ⟨rfl, r98⟩ q122 q123
    unfold integer_trim_L1 at q122
    apply go
    obtain ⟨y131, q132, q122⟩ := bind_some q122
    refine W.cut (γ := Bool) (fun g => [(0, v97), (14, (.bool (g)))]) (fun g w' => y131 = (g) ∧ w0 = w') ?_ ?_
    ·
      apply go
      refine ev0 (rn_len rfl rfl Tryz.underlying22 r98) ?_
      refine sel_of (fun hc => ?_) (fun hc => ?_)
      ·
        have q132 := cond_t q132 hc
        refine ev0 (rn_len rfl rfl Tryz.underlying22 r98) ?_
        obtain ⟨x133, q134, q132⟩ := bind_some q132
        refine ev_index rfl rfl rfl Tryz.underlying22 T45 r98 q134 ?_
        intro p135 c136 d137 a138
        obtain rfl : c136 = [(.int .u32 x133)] := d137
        refine ev (rn_load rfl rfl (run_loadVar1 T45 (a138.2 0 _ rfl))) ?_
        obtain rfl := Option.some.inj q132
        exact ⟨(x133 == 0), (.c rfl (.c rfl .n)), rfl, rfl⟩
      ·
        have q132 := cond_f q132 hc
        obtain rfl := Option.some.inj q132
        exact ⟨false, (.c rfl (.c rfl .n)), rfl, rfl⟩
    ·
      rintro x130 _ ⟨hy, rfl⟩
      replace hy := hy.symm
      subst hy
      apply go
      refine sel_of (fun hc => ?_) (fun hc => ?_)
      ·
        have q122 := cond_t q122 hc
        apply go
        apply go
        apply go
        refine ev0 (rn_len rfl rfl Tryz.underlying22 r98) ?_
        obtain ⟨x139, q140, q122⟩ := bind_some q122
        refine ev_slice (kl := .i64) (kh := .i64) rfl rfl rfl rfl Tryz.underlying22 T45 r98 q140 ?_
        intro v141 r142
        exact ⟨_, (Option.some.inj q122).symm, v141, (.c rfl .n), ⟨rfl, r142⟩⟩
      ·
        have q122 := cond_f q122 hc
        apply go
        have q143 := congrArg some (q123 _ (Option.some.inj q122).symm)
        obtain rfl := Option.some.inj q143
        exact ⟨(x96, v97), (.c rfl .n), rfl, rfl, r98⟩
  ·
    rintro ⟨x72, v73⟩ _ ⟨hy, rfl, r74⟩
    replace hy := hy.symm
    subst hy
    apply go
    apply go
    apply go
    obtain rfl := Option.some.inj h
    exact ⟨I0, v73, rfl, hp, r74⟩

end Go.Proofs.YthhghkcopfnbiaaGreatDoor

namespace Go.Proofs.YthhghkcopfnbiaaGreatDoor
open Go Go.Proofs.YthhghkcopfnbiaaGreatDoor.Gw Go.RowKit
set_option linter.unusedVariables false
attribute [local irreducible] Ev EvQ EvS EvH
def integer_Small_S (f : Int_2 → Option (Int × Bool)) : Prop := ∀ (w0 : World) (I0 : Nat → Prop) (x_0 : Int_2) (v_1 : Value) (r_2 : RepS (dI .u32) w0 I0 v_1 x_0.Mag) (hI : ∀ g, I0 g → g < w0.heap.size) (r : (Int × Bool)), f x_0 = some r →
    Ret Tryz.prog 15 #[(.agg #[(.bool x_0.Neg), v_1])] w0 fun v w1 => v = (.tuple #[(.int .i64 r.1), (.bool r.2)]) ∧ Ch [] w0 w1
theorem integer_Small_ok (n : Nat) : integer_Small_S (integer_Small n) := by
  intro w0 I0 x_0 v_1 r_2 hI r h
  unfold integer_Small at h
  refine enter Tryz.func15 rfl (Nat.le_of_ble_eq_true rfl) ?_
  have hp : Hp ⟨w0, I0, []⟩ I0 [] w0 := Hp.start hI
  apply go
  apply go
  refine ev_boxI hp rfl rfl ?_
  intro p_3 I_4 w_5 hp hs a_6
  replace r_2 := r_2.step hs
  apply go
  apply go
  refine ev0 (rn_field rfl rfl FO24_1) ?_
  refine ev (rn_load rfl rfl (run_loadVar1 T22 (a_6.2 1 _ rfl))) ?_
  obtain ⟨x_7, q_8, h⟩ := bind_some h
  refine ev_call rfl rfl C46 (((integer_trim_ok n) _ _  x_0.Mag v_1 r_2 hp.imm _ q_8).mono ?_)
  rintro _ w_9 ⟨I_a, v_b, hv, hq, r_c⟩
  replace hv := hv.symm
  subst hv
  have hs := hq.st
  have hp := hp.join0 hq
  replace a_6 := a_6.step hs
  replace r_2 := r_2.step hs
  apply go
  apply go
  apply go
  refine ev0 (rn_len rfl rfl Tryz.underlying22 r_c) ?_
  apply go
  refine sel_of (fun hc => ?_) (fun hc => ?_)
  ·
    have h := cond_t h hc
    apply go
    apply go
    apply go
    obtain rfl := Option.some.inj h
    exact ⟨rfl, hp.ch⟩
  ·
    have h := cond_f h hc
    apply go
    apply go
    apply go
    obtain ⟨y_d, q_e, h⟩ := bind_some h
    refine W.cut (γ := Int) (fun g => [(1, (.pointer (some (p_3)))), (5, (.int .u64 (g)))]) (fun g w' => y_d = (g) ∧ w_9 = w') ?_ ?_
    ·
      apply go
      apply go
      refine ev0 (rn_len rfl rfl Tryz.underlying22 r_c) ?_
      apply go
      refine W.loop q_e (γ := Unit) (fun s _ => [(1, (.pointer (some (p_3)))), (5, (.int .u64 (s.1))), (14, v_b), (15, (.int .i64 (x_7.length : Int))), (16, (.int .i64 (s.2)))]) (fun s _ w' => w_9 = w') () (.c rfl (.c rfl (.c rfl (.c rfl (.c rfl .n))))) rfl ?_
      rintro ⟨x_f, x_g⟩ ⟨⟩ _ y_h rfl q_i q_j
      unfold integer_Small_L1 at q_i
      apply go
      apply go
      apply go
      apply go
      refine sel_of (fun hc => ?_) (fun hc => ?_)
      ·
        have q_i := cond_t q_i hc
        apply go
        apply go
        apply go
        apply go
        apply go
        obtain ⟨x_k, q_l, q_i⟩ := bind_some q_i
        refine ev_index rfl rfl rfl Tryz.underlying22 T45 r_c q_l ?_
        intro p_m c_n d_o a_p
        obtain rfl : c_n = [(.int .u32 x_k)] := d_o
        refine ev (rn_load rfl rfl (run_loadVar1 T45 (a_p.2 0 _ rfl))) ?_
        apply go
        refine ev0 (rn_conv rfl rfl U45 Tryz.underlying49) ?_
        obtain ⟨q_q, _, q_i⟩ := need_some q_i
        refine ⟨q_q, ?_⟩
        apply go
        exact ⟨_, (Option.some.inj q_i).symm, (), (.c rfl (.c rfl (.c rfl (.c rfl (.c rfl .n))))), rfl⟩
      ·
        have q_i := cond_f q_i hc
        apply go
        have q_r := congrArg some (q_j _ (Option.some.inj q_i).symm)
        obtain rfl := Option.some.inj q_r
        exact ⟨x_f, (.c rfl (.c rfl .n)), rfl, rfl⟩
    ·
      rintro x_s _ ⟨hy, rfl⟩
      replace hy := hy.symm
      subst hy
      apply go
      apply go
      obtain ⟨y_t, q_u, h⟩ := bind_some h
      refine W.cut (γ := Bool) (fun g => [(1, (.pointer (some (p_3)))), (5, (.int .u64 x_s)), (29, (.bool (g)))]) (fun g w' => y_t = (g) ∧ w_9 = w') ?_ ?_
      ·
        apply go
        refine ev0 (rn_field rfl rfl FO24_0) ?_
        refine ev (rn_load rfl rfl (run_loadVar1 T4 (a_6.2 0 _ rfl))) ?_
        refine sel_of (fun hc => ?_) (fun hc => ?_)
        ·
          have q_u := cond_t q_u hc
          obtain rfl := Option.some.inj q_u
          exact ⟨(decide (x_s ≤ 9223372036854775808)), (.c rfl (.c rfl (.c rfl .n))), rfl, rfl⟩
        ·
          have q_u := cond_f q_u hc
          obtain rfl := Option.some.inj q_u
          exact ⟨false, (.c rfl (.c rfl (.c rfl .n))), rfl, rfl⟩
      ·
        rintro x_v _ ⟨hy, rfl⟩
        replace hy := hy.symm
        subst hy
        apply go
        refine sel_of (fun hc => ?_) (fun hc => ?_)
        ·
          have h := cond_t h hc
          apply go
          apply go
          refine ev0 (rn_conv rfl rfl U49 Tryz.underlying3) ?_
          apply go
          obtain rfl := Option.some.inj h
          exact ⟨rfl, hp.ch⟩
        ·
          have h := cond_f h hc
          obtain ⟨y_w, q_x, h⟩ := bind_some h
          refine W.cut (γ := Bool) (fun g => [(5, (.int .u64 x_s)), (39, (.bool (g)))]) (fun g w' => y_w = (g) ∧ w_9 = w') ?_ ?_
          ·
            apply go
            refine ev0 (rn_field rfl rfl FO24_0) ?_
            refine ev (rn_load rfl rfl (run_loadVar1 T4 (a_6.2 0 _ rfl))) ?_
            refine sel_of (fun hc => ?_) (fun hc => ?_)
            ·
              have q_x := cond_t q_x hc
              obtain rfl := Option.some.inj q_x
              exact ⟨(decide (x_s < 9223372036854775808)), (.c rfl (.c rfl .n)), rfl, rfl⟩
            ·
              have q_x := cond_f q_x hc
              obtain rfl := Option.some.inj q_x
              exact ⟨false, (.c rfl (.c rfl .n)), rfl, rfl⟩
          ·
            rintro x_y _ ⟨hy, rfl⟩
            replace hy := hy.symm
            subst hy
            apply go
            refine sel_of (fun hc => ?_) (fun hc => ?_)
            ·
              have h := cond_t h hc
              apply go
              apply go
              refine ev0 (rn_conv rfl rfl U49 Tryz.underlying3) ?_
              apply go
              obtain rfl := Option.some.inj h
              exact ⟨rfl, hp.ch⟩
            ·
              have h := cond_f h hc
              apply go
              apply go
              apply go
              apply go
              obtain rfl := Option.some.inj h
              exact ⟨rfl, hp.ch⟩

end Go.Proofs.YthhghkcopfnbiaaGreatDoor

namespace Go.Proofs.YthhghkcopfnbiaaGreatDoor
open Go Go.Proofs.YthhghkcopfnbiaaGreatDoor.Gw Go.RowKit
set_option linter.unusedVariables false
attribute [local irreducible] Ev EvQ EvS EvH
def integer_made_S (f : Bool → (List Int) → Option Int_2) : Prop := ∀ (w0 : World) (I0 : Nat → Prop) (x144 : Bool) (x145 : (List Int)) (v146 : Value) (r147 : RepS (dI .u32) w0 I0 v146 x145) (hI : ∀ g, I0 g → g < w0.heap.size) (r : Int_2), f x144 x145 = some r →
    Ret Tryz.prog 49 #[(.bool x144), v146] w0 fun v w1 => ∃ (I1 : Nat → Prop) (u148 : Value), v = (.agg #[(.bool r.Neg), u148]) ∧ Hp ⟨w0, I0, []⟩ I1 [] w1 ∧ RepS (dI .u32) w1 I1 u148 r.Mag
theorem integer_made_ok (n : Nat) : integer_made_S (integer_made n) := by
  intro w0 I0 x144 x145 v146 r147 hI r h
  unfold integer_made at h
  refine enter Tryz.func49 rfl (Nat.le_of_ble_eq_true rfl) ?_
  have hp : Hp ⟨w0, I0, []⟩ I0 [] w0 := Hp.start hI
  apply go
  apply go
  refine ev_alloc hp rfl T24 ?_
  intro g149 w150 hp hs
  replace r147 := r147.step hs
  apply go
  apply go
  obtain ⟨x151, q152, h⟩ := bind_some h
  refine ev_call rfl rfl C46 (((integer_trim_ok n) _ _  x145 v146 r147 hp.imm _ q152).mono ?_)
  rintro _ w153 ⟨I154, v155, hv, hq, r156⟩
  replace hv := hv.symm
  subst hv
  have hs := hq.st
  have hp := hp.join0 hq
  apply go
  apply go
  apply go
  refine ev0 (rn_len rfl rfl Tryz.underlying22 r156) ?_
  apply go
  refine sel_of (fun hc => ?_) (fun hc => ?_)
  ·
    have h := cond_t h hc
    apply go
    apply go
    refine ev0 (fun w => rn_build (cs := [(.bool false), (.slice none 0 0)]) rfl rfl T24 PL24 rfl) ?_
    refine ev_storeA hp (i := 0) (off := 0) (vs := [(.bool false), (.slice none 0 0)]) rfl rfl rfl rfl T24 rfl (Nat.le_of_ble_eq_true rfl) (ones_of rfl) ?_
    intro w157 hp hs
    apply go
    obtain rfl := Option.some.inj h
    refine ⟨_, run_loadVarA T24 rfl (hp.at_ (i := 0) rfl), ?_⟩
    have hp := hp.sel [] (by decide)
    exact ⟨I154, .slice none 0 0, rfl, hp, RepS.nil _ _ _⟩
  ·
    have h := cond_f h hc
    apply go
    apply go
    apply go
    obtain ⟨A158, m159, m160, rfl⟩ := r156.isSl
    refine ev0 (fun w => rn_build (cs := [(.bool x144), (.slice A158 m159 m160)]) rfl rfl T24 PL24 rfl) ?_
    refine ev_storeA hp (i := 0) (off := 0) (vs := [(.bool x144), (.slice A158 m159 m160)]) rfl rfl rfl rfl T24 rfl (Nat.le_of_ble_eq_true rfl) (ones_cons rfl (ones_cons r156.one ones_nil)) ?_
    intro w162 hp hs
    replace r156 := r156.step hs
    apply go
    obtain rfl := Option.some.inj h
    refine ⟨_, run_loadVarA T24 rfl (hp.at_ (i := 0) rfl), ?_⟩
    have hp := hp.sel [] (by decide)
    exact ⟨I154, (.slice A158 m159 m160), rfl, hp, r156⟩

end Go.Proofs.YthhghkcopfnbiaaGreatDoor

namespace Go.Proofs.YthhghkcopfnbiaaGreatDoor
open Go Go.Proofs.YthhghkcopfnbiaaGreatDoor.Gw Go.RowKit
set_option linter.unusedVariables false
attribute [local irreducible] Ev EvQ EvS EvH
def integer_Of_S (f : Int → Option Int_2) : Prop := ∀ (w0 : World) (I0 : Nat → Prop) (x163 : Int) (hI : ∀ g, I0 g → g < w0.heap.size) (r : Int_2), f x163 = some r →
    Ret Tryz.prog 18 #[(.int .i64 x163)] w0 fun v w1 => ∃ (I1 : Nat → Prop) (u164 : Value), v = (.agg #[(.bool r.Neg), u164]) ∧ Hp ⟨w0, I0, []⟩ I1 [] w1 ∧ RepS (dI .u32) w1 I1 u164 r.Mag
theorem integer_Of_ok (n : Nat) : integer_Of_S (integer_Of n) := by
  intro w0 I0 x163 hI r h
  unfold integer_Of at h
  refine enter Tryz.func18 rfl (Nat.le_of_ble_eq_true rfl) ?_
  have hp : Hp ⟨w0, I0, []⟩ I0 [] w0 := Hp.start hI
  apply go
  apply go
  refine ev_alloc hp rfl T24 ?_
  intro g165 w166 hp hs
  apply go
  apply go
  refine ev0 (rn_conv rfl rfl U3 Tryz.underlying49) ?_
  obtain ⟨y168, q169, h⟩ := bind_some h
  refine W.cut (γ := Int) (fun g => [(0, (.int .i64 x163)), (2, (.pointer (some ⟨g165, 0, none⟩))), (3, (.int .u64 (g)))]) (fun g w' => y168 = (g) ∧ w166 = w') ?_ ?_
  ·
    apply go
    apply go
    apply go
    refine sel_of (fun hc => ?_) (fun hc => ?_)
    ·
      have q169 := cond_t q169 hc
      apply go
      obtain rfl := Option.some.inj q169
      exact ⟨(IntKind.u64.wrap (0 - (IntKind.u64.wrap x163))), (.c rfl (.c rfl (.c rfl .n))), rfl, rfl⟩
    ·
      have q169 := cond_f q169 hc
      apply go
      obtain rfl := Option.some.inj q169
      exact ⟨(IntKind.u64.wrap x163), (.c rfl (.c rfl (.c rfl .n))), rfl, rfl⟩
  ·
    rintro x167 _ ⟨hy, rfl⟩
    replace hy := hy.symm
    subst hy
    apply go
    apply go
    refine ev0 (rn_conv rfl rfl U49 Tryz.underlying45) ?_
    refine ⟨by decide, ?_⟩
    refine ev0 (rn_conv rfl rfl U49 Tryz.underlying45) ?_
    refine ev_litN (d := (dI .u32)) (xs := [(IntKind.u32.wrap x167), (IntKind.u32.wrap (x167.fdiv (2 ^ min (32 : Int).toNat (IntKind.u64).bits)))]) (cs := [(.int .u32 (IntKind.u32.wrap x167)), (.int .u32 (IntKind.u32.wrap (x167.fdiv (2 ^ min (32 : Int).toNat (IntKind.u64).bits))))]) hp rfl rfl Tryz.underlying22 T45 (by decide) rfl rfl (Elems.cons (d := (dI .u32)) (xs := _) rfl (Elems.cons (d := (dI .u32)) (xs := _) rfl (Elems.nil _ _ _ _))) ?_
    intro v170 I172 w171 hp hs r173
    obtain ⟨x174, q175, h⟩ := bind_some h
    refine ev_call rfl rfl C49 (((integer_made_ok n) _ _  (decide (x163 < 0)) [(IntKind.u32.wrap x167), (IntKind.u32.wrap (x167.fdiv (2 ^ min (32 : Int).toNat (IntKind.u64).bits)))] v170 r173 hp.imm _ q175).mono ?_)
    rintro _ w176 ⟨I177, v178, hv, hq, r179⟩
    replace hv := hv.symm
    subst hv
    have hs := hq.st
    have hp := hp.join0 hq
    refine ev_storeA hp (i := 0) (off := 0) (vs := [(.bool x174.Neg), v178]) rfl rfl rfl rfl T24 rfl (Nat.le_of_ble_eq_true rfl) (ones_cons rfl (ones_cons r179.one ones_nil)) ?_
    intro w180 hp hs
    replace r179 := r179.step hs
    apply go
    obtain rfl := Option.some.inj h
    refine ⟨_, run_loadVarA T24 rfl (hp.at_ (i := 0) rfl), ?_⟩
    have hp := hp.sel [] (by decide)
    exact ⟨I177, v178, rfl, hp, r179⟩

end Go.Proofs.YthhghkcopfnbiaaGreatDoor

namespace Go.Proofs.YthhghkcopfnbiaaGreatDoor
open Go Go.Proofs.YthhghkcopfnbiaaGreatDoor.Gw Go.RowKit
set_option linter.unusedVariables false
attribute [local irreducible] Ev EvQ EvS EvH
def bits_Len32_S (f : Int → Option Int) : Prop := ∀ (w0 : World) (I0 : Nat → Prop) (x587 : Int) (hI : ∀ g, I0 g → g < w0.heap.size) (r : Int), f x587 = some r →
    Ret Tryz.prog 50 #[(.int .u32 x587)] w0 fun v w1 => v = (.int .i64 r) ∧ Ch [] w0 w1
theorem bits_Len32_ok (n : Nat) : bits_Len32_S (bits_Len32 n) := by
  intro w0 I0 x587 hI r h
  unfold bits_Len32 at h
  refine enter Tryz.func50 rfl (Nat.le_of_ble_eq_true rfl) ?_
  have hp : Hp ⟨w0, I0, []⟩ I0 [] w0 := Hp.start hI
  apply go
  apply go
  obtain ⟨y590, q591, h⟩ := bind_some h
  refine W.cut (γ := (Int × Int)) (fun g => [(0, (.int .u32 (g.1))), (2, (.int .i64 (g.2)))]) (fun g w' => y590 = ((g.1), (g.2)) ∧ w0 = w') ?_ ?_
  ·
    apply go
    apply go
    apply go
    refine sel_of (fun hc => ?_) (fun hc => ?_)
    ·
      have q591 := cond_t q591 hc
      apply go
      apply go
      refine ⟨by decide, ?_⟩
      apply go
      obtain rfl := Option.some.inj q591
      exact ⟨((x587.fdiv (2 ^ min (16 : Int).toNat (IntKind.u32).bits)), 16), (.c rfl (.c rfl .n)), rfl, rfl⟩
    ·
      have q591 := cond_f q591 hc
      apply go
      obtain rfl := Option.some.inj q591
      exact ⟨(x587, 0), (.c rfl (.c rfl .n)), rfl, rfl⟩
  ·
    rintro ⟨x588, x589⟩ _ ⟨hy, rfl⟩
    replace hy := hy.symm
    subst hy
    obtain ⟨y594, q595, h⟩ := bind_some h
    refine W.cut (γ := (Int × Int)) (fun g => [(0, (.int .u32 (g.1))), (2, (.int .i64 (g.2)))]) (fun g w' => y594 = ((g.1), (g.2)) ∧ w0 = w') ?_ ?_
    ·
      apply go
      apply go
      apply go
      refine sel_of (fun hc => ?_) (fun hc => ?_)
      ·
        have q595 := cond_t q595 hc
        apply go
        apply go
        refine ⟨by decide, ?_⟩
        apply go
        obtain rfl := Option.some.inj q595
        exact ⟨((x588.fdiv (2 ^ min (8 : Int).toNat (IntKind.u32).bits)), (IntKind.i64.wrap (x589 + 8))), (.c rfl (.c rfl .n)), rfl, rfl⟩
      ·
        have q595 := cond_f q595 hc
        apply go
        obtain rfl := Option.some.inj q595
        exact ⟨(x588, x589), (.c rfl (.c rfl .n)), rfl, rfl⟩
    ·
      rintro ⟨x592, x593⟩ _ ⟨hy, rfl⟩
      replace hy := hy.symm
      subst hy
      apply go
      apply go
      refine ev0 (rn_conv rfl rfl U45 Tryz.underlying5) ?_
      obtain ⟨x596, q597, h⟩ := bind_some h
      refine ev0 (rn_indexS rfl rfl rfl Tryz.underlying9 q597) ?_
      refine ev0 (rn_conv rfl rfl U5 Tryz.underlying3) ?_
      apply go
      obtain rfl := Option.some.inj h
      exact ⟨rfl, hp.ch⟩

end Go.Proofs.YthhghkcopfnbiaaGreatDoor

namespace Go.Proofs.YthhghkcopfnbiaaGreatDoor
open Go Go.Proofs.YthhghkcopfnbiaaGreatDoor.Gw Go.RowKit
set_option linter.unusedVariables false
attribute [local irreducible] Ev EvQ EvS EvH
def integer_Bits_S (f : Int_2 → Option Int) : Prop := ∀ (w0 : World) (I0 : Nat → Prop) (x_0 : Int_2) (v_1 : Value) (r_2 : RepS (dI .u32) w0 I0 v_1 x_0.Mag) (hI : ∀ g, I0 g → g < w0.heap.size) (r : Int), f x_0 = some r →
    Ret Tryz.prog 19 #[(.agg #[(.bool x_0.Neg), v_1])] w0 fun v w1 => v = (.int .i64 r) ∧ Ch [] w0 w1
theorem integer_Bits_ok (n : Nat) : integer_Bits_S (integer_Bits n) := by
  intro w0 I0 x_0 v_1 r_2 hI r h
  unfold integer_Bits at h
  refine enter Tryz.func19 rfl (Nat.le_of_ble_eq_true rfl) ?_
  have hp : Hp ⟨w0, I0, []⟩ I0 [] w0 := Hp.start hI
  apply go
  apply go
  refine ev_boxI hp rfl rfl ?_
  intro p_3 I_4 w_5 hp hs a_6
  replace r_2 := r_2.step hs
  apply go
  apply go
  refine ev0 (rn_field rfl rfl FO24_1) ?_
  refine ev (rn_load rfl rfl (run_loadVar1 T22 (a_6.2 1 _ rfl))) ?_
  obtain ⟨x_7, q_8, h⟩ := bind_some h
  refine ev_call rfl rfl C46 (((integer_trim_ok n) _ _  x_0.Mag v_1 r_2 hp.imm _ q_8).mono ?_)
  rintro _ w_9 ⟨I_a, v_b, hv, hq, r_c⟩
  replace hv := hv.symm
  subst hv
  have hs := hq.st
  have hp := hp.join0 hq
  apply go
  apply go
  apply go
  refine ev0 (rn_len rfl rfl Tryz.underlying22 r_c) ?_
  apply go
  refine sel_of (fun hc => ?_) (fun hc => ?_)
  ·
    have h := cond_t h hc
    apply go
    apply go
    apply go
    obtain rfl := Option.some.inj h
    exact ⟨rfl, hp.ch⟩
  ·
    have h := cond_f h hc
    apply go
    apply go
    apply go
    refine ev0 (rn_len rfl rfl Tryz.underlying22 r_c) ?_
    refine ev0 (rn_len rfl rfl Tryz.underlying22 r_c) ?_
    obtain ⟨x_d, q_e, h⟩ := bind_some h
    refine ev_index rfl rfl rfl Tryz.underlying22 T45 r_c q_e ?_
    intro p_f c_g d_h a_i
    obtain rfl : c_g = [(.int .u32 x_d)] := d_h
    refine ev (rn_load rfl rfl (run_loadVar1 T45 (a_i.2 0 _ rfl))) ?_
    obtain ⟨x_j, q_k, h⟩ := bind_some h
    refine ev_call rfl rfl C50 (((bits_Len32_ok n) _ _  x_d hp.imm _ q_k).mono ?_)
    rintro _ w_l ⟨rfl, hc⟩
    have hs := hp.stp hc
    replace hp := hp.ext hc
    apply go
    obtain rfl := Option.some.inj h
    exact ⟨rfl, hp.ch⟩

end Go.Proofs.YthhghkcopfnbiaaGreatDoor

namespace Go.Proofs.YthhghkcopfnbiaaGreatDoor
open Go Go.Proofs.YthhghkcopfnbiaaGreatDoor.Gw Go.RowKit
set_option linter.unusedVariables false
attribute [local irreducible] Ev EvQ EvS EvH
def integer_compare_S (f : (List Int) → (List Int) → Option Int) : Prop := ∀ (w0 : World) (I0 : Nat → Prop) (x181 : (List Int)) (v182 : Value) (r183 : RepS (dI .u32) w0 I0 v182 x181) (x184 : (List Int)) (v185 : Value) (r186 : RepS (dI .u32) w0 I0 v185 x184) (hI : ∀ g, I0 g → g < w0.heap.size) (r : Int), f x181 x184 = some r →
    Ret Tryz.prog 48 #[v182, v185] w0 fun v w1 => v = (.int .i64 r) ∧ Ch [] w0 w1
theorem integer_compare_ok (n : Nat) : integer_compare_S (integer_compare n) := by
  intro w0 I0 x181 v182 r183 x184 v185 r186 hI r h
  unfold integer_compare at h
  refine enter Tryz.func48 rfl (Nat.le_of_ble_eq_true rfl) ?_
  have hp : Hp ⟨w0, I0, []⟩ I0 [] w0 := Hp.start hI
  apply go
  apply go
  apply go
  apply go
  apply go
  refine ev0 (rn_len rfl rfl Tryz.underlying22 r183) ?_
  refine ev0 (rn_len rfl rfl Tryz.underlying22 r186) ?_
  apply go
  refine sel_of (fun hc => ?_) (fun hc => ?_)
  ·
    have h := cond_t h hc
    apply go
    apply go
    apply go
    refine ev0 (rn_len rfl rfl Tryz.underlying22 r183) ?_
    refine ev0 (rn_len rfl rfl Tryz.underlying22 r186) ?_
    apply go
    refine sel_of (fun hc => ?_) (fun hc => ?_)
    ·
      have h := cond_t h hc
      apply go
      apply go
      apply go
      obtain rfl := Option.some.inj h
      exact ⟨rfl, hp.ch⟩
    ·
      have h := cond_f h hc
      apply go
      apply go
      apply go
      apply go
      obtain rfl := Option.some.inj h
      exact ⟨rfl, hp.ch⟩
  ·
    have h := cond_f h hc
    apply go
    obtain ⟨y275, q276, h⟩ := bind_some h
    refine W.cut (γ := Unit) (fun _ => []) (fun _ w' => y275 = .go () ∧ Hp ⟨w0, I0, []⟩ I0 [] w') ?_ ?_
    ·
      apply go
      apply go
      refine ev0 (rn_len rfl rfl Tryz.underlying22 r183) ?_
      apply go
      refine W.loop q276 (γ := Unit) (fun s _ => [(0, v182), (1, v185), (5, (.int .i64 (s)))]) (fun s _ w' => Hp ⟨w0, I0, []⟩ I0 [] w' ∧ RepS (dI .u32) w' I0 v182 x181 ∧ RepS (dI .u32) w' I0 v185 x184) () (.c rfl (.c rfl (.c rfl .n))) ⟨hp, r183, r186⟩ ?_
      rintro x303 ⟨⟩ w331 y332 ⟨hp, r183, r186⟩ q333 q334
      unfold integer_compare_L1 at q333
      apply go
      apply go
      apply go
      apply go
      refine sel_of (fun hc => ?_) (fun hc => ?_)
      ·
        have q333 := cond_t q333 hc
        apply go
        apply go
        apply go
        apply go
        refine W.quiet (fun w' => Ch [] w331 w') MX (by kernel_rfl) (Ch.drew [] w331) ?_
        obtain ⟨x335, q336, q333⟩ := bind_some q333
        refine evq_index rfl rfl rfl Tryz.underlying22 T45 r183 q336 ?_
        intro p337 c338 d339 a340
        obtain rfl : c338 = [(.int .u32 x335)] := d339
        refine evq (fun w' hw => rn_load rfl rfl (run_loadVar1 T45 ((a340.step (hp.stp hw)).2 0 _ rfl))) ?_
        obtain ⟨x341, q342, q333⟩ := bind_some q333
        refine evq_index rfl rfl rfl Tryz.underlying22 T45 r186 q342 ?_
        intro p343 c344 d345 a346
        obtain rfl : c344 = [(.int .u32 x341)] := d345
        refine evq (fun w' hw => rn_load rfl rfl (run_loadVar1 T45 ((a346.step (hp.stp hw)).2 0 _ rfl))) ?_
        intro w347 hc
        have hs := hp.stp hc
        replace hp := hp.ext hc
        replace r183 := r183.step hs
        replace r186 := r186.step hs
        apply go
        refine sel_of (fun hc => ?_) (fun hc => ?_)
        ·
          have q333 := cond_t q333 hc
          apply go
          apply go
          refine W.quiet (fun w' => Ch [] w347 w') MX (by kernel_rfl) (Ch.drew [] w347) ?_
          obtain ⟨x348, q349, q333⟩ := bind_some q333
          refine evq_index rfl rfl rfl Tryz.underlying22 T45 r183 q349 ?_
          intro p350 c351 d352 a353
          obtain rfl : c351 = [(.int .u32 x348)] := d352
          refine evq (fun w' hw => rn_load rfl rfl (run_loadVar1 T45 ((a353.step (hp.stp hw)).2 0 _ rfl))) ?_
          obtain ⟨x354, q355, q333⟩ := bind_some q333
          refine evq_index rfl rfl rfl Tryz.underlying22 T45 r186 q355 ?_
          intro p356 c357 d358 a359
          obtain rfl : c357 = [(.int .u32 x354)] := d358
          refine evq (fun w' hw => rn_load rfl rfl (run_loadVar1 T45 ((a359.step (hp.stp hw)).2 0 _ rfl))) ?_
          intro w360 hc
          have hs := hp.stp hc
          replace hp := hp.ext hc
          apply go
          refine sel_of (fun hc => ?_) (fun hc => ?_)
          ·
            have q333 := cond_t q333 hc
            apply go
            apply go
            apply go
            have q361 := congrArg some (q334 _ (Option.some.inj q333).symm)
            obtain rfl := Option.some.inj q361
            obtain rfl := Option.some.inj h
            exact ⟨rfl, hp.ch⟩
          ·
            have q333 := cond_f q333 hc
            apply go
            apply go
            apply go
            apply go
            have q362 := congrArg some (q334 _ (Option.some.inj q333).symm)
            obtain rfl := Option.some.inj q362
            obtain rfl := Option.some.inj h
            exact ⟨rfl, hp.ch⟩
        ·
          have q333 := cond_f q333 hc
          apply go
          apply go
          exact ⟨_, (Option.some.inj q333).symm, (), (.c rfl (.c rfl (.c rfl .n))), ⟨hp, r183, r186⟩⟩
      ·
        have q333 := cond_f q333 hc
        apply go
        have q363 := congrArg some (q334 _ (Option.some.inj q333).symm)
        obtain rfl := Option.some.inj q363
        exact ⟨(), .n, rfl, hp⟩
    ·
      rintro ⟨⟩ w274 ⟨hy, hp⟩
      replace hy := hy.symm
      subst hy
      apply go
      apply go
      apply go
      obtain rfl := Option.some.inj h
      exact ⟨rfl, hp.ch⟩

end Go.Proofs.YthhghkcopfnbiaaGreatDoor

namespace Go.Proofs.YthhghkcopfnbiaaGreatDoor
open Go Go.Proofs.YthhghkcopfnbiaaGreatDoor.Gw Go.RowKit
set_option linter.unusedVariables false
attribute [local irreducible] Ev EvQ EvS EvH
def bits_Add32_S (f : Int → Int → Int → Option (Int × Int)) : Prop := ∀ (w0 : World) (I0 : Nat → Prop) (x900 : Int) (x901 : Int) (x902 : Int) (hI : ∀ g, I0 g → g < w0.heap.size) (r : (Int × Int)), f x900 x901 x902 = some r →
    Ret Tryz.prog 72 #[(.int .u32 x900), (.int .u32 x901), (.int .u32 x902)] w0 fun v w1 => v = (.tuple #[(.int .u32 r.1), (.int .u32 r.2)]) ∧ Ch [] w0 w1
theorem bits_Add32_ok (n : Nat) : bits_Add32_S (bits_Add32 n) := by
  intro w0 I0 x900 x901 x902 hI r h
  unfold bits_Add32 at h
  refine enter Tryz.func72 rfl (Nat.le_of_ble_eq_true rfl) ?_
  have hp : Hp ⟨w0, I0, []⟩ I0 [] w0 := Hp.start hI
  apply go
  apply go
  apply go
  apply go
  refine ev0 (rn_conv rfl rfl U45 Tryz.underlying49) ?_
  refine ev0 (rn_conv rfl rfl U45 Tryz.underlying49) ?_
  refine ev0 (rn_conv rfl rfl U45 Tryz.underlying49) ?_
  apply go
  apply go
  refine ev0 (rn_conv rfl rfl U49 Tryz.underlying45) ?_
  apply go
  apply go
  refine ⟨by decide, ?_⟩
  refine ev0 (rn_conv rfl rfl U49 Tryz.underlying45) ?_
  apply go
  obtain rfl := Option.some.inj h
  exact ⟨rfl, hp.ch⟩

end Go.Proofs.YthhghkcopfnbiaaGreatDoor

namespace Go.Proofs.YthhghkcopfnbiaaGreatDoor
open Go Go.Proofs.YthhghkcopfnbiaaGreatDoor.Gw Go.RowKit
set_option linter.unusedVariables false
attribute [local irreducible] Ev EvQ EvS EvH
def integer_plus_S (f : (List Int) → (List Int) → Option (List Int)) : Prop := ∀ (w0 : World) (I0 : Nat → Prop) (x_0 : (List Int)) (v_1 : Value) (r_2 : RepS (dI .u32) w0 I0 v_1 x_0) (x_3 : (List Int)) (v_4 : Value) (r_5 : RepS (dI .u32) w0 I0 v_4 x_3) (hI : ∀ g, I0 g → g < w0.heap.size) (r : (List Int)), f x_0 x_3 = some r →
    Ret Tryz.prog 65 #[v_1, v_4] w0 fun v w1 => ∃ (I1 : Nat → Prop) (u_6 : Value), v = u_6 ∧ Hp ⟨w0, I0, []⟩ I1 [] w1 ∧ RepS (dI .u32) w1 I1 u_6 r
theorem integer_plus_ok (n : Nat) : integer_plus_S (integer_plus n) := by
  intro w0 I0 x_0 v_1 r_2 x_3 v_4 r_5 hI r h
  unfold integer_plus at h
  refine enter Tryz.func65 rfl (Nat.le_of_ble_eq_true rfl) ?_
  have hp : Hp ⟨w0, I0, []⟩ I0 [] w0 := Hp.start hI
  apply go
  apply go
  obtain ⟨y_6, q_7, h⟩ := bind_some h
  refine W.cut (γ := ((List Int) × (List Int) × Value × Value)) (fun g => [(0, (g.2.2.1)), (1, (g.2.2.2))]) (fun g w' => y_6 = ((g.1), (g.2.1)) ∧ w0 = w' ∧ RepS (dI .u32) w' I0 (g.2.2.1) (g.1) ∧ RepS (dI .u32) w' I0 (g.2.2.2) (g.2.1)) ?_ ?_
  ·
    apply go
    apply go
    refine ev0 (rn_len rfl rfl Tryz.underlying22 r_2) ?_
    refine ev0 (rn_len rfl rfl Tryz.underlying22 r_5) ?_
    apply go
    refine sel_of (fun hc => ?_) (fun hc => ?_)
    ·
      have q_7 := cond_t q_7 hc
      apply go
      obtain rfl := Option.some.inj q_7
      exact ⟨(x_3, x_0, v_4, v_1), (.c rfl (.c rfl .n)), rfl, rfl, r_5, r_2⟩
    ·
      have q_7 := cond_f q_7 hc
      apply go
      obtain rfl := Option.some.inj q_7
      exact ⟨(x_0, x_3, v_1, v_4), (.c rfl (.c rfl .n)), rfl, rfl, r_2, r_5⟩
  ·
    rintro ⟨x_8, x_9, v_a, v_b⟩ _ ⟨hy, rfl, r_c, r_d⟩
    replace hy := hy.symm
    subst hy
    apply go
    apply go
    refine ev0 (rn_len rfl rfl Tryz.underlying22 r_c) ?_
    obtain ⟨x_e, q_f, h⟩ := bind_some h
    refine ev_makeC (d := (dI .u32)) (x0 := 0) hp rfl rfl rfl Tryz.underlying22 T45 (fun _ _ => rfl) (Nat.le_of_ble_eq_true rfl) q_f ?_
    intro v_g e_h w_i hp hs o_j
    replace r_c := r_c.step hs
    replace r_d := r_d.step hs
    apply go
    apply go
    obtain ⟨y_k, q_l, h⟩ := bind_some h
    refine W.cut (γ := ((List Int) × Int × Value × Ent × (Nat → Prop))) (fun g => [(5, (g.2.2.1)), (6, (.int .u32 (g.2.1)))]) (fun g w' => y_k = ((g.1), (g.2.1)) ∧ Hp ⟨w0, I0, []⟩ (g.2.2.2.2) [(g.2.2.2.1)] w' ∧ OwnS (dI .u32) 45 w' (g.2.2.2.2) (g.2.2.1) (g.2.2.2.1) (g.1)) ?_ ?_
    ·
      apply go
      apply go
      refine ev0 (rn_len rfl rfl Tryz.underlying22 r_c) ?_
      apply go
      refine W.loop q_l (γ := (Value × Ent × (Nat → Prop))) (fun s g => [(1, v_b), (5, (g.1)), (6, (.int .u32 (s.2.1))), (22, v_a), (23, (.int .i64 (x_8.length : Int))), (24, (.int .i64 (s.2.2)))]) (fun s g w' => Hp ⟨w0, I0, []⟩ (g.2.2) [(g.2.1)] w' ∧ RepS (dI .u32) w' (g.2.2) v_b x_9 ∧ OwnS (dI .u32) 45 w' (g.2.2) (g.1) (g.2.1) (s.1) ∧ RepS (dI .u32) w' (g.2.2) v_a x_8) (v_g, e_h, I0) (.c rfl (.c rfl (.c rfl (.c rfl (.c rfl (.c rfl .n)))))) ⟨hp, r_d, o_j, r_c⟩ ?_
      rintro ⟨x_m, x_n, x_o⟩ ⟨v_p, e_q, I_r⟩ w_s y_t ⟨hp, r_d, o_u, r_c⟩ q_v q_w
      unfold integer_plus_L1 at q_v
      apply go
      apply go
      apply go
      apply go
      refine sel_of (fun hc => ?_) (fun hc => ?_)
      ·
        have q_v := cond_t q_v hc
        apply go
        apply go
        apply go
        apply go
        apply go
        obtain ⟨x_x, q_y, q_v⟩ := bind_some q_v
        refine ev_index rfl rfl rfl Tryz.underlying22 T45 r_c q_y ?_
        intro p_z c_10 d_11 a_12
        obtain rfl : c_10 = [(.int .u32 x_x)] := d_11
        refine ev (rn_load rfl rfl (run_loadVar1 T45 (a_12.2 0 _ rfl))) ?_
        apply go
        apply go
        obtain ⟨y_13, q_14, q_v⟩ := bind_some q_v
        refine W.cut (γ := Int) (fun g => [(1, v_b), (5, v_p), (6, (.int .u32 x_n)), (8, (.int .u32 x_x)), (9, (.int .u32 (g))), (22, v_a), (23, (.int .i64 (x_8.length : Int))), (24, (.int .i64 x_o))]) (fun g w' => y_13 = (g) ∧ w_s = w') ?_ ?_
        ·
          apply go
          apply go
          refine ev0 (rn_len rfl rfl Tryz.underlying22 r_d) ?_
          apply go
          refine sel_of (fun hc => ?_) (fun hc => ?_)
          ·
            have q_14 := cond_t q_14 hc
            apply go
            obtain ⟨x_15, q_16, q_14⟩ := bind_some q_14
            refine ev_index rfl rfl rfl Tryz.underlying22 T45 r_d q_16 ?_
            intro p_17 c_18 d_19 a_1a
            obtain rfl : c_18 = [(.int .u32 x_15)] := d_19
            refine ev (rn_load rfl rfl (run_loadVar1 T45 (a_1a.2 0 _ rfl))) ?_
            obtain rfl := Option.some.inj q_14
            exact ⟨x_15, (.c rfl (.c rfl (.c rfl (.c rfl (.c rfl (.c rfl (.c rfl (.c rfl .n)))))))), rfl, rfl⟩
          ·
            have q_14 := cond_f q_14 hc
            apply go
            obtain rfl := Option.some.inj q_14
            exact ⟨0, (.c rfl (.c rfl (.c rfl (.c rfl (.c rfl (.c rfl (.c rfl (.c rfl .n)))))))), rfl, rfl⟩
        ·
          rintro x_1b _ ⟨hy, rfl⟩
          replace hy := hy.symm
          subst hy
          apply go
          apply go
          apply go
          apply go
          obtain ⟨⟨x_1c, x_1d⟩, q_1e, q_v⟩ := bind_some q_v
          refine ev_call rfl rfl C72 (((bits_Add32_ok n) _ _  x_x x_1b x_n hp.imm _ q_1e).mono ?_)
          rintro _ w_1f ⟨rfl, hc⟩
          have hs := hp.stp hc
          replace hp := hp.ext hc
          replace r_d := r_d.step hs
          replace o_u := o_u.step hs
          replace r_c := r_c.step hs
          apply go
          refine ev_litN (d := (dI .u32)) (xs := [x_1c]) (cs := [(.int .u32 x_1c)]) hp rfl rfl Tryz.underlying22 T45 (by decide) rfl rfl (Elems.cons (d := (dI .u32)) (xs := _) rfl (Elems.nil _ _ _ _)) ?_
          intro v_1g I_1h w_1i hp hs r_1j
          replace r_d := r_d.step hs
          replace r_c := r_c.step hs
          replace o_u := o_u.step hs
          obtain ⟨x_1k, q_1l, q_v⟩ := bind_some q_v
          refine ev_append hp (i := 0) rfl rfl rfl rfl Tryz.underlying22 T45 rfl rfl o_u r_1j q_1l ?_
          rintro v_1m e_1n w_1o hp hs o_1p
          replace r_d := r_d.step hs
          replace r_c := r_c.step hs
          apply go
          exact ⟨_, (Option.some.inj q_v).symm, (v_1m, e_1n, I_1h), (.c rfl (.c rfl (.c rfl (.c rfl (.c rfl (.c rfl .n)))))), ⟨hp, r_d, o_1p, r_c⟩⟩
      ·
        have q_v := cond_f q_v hc
        apply go
        have q_1q := congrArg some (q_w _ (Option.some.inj q_v).symm)
        obtain rfl := Option.some.inj q_1q
        exact ⟨(x_m, x_n, v_p, e_q, I_r), (.c rfl (.c rfl .n)), rfl, hp, o_u⟩
    ·
      rintro ⟨x_1r, x_1s, v_1t, e_1u, I_1v⟩ w_1w ⟨hy, hp, o_1x⟩
      replace hy := hy.symm
      subst hy
      apply go
      apply go
      refine ev_litN (d := (dI .u32)) (xs := [x_1s]) (cs := [(.int .u32 x_1s)]) hp rfl rfl Tryz.underlying22 T45 (by decide) rfl rfl (Elems.cons (d := (dI .u32)) (xs := _) rfl (Elems.nil _ _ _ _)) ?_
      intro v_1y I_1z w_20 hp hs r_21
      replace o_1x := o_1x.step hs
      obtain ⟨x_22, q_23, h⟩ := bind_some h
      refine ev_append hp (i := 0) rfl rfl rfl rfl Tryz.underlying22 T45 rfl rfl o_1x r_21 q_23 ?_
      rintro v_24 e_25 w_26 hp hs o_27
      apply go
      obtain rfl := Option.some.inj h
      have r_28 := o_27.frz hp (i := 0) rfl
      obtain ⟨hp, hs⟩ := freeze_hp hp (i := 0) rfl
      have hp := hp.sel [] (by decide)
      exact ⟨(Ad I_1z e_25), v_24, rfl, hp, r_28⟩

end Go.Proofs.YthhghkcopfnbiaaGreatDoor

namespace Go.Proofs.YthhghkcopfnbiaaGreatDoor
open Go Go.Proofs.YthhghkcopfnbiaaGreatDoor.Gw Go.RowKit
set_option linter.unusedVariables false
attribute [local irreducible] Ev EvQ EvS EvH
def bits_Sub32_S (f : Int → Int → Int → Option (Int × Int)) : Prop := ∀ (w0 : World) (I0 : Nat → Prop) (x897 : Int) (x898 : Int) (x899 : Int) (hI : ∀ g, I0 g → g < w0.heap.size) (r : (Int × Int)), f x897 x898 x899 = some r →
    Ret Tryz.prog 71 #[(.int .u32 x897), (.int .u32 x898), (.int .u32 x899)] w0 fun v w1 => v = (.tuple #[(.int .u32 r.1), (.int .u32 r.2)]) ∧ Ch [] w0 w1
theorem bits_Sub32_ok (n : Nat) : bits_Sub32_S (bits_Sub32 n) := by
  intro w0 I0 x897 x898 x899 hI r h
  unfold bits_Sub32 at h
  refine enter Tryz.func71 rfl (Nat.le_of_ble_eq_true rfl) ?_
  have hp : Hp ⟨w0, I0, []⟩ I0 [] w0 := Hp.start hI
  apply go
  apply go
  apply go
  apply go
  apply go
  apply go
  refine ⟨by decide, ?_⟩
  apply go
  obtain rfl := Option.some.inj h
  exact ⟨rfl, hp.ch⟩

end Go.Proofs.YthhghkcopfnbiaaGreatDoor

namespace Go.Proofs.YthhghkcopfnbiaaGreatDoor
open Go Go.Proofs.YthhghkcopfnbiaaGreatDoor.Gw Go.RowKit
set_option linter.unusedVariables false
attribute [local irreducible] Ev EvQ EvS EvH
def integer_minus_S (f : (List Int) → (List Int) → Option (List Int)) : Prop := ∀ (w0 : World) (I0 : Nat → Prop) (x_0 : (List Int)) (v_1 : Value) (r_2 : RepS (dI .u32) w0 I0 v_1 x_0) (x_3 : (List Int)) (v_4 : Value) (r_5 : RepS (dI .u32) w0 I0 v_4 x_3) (hI : ∀ g, I0 g → g < w0.heap.size) (r : (List Int)), f x_0 x_3 = some r →
    Ret Tryz.prog 67 #[v_1, v_4] w0 fun v w1 => ∃ (I1 : Nat → Prop) (u_6 : Value), v = u_6 ∧ Hp ⟨w0, I0, []⟩ I1 [] w1 ∧ RepS (dI .u32) w1 I1 u_6 r
theorem integer_minus_ok (n : Nat) : integer_minus_S (integer_minus n) := by
  intro w0 I0 x_0 v_1 r_2 x_3 v_4 r_5 hI r h
  unfold integer_minus at h
  refine enter Tryz.func67 rfl (Nat.le_of_ble_eq_true rfl) ?_
  have hp : Hp ⟨w0, I0, []⟩ I0 [] w0 := Hp.start hI
  apply go
  apply go
  apply go
  apply go
  refine ev0 (rn_len rfl rfl Tryz.underlying22 r_2) ?_
  obtain ⟨x_6, q_7, h⟩ := bind_some h
  refine ev_makeC (d := (dI .u32)) (x0 := 0) hp rfl rfl rfl Tryz.underlying22 T45 (fun _ _ => rfl) (Nat.le_of_ble_eq_true rfl) q_7 ?_
  intro v_8 e_9 w_a hp hs o_b
  replace r_2 := r_2.step hs
  replace r_5 := r_5.step hs
  apply go
  apply go
  obtain ⟨y_c, q_d, h⟩ := bind_some h
  refine W.cut (γ := ((List Int) × Value × Ent × (Nat → Prop))) (fun g => [(5, (g.2.1))]) (fun g w' => y_c = (g.1) ∧ Hp ⟨w0, I0, []⟩ (g.2.2.2) [(g.2.2.1)] w' ∧ OwnS (dI .u32) 45 w' (g.2.2.2) (g.2.1) (g.2.2.1) (g.1)) ?_ ?_
  ·
    apply go
    apply go
    refine ev0 (rn_len rfl rfl Tryz.underlying22 r_2) ?_
    apply go
    refine W.loop q_d (γ := (Value × Ent × (Nat → Prop))) (fun s g => [(1, v_4), (5, (g.1)), (6, (.int .u32 (s.2.1))), (14, v_1), (15, (.int .i64 (x_0.length : Int))), (16, (.int .i64 (s.2.2)))]) (fun s g w' => Hp ⟨w0, I0, []⟩ (g.2.2) [(g.2.1)] w' ∧ RepS (dI .u32) w' (g.2.2) v_4 x_3 ∧ OwnS (dI .u32) 45 w' (g.2.2) (g.1) (g.2.1) (s.1) ∧ RepS (dI .u32) w' (g.2.2) v_1 x_0) (v_8, e_9, I0) (.c rfl (.c rfl (.c rfl (.c rfl (.c rfl (.c rfl .n)))))) ⟨hp, r_5, o_b, r_2⟩ ?_
    rintro ⟨x_e, x_f, x_g⟩ ⟨v_h, e_i, I_j⟩ w_k y_l ⟨hp, r_5, o_m, r_2⟩ q_n q_o
    unfold integer_minus_L1 at q_n
    apply go
    apply go
    apply go
    apply go
    refine sel_of (fun hc => ?_) (fun hc => ?_)
    ·
      have q_n := cond_t q_n hc
      apply go
      apply go
      apply go
      apply go
      apply go
      obtain ⟨x_p, q_q, q_n⟩ := bind_some q_n
      refine ev_index rfl rfl rfl Tryz.underlying22 T45 r_2 q_q ?_
      intro p_r c_s d_t a_u
      obtain rfl : c_s = [(.int .u32 x_p)] := d_t
      refine ev (rn_load rfl rfl (run_loadVar1 T45 (a_u.2 0 _ rfl))) ?_
      apply go
      apply go
      obtain ⟨y_v, q_w, q_n⟩ := bind_some q_n
      refine W.cut (γ := Int) (fun g => [(1, v_4), (5, v_h), (6, (.int .u32 x_f)), (8, (.int .u32 x_p)), (9, (.int .u32 (g))), (14, v_1), (15, (.int .i64 (x_0.length : Int))), (16, (.int .i64 x_g))]) (fun g w' => y_v = (g) ∧ w_k = w') ?_ ?_
      ·
        apply go
        apply go
        refine ev0 (rn_len rfl rfl Tryz.underlying22 r_5) ?_
        apply go
        refine sel_of (fun hc => ?_) (fun hc => ?_)
        ·
          have q_w := cond_t q_w hc
          apply go
          obtain ⟨x_x, q_y, q_w⟩ := bind_some q_w
          refine ev_index rfl rfl rfl Tryz.underlying22 T45 r_5 q_y ?_
          intro p_z c_10 d_11 a_12
          obtain rfl : c_10 = [(.int .u32 x_x)] := d_11
          refine ev (rn_load rfl rfl (run_loadVar1 T45 (a_12.2 0 _ rfl))) ?_
          obtain rfl := Option.some.inj q_w
          exact ⟨x_x, (.c rfl (.c rfl (.c rfl (.c rfl (.c rfl (.c rfl (.c rfl (.c rfl .n)))))))), rfl, rfl⟩
        ·
          have q_w := cond_f q_w hc
          apply go
          obtain rfl := Option.some.inj q_w
          exact ⟨0, (.c rfl (.c rfl (.c rfl (.c rfl (.c rfl (.c rfl (.c rfl (.c rfl .n)))))))), rfl, rfl⟩
      ·
        rintro x_13 _ ⟨hy, rfl⟩
        replace hy := hy.symm
        subst hy
        apply go
        apply go
        apply go
        apply go
        obtain ⟨⟨x_14, x_15⟩, q_16, q_n⟩ := bind_some q_n
        refine ev_call rfl rfl C71 (((bits_Sub32_ok n) _ _  x_p x_13 x_f hp.imm _ q_16).mono ?_)
        rintro _ w_17 ⟨rfl, hc⟩
        have hs := hp.stp hc
        replace hp := hp.ext hc
        replace r_5 := r_5.step hs
        replace o_m := o_m.step hs
        replace r_2 := r_2.step hs
        apply go
        refine ev_litN (d := (dI .u32)) (xs := [x_14]) (cs := [(.int .u32 x_14)]) hp rfl rfl Tryz.underlying22 T45 (by decide) rfl rfl (Elems.cons (d := (dI .u32)) (xs := _) rfl (Elems.nil _ _ _ _)) ?_
        intro v_18 I_19 w_1a hp hs r_1b
        replace r_5 := r_5.step hs
        replace r_2 := r_2.step hs
        replace o_m := o_m.step hs
        obtain ⟨x_1c, q_1d, q_n⟩ := bind_some q_n
        refine ev_append hp (i := 0) rfl rfl rfl rfl Tryz.underlying22 T45 rfl rfl o_m r_1b q_1d ?_
        rintro v_1e e_1f w_1g hp hs o_1h
        replace r_5 := r_5.step hs
        replace r_2 := r_2.step hs
        apply go
        exact ⟨_, (Option.some.inj q_n).symm, (v_1e, e_1f, I_19), (.c rfl (.c rfl (.c rfl (.c rfl (.c rfl (.c rfl .n)))))), ⟨hp, r_5, o_1h, r_2⟩⟩
    ·
      have q_n := cond_f q_n hc
      apply go
      have q_1i := congrArg some (q_o _ (Option.some.inj q_n).symm)
      obtain rfl := Option.some.inj q_1i
      exact ⟨(x_e, v_h, e_i, I_j), (.c rfl .n), rfl, hp, o_m⟩
  ·
    rintro ⟨x_1j, v_1k, e_1l, I_1m⟩ w_1n ⟨hy, hp, o_1o⟩
    replace hy := hy.symm
    subst hy
    apply go
    apply go
    apply go
    obtain rfl := Option.some.inj h
    have r_1p := o_1o.frz hp (i := 0) rfl
    obtain ⟨hp, hs⟩ := freeze_hp hp (i := 0) rfl
    have hp := hp.sel [] (by decide)
    exact ⟨(Ad I_1m e_1l), v_1k, rfl, hp, r_1p⟩

end Go.Proofs.YthhghkcopfnbiaaGreatDoor

namespace Go.Proofs.YthhghkcopfnbiaaGreatDoor
open Go Go.Proofs.YthhghkcopfnbiaaGreatDoor.Gw Go.RowKit
set_option linter.unusedVariables false
attribute [local irreducible] Ev EvQ EvS EvH
def integer_Add_S (f : Int_2 → Int_2 → Option Int_2) : Prop := ∀ (w0 : World) (I0 : Nat → Prop) (x_0 : Int_2) (v_1 : Value) (r_2 : RepS (dI .u32) w0 I0 v_1 x_0.Mag) (x_3 : Int_2) (v_4 : Value) (r_5 : RepS (dI .u32) w0 I0 v_4 x_3.Mag) (hI : ∀ g, I0 g → g < w0.heap.size) (r : Int_2), f x_0 x_3 = some r →
    Ret Tryz.prog 30 #[(.agg #[(.bool x_0.Neg), v_1]), (.agg #[(.bool x_3.Neg), v_4])] w0 fun v w1 => ∃ (I1 : Nat → Prop) (u_6 : Value), v = (.agg #[(.bool r.Neg), u_6]) ∧ Hp ⟨w0, I0, []⟩ I1 [] w1 ∧ RepS (dI .u32) w1 I1 u_6 r.Mag
theorem integer_Add_ok (n : Nat) : integer_Add_S (integer_Add n) := by
  intro w0 I0 x_0 v_1 r_2 x_3 v_4 r_5 hI r h
  unfold integer_Add at h
  refine enter Tryz.func30 rfl (Nat.le_of_ble_eq_true rfl) ?_
  have hp : Hp ⟨w0, I0, []⟩ I0 [] w0 := Hp.start hI
  apply go
  apply go
  refine ev_boxI hp rfl rfl ?_
  intro p_6 I_7 w_8 hp hs a_9
  replace r_5 := r_5.step hs
  replace r_2 := r_2.step hs
  refine ev_boxI hp rfl rfl ?_
  intro p_a I_b w_c hp hs a_d
  replace a_9 := a_9.step hs
  replace r_2 := r_2.step hs
  replace r_5 := r_5.step hs
  refine ev_alloc hp rfl T24 ?_
  intro g_e w_f hp hs
  replace a_9 := a_9.step hs
  replace r_2 := r_2.step hs
  replace a_d := a_d.step hs
  replace r_5 := r_5.step hs
  apply go
  have hs := hp.stp (Ch.drew [] w_f)
  have hp := hp.drew
  replace a_9 := a_9.step hs
  replace r_2 := r_2.step hs
  replace a_d := a_d.step hs
  replace r_5 := r_5.step hs
  refine W.held [(0, true), (1, true), (3, true), (4, true), (2, false), (5, false), (6, true), (7, true)] (Stp I_b w_f.drew I_b) MX (by kernel_rfl) (Stp.refl _ _) ?_
  have hz := Stp.refl I_b w_f.drew
  refine evh0 (rn_field rfl rfl FO24_1) ?_
  refine evh (fun w' hw => rn_load rfl rfl (run_loadVar1 T22 ((a_9.step hw).2 1 _ rfl))) ?_
  refine evh0 (rn_field rfl rfl FO24_1) ?_
  refine evh (fun w' hw => rn_load rfl rfl (run_loadVar1 T22 ((a_d.step hw).2 1 _ rfl))) ?_
  obtain ⟨x_g, q_h, h⟩ := bind_some h
  refine ev_call rfl rfl C46 (((integer_trim_ok n) _ _  x_0.Mag v_1 r_2 hp.imm _ q_h).mono ?_)
  rintro _ w_i ⟨I_j, v_k, hv, hq, r_l⟩
  replace hv := hv.symm
  subst hv
  have hs := hq.st
  have hp := hp.join0 hq
  replace hz := hz.trans hs
  replace a_9 := a_9.step hs
  replace r_2 := r_2.step hs
  replace a_d := a_d.step hs
  replace r_5 := r_5.step hs
  refine ⟨Stp I_j w_i I_j, Stp.refl _ _, fun x hx => hz.held hx, ?_⟩
  have hz := Stp.refl I_j w_i
  obtain ⟨x_m, q_n, h⟩ := bind_some h
  refine ev_call rfl rfl C46 (((integer_trim_ok n) _ _  x_3.Mag v_4 r_5 hp.imm _ q_n).mono ?_)
  rintro _ w_o ⟨I_p, v_q, hv, hq, r_r⟩
  replace hv := hv.symm
  subst hv
  have hs := hq.st
  have hp := hp.join0 hq
  replace hz := hz.trans hs
  replace a_9 := a_9.step hs
  replace r_2 := r_2.step hs
  replace a_d := a_d.step hs
  replace r_5 := r_5.step hs
  replace r_l := r_l.step hs
  refine ⟨Stp I_p w_o I_p, Stp.refl _ _, fun x hx => hz.held hx, ?_⟩
  have hz := Stp.refl I_p w_o
  apply go
  apply go
  apply go
  apply go
  refine ev0 (rn_field rfl rfl FO24_0) ?_
  refine ev (rn_load rfl rfl (run_loadVar1 T4 (a_9.2 0 _ rfl))) ?_
  refine ev0 (rn_field rfl rfl FO24_0) ?_
  refine ev (rn_load rfl rfl (run_loadVar1 T4 (a_d.2 0 _ rfl))) ?_
  refine ev0 (rn_eqB rfl rfl rfl Tryz.underlying4) ?_
  apply go
  refine sel_of (fun hc => ?_) (fun hc => ?_)
  ·
    have h := cond_t h hc
    apply go
    have hs := hp.stp (Ch.drew [] w_o)
    have hp := hp.drew
    replace a_9 := a_9.step hs
    replace r_2 := r_2.step hs
    replace r_l := r_l.step hs
    replace r_r := r_r.step hs
    refine W.held [(0, true), (1, true), (2, true), (3, true), (4, false), (5, false), (6, false)] (Stp I_p w_o.drew I_p) MX (by kernel_rfl) (Stp.refl _ _) ?_
    have hz := Stp.refl I_p w_o.drew
    refine evh0 (rn_field rfl rfl FO24_0) ?_
    refine evh (fun w' hw => rn_load rfl rfl (run_loadVar1 T4 ((a_9.step hw).2 0 _ rfl))) ?_
    obtain ⟨x_s, q_t, h⟩ := bind_some h
    refine ev_call rfl rfl C65 (((integer_plus_ok n) _ _  x_g v_k r_l x_m v_q r_r hp.imm _ q_t).mono ?_)
    rintro _ w_u ⟨I_v, v_w, hv, hq, r_x⟩
    replace hv := hv.symm
    subst hv
    have hs := hq.st
    have hp := hp.join0 hq
    replace hz := hz.trans hs
    refine ⟨Stp I_v w_u I_v, Stp.refl _ _, fun x hx => hz.held hx, ?_⟩
    have hz := Stp.refl I_v w_u
    obtain ⟨x_y, q_z, h⟩ := bind_some h
    refine ev_call rfl rfl C49 (((integer_made_ok n) _ _  x_0.Neg x_s v_w r_x hp.imm _ q_z).mono ?_)
    rintro _ w_10 ⟨I_11, v_12, hv, hq, r_13⟩
    replace hv := hv.symm
    subst hv
    have hs := hq.st
    have hp := hp.join0 hq
    replace hz := hz.trans hs
    refine ⟨Stp I_11 w_10 I_11, Stp.refl _ _, fun x hx => hz.held hx, ?_⟩
    have hz := Stp.refl I_11 w_10
    refine ev_storeA hp (i := 0) (off := 0) (vs := [(.bool x_y.Neg), v_12]) rfl rfl rfl rfl T24 rfl (Nat.le_of_ble_eq_true rfl) (ones_cons rfl (ones_cons r_13.one ones_nil)) ?_
    intro w_14 hp hs
    replace hz := hz.trans hs
    replace r_13 := r_13.step hs
    refine ⟨Stp I_11 w_14 I_11, Stp.refl _ _, fun x hx => hz.held hx, ?_⟩
    have hz := Stp.refl I_11 w_14
    apply go
    obtain rfl := Option.some.inj h
    refine ⟨_, run_loadVarA T24 rfl (hp.at_ (i := 0) rfl), ?_⟩
    have hp := hp.sel [] (by decide)
    exact ⟨I_11, v_12, rfl, hp, r_13⟩
  ·
    have h := cond_f h hc
    apply go
    apply go
    obtain ⟨x_15, q_16, h⟩ := bind_some h
    refine ev_call rfl rfl C48 (((integer_compare_ok n) _ _  x_g v_k r_l x_m v_q r_r hp.imm _ q_16).mono ?_)
    rintro _ w_17 ⟨rfl, hc⟩
    have hs := hp.stp hc
    replace hp := hp.ext hc
    replace a_9 := a_9.step hs
    replace r_2 := r_2.step hs
    replace a_d := a_d.step hs
    replace r_5 := r_5.step hs
    replace r_l := r_l.step hs
    replace r_r := r_r.step hs
    apply go
    refine sel_of (fun hc => ?_) (fun hc => ?_)
    ·
      have h := cond_t h hc
      apply go
      have hs := hp.stp (Ch.drew [] w_17)
      have hp := hp.drew
      replace a_9 := a_9.step hs
      replace r_2 := r_2.step hs
      replace r_l := r_l.step hs
      replace r_r := r_r.step hs
      refine W.held [(0, true), (1, true), (2, true), (3, true), (4, false), (5, false), (6, false)] (Stp I_p w_17.drew I_p) MX (by kernel_rfl) (Stp.refl _ _) ?_
      have hz := Stp.refl I_p w_17.drew
      refine evh0 (rn_field rfl rfl FO24_0) ?_
      refine evh (fun w' hw => rn_load rfl rfl (run_loadVar1 T4 ((a_9.step hw).2 0 _ rfl))) ?_
      obtain ⟨x_18, q_19, h⟩ := bind_some h
      refine ev_call rfl rfl C67 (((integer_minus_ok n) _ _  x_g v_k r_l x_m v_q r_r hp.imm _ q_19).mono ?_)
      rintro _ w_1a ⟨I_1b, v_1c, hv, hq, r_1d⟩
      replace hv := hv.symm
      subst hv
      have hs := hq.st
      have hp := hp.join0 hq
      replace hz := hz.trans hs
      refine ⟨Stp I_1b w_1a I_1b, Stp.refl _ _, fun x hx => hz.held hx, ?_⟩
      have hz := Stp.refl I_1b w_1a
      obtain ⟨x_1e, q_1f, h⟩ := bind_some h
      refine ev_call rfl rfl C49 (((integer_made_ok n) _ _  x_0.Neg x_18 v_1c r_1d hp.imm _ q_1f).mono ?_)
      rintro _ w_1g ⟨I_1h, v_1i, hv, hq, r_1j⟩
      replace hv := hv.symm
      subst hv
      have hs := hq.st
      have hp := hp.join0 hq
      replace hz := hz.trans hs
      refine ⟨Stp I_1h w_1g I_1h, Stp.refl _ _, fun x hx => hz.held hx, ?_⟩
      have hz := Stp.refl I_1h w_1g
      refine ev_storeA hp (i := 0) (off := 0) (vs := [(.bool x_1e.Neg), v_1i]) rfl rfl rfl rfl T24 rfl (Nat.le_of_ble_eq_true rfl) (ones_cons rfl (ones_cons r_1j.one ones_nil)) ?_
      intro w_1k hp hs
      replace hz := hz.trans hs
      replace r_1j := r_1j.step hs
      refine ⟨Stp I_1h w_1k I_1h, Stp.refl _ _, fun x hx => hz.held hx, ?_⟩
      have hz := Stp.refl I_1h w_1k
      apply go
      obtain rfl := Option.some.inj h
      refine ⟨_, run_loadVarA T24 rfl (hp.at_ (i := 0) rfl), ?_⟩
      have hp := hp.sel [] (by decide)
      exact ⟨I_1h, v_1i, rfl, hp, r_1j⟩
    ·
      have h := cond_f h hc
      apply go
      apply go
      have hs := hp.stp (Ch.drew [] w_17)
      have hp := hp.drew
      replace a_d := a_d.step hs
      replace r_5 := r_5.step hs
      replace r_l := r_l.step hs
      replace r_r := r_r.step hs
      refine W.held [(0, true), (1, true), (2, true), (3, true), (4, false), (5, false), (6, false)] (Stp I_p w_17.drew I_p) MX (by kernel_rfl) (Stp.refl _ _) ?_
      have hz := Stp.refl I_p w_17.drew
      refine evh0 (rn_field rfl rfl FO24_0) ?_
      refine evh (fun w' hw => rn_load rfl rfl (run_loadVar1 T4 ((a_d.step hw).2 0 _ rfl))) ?_
      obtain ⟨x_1l, q_1m, h⟩ := bind_some h
      refine ev_call rfl rfl C67 (((integer_minus_ok n) _ _  x_m v_q r_r x_g v_k r_l hp.imm _ q_1m).mono ?_)
      rintro _ w_1n ⟨I_1o, v_1p, hv, hq, r_1q⟩
      replace hv := hv.symm
      subst hv
      have hs := hq.st
      have hp := hp.join0 hq
      replace hz := hz.trans hs
      refine ⟨Stp I_1o w_1n I_1o, Stp.refl _ _, fun x hx => hz.held hx, ?_⟩
      have hz := Stp.refl I_1o w_1n
      obtain ⟨x_1r, q_1s, h⟩ := bind_some h
      refine ev_call rfl rfl C49 (((integer_made_ok n) _ _  x_3.Neg x_1l v_1p r_1q hp.imm _ q_1s).mono ?_)
      rintro _ w_1t ⟨I_1u, v_1v, hv, hq, r_1w⟩
      replace hv := hv.symm
      subst hv
      have hs := hq.st
      have hp := hp.join0 hq
      replace hz := hz.trans hs
      refine ⟨Stp I_1u w_1t I_1u, Stp.refl _ _, fun x hx => hz.held hx, ?_⟩
      have hz := Stp.refl I_1u w_1t
      refine ev_storeA hp (i := 0) (off := 0) (vs := [(.bool x_1r.Neg), v_1v]) rfl rfl rfl rfl T24 rfl (Nat.le_of_ble_eq_true rfl) (ones_cons rfl (ones_cons r_1w.one ones_nil)) ?_
      intro w_1x hp hs
      replace hz := hz.trans hs
      replace r_1w := r_1w.step hs
      refine ⟨Stp I_1u w_1x I_1u, Stp.refl _ _, fun x hx => hz.held hx, ?_⟩
      have hz := Stp.refl I_1u w_1x
      apply go
      obtain rfl := Option.some.inj h
      refine ⟨_, run_loadVarA T24 rfl (hp.at_ (i := 0) rfl), ?_⟩
      have hp := hp.sel [] (by decide)
      exact ⟨I_1u, v_1v, rfl, hp, r_1w⟩

end Go.Proofs.YthhghkcopfnbiaaGreatDoor

namespace Go.Proofs.YthhghkcopfnbiaaGreatDoor
open Go Go.Proofs.YthhghkcopfnbiaaGreatDoor.Gw Go.RowKit
set_option linter.unusedVariables false
attribute [local irreducible] Ev EvQ EvS EvH
def slices_Cloneuint32_uint32__S (f : (List Int) → Option (List Int)) : Prop := ∀ (w0 : World) (I0 : Nat → Prop) (x364 : (List Int)) (v365 : Value) (r366 : RepS (dI .u32) w0 I0 v365 x364) (hI : ∀ g, I0 g → g < w0.heap.size) (r : (List Int)), f x364 = some r →
    Ret Tryz.prog 56 #[v365] w0 fun v w1 => ∃ (I1 : Nat → Prop) (u367 : Value), v = u367 ∧ Hp ⟨w0, I0, []⟩ I1 [] w1 ∧ RepS (dI .u32) w1 I1 u367 r
theorem slices_Cloneuint32_uint32__ok (n : Nat) : slices_Cloneuint32_uint32__S (slices_Cloneuint32_uint32_ n) := by
  intro w0 I0 x364 v365 r366 hI r h
  unfold slices_Cloneuint32_uint32_ at h
  refine enter Tryz.func56 rfl (Nat.le_of_ble_eq_true rfl) ?_
  have hp : Hp ⟨w0, I0, []⟩ I0 [] w0 := Hp.start hI
  apply go
  apply go
  apply go
  apply go
  apply go
  rcases r366.nilcase with ⟨hv, hx⟩ | ⟨n368, hv, hx⟩ | ⟨a369, n368, hv⟩
  ·
    subst hv; subst hx
    replace h : some ([] : (List Int)) = some _ := h
    refine ev0 (rn_eqNil rfl rfl rfl Tryz.underlying22) ?_
    apply go
    apply go
    apply go
    apply go
    obtain rfl := Option.some.inj h
    exact ⟨I0, .slice none 0 0, rfl, hp, RepS.nil _ _ _⟩
  ·
    subst hv; subst hx
    replace h : some ([] : (List Int)) = some _ := h
    refine ev0 (rn_eqNil rfl rfl rfl Tryz.underlying22) ?_
    apply go
    apply go
    apply go
    apply go
    obtain rfl := Option.some.inj h
    exact ⟨I0, .slice none 0 0, rfl, hp, RepS.nil _ _ _⟩
  ·
    subst hv
    refine ev0 (rn_eqNil rfl rfl rfl Tryz.underlying22) ?_
    apply go
    apply go
    apply go
    apply go
    refine ev_litON (d := (dI .u32)) (xs := ([] : List Int)) (cs := []) hp rfl rfl Tryz.underlying22 T45 (by decide) (by decide) rfl rfl (Elems.nil _ _ _ _) ?_
    intro v370 e372 w371 hp hs o373
    replace r366 := r366.step hs
    obtain ⟨x374, q375, h⟩ := bind_some h
    refine ev_append hp (i := 0) rfl rfl rfl rfl Tryz.underlying22 T45 rfl rfl o373 r366 q375 ?_
    rintro v376 e377 w378 hp hs o379
    apply go
    obtain rfl := Option.some.inj h
    have r380 := o379.frz hp (i := 0) rfl
    obtain ⟨hp, hs⟩ := freeze_hp hp (i := 0) rfl
    have hp := hp.sel [] (by decide)
    exact ⟨(Ad I0 e377), v376, rfl, hp, r380⟩

end Go.Proofs.YthhghkcopfnbiaaGreatDoor

namespace Go.Proofs.YthhghkcopfnbiaaGreatDoor
open Go Go.Proofs.YthhghkcopfnbiaaGreatDoor.Gw Go.RowKit
set_option linter.unusedVariables false
attribute [local irreducible] Ev EvQ EvS EvH
def bits_Div32_S (f : Int → Int → Int → Option (Int × Int)) : Prop := ∀ (w0 : World) (I0 : Nat → Prop) (x381 : Int) (x382 : Int) (x383 : Int) (hI : ∀ g, I0 g → g < w0.heap.size) (r : (Int × Int)), f x381 x382 x383 = some r →
    Ret Tryz.prog 73 #[(.int .u32 x381), (.int .u32 x382), (.int .u32 x383)] w0 fun v w1 => v = (.tuple #[(.int .u32 r.1), (.int .u32 r.2)]) ∧ Ch [] w0 w1
theorem bits_Div32_ok (n : Nat) : bits_Div32_S (bits_Div32 n) := by
  intro w0 I0 x381 x382 x383 hI r h
  unfold bits_Div32 at h
  refine enter Tryz.func73 rfl (Nat.le_of_ble_eq_true rfl) ?_
  have hp : Hp ⟨w0, I0, []⟩ I0 [] w0 := Hp.start hI
  apply go
  apply go
  obtain ⟨y387, q388, h⟩ := bind_some h
  refine W.cut (γ := Unit) (fun _ => [(0, (.int .u32 x381)), (1, (.int .u32 x382)), (2, (.int .u32 x383))]) (fun _ w' => y387 = () ∧ w0 = w') ?_ ?_
  ·
    obtain ⟨y390, q391, q388⟩ := bind_some q388
    refine W.cut (γ := Bool) (fun g => [(0, (.int .u32 x381)), (1, (.int .u32 x382)), (2, (.int .u32 x383)), (15, (.bool (g)))]) (fun g w' => y390 = (g) ∧ w0 = w') ?_ ?_
    ·
      apply go
      refine sel_of (fun hc => ?_) (fun hc => ?_)
      ·
        have q391 := cond_t q391 hc
        obtain rfl := Option.some.inj q391
        exact ⟨(decide (x383 ≤ x381)), (.c rfl (.c rfl (.c rfl (.c rfl .n)))), rfl, rfl⟩
      ·
        have q391 := cond_f q391 hc
        obtain rfl := Option.some.inj q391
        exact ⟨false, (.c rfl (.c rfl (.c rfl (.c rfl .n)))), rfl, rfl⟩
    ·
      rintro x389 _ ⟨hy, rfl⟩
      replace hy := hy.symm
      subst hy
      apply go
      refine sel_of (fun hc => ?_) (fun hc => ?_)
      ·
        have q388 := cond_t q388 hc
        apply go
        cases q388
      ·
        have q388 := cond_f q388 hc
        apply go
        obtain rfl := Option.some.inj q388
        exact ⟨(), (.c rfl (.c rfl (.c rfl .n))), rfl, rfl⟩
  ·
    rintro ⟨⟩ _ ⟨hy, rfl⟩
    replace hy := hy.symm
    subst hy
    apply go
    apply go
    refine ev0 (rn_conv rfl rfl U45 Tryz.underlying49) ?_
    refine ⟨by decide, ?_⟩
    refine ev0 (rn_conv rfl rfl U45 Tryz.underlying49) ?_
    apply go
    refine W.quiet (fun w' => Ch [] w0 w') MX (by kernel_rfl) (Ch.drew [] w0) ?_
    refine evq0 (rn_conv rfl rfl U45 Tryz.underlying49) ?_
    obtain ⟨q392, _, h⟩ := need_some h
    refine ⟨q392, ?_⟩
    refine evq0 (rn_conv rfl rfl U49 Tryz.underlying45) ?_
    refine evq0 (rn_conv rfl rfl U45 Tryz.underlying49) ?_
    obtain ⟨q393, _, h⟩ := need_some h
    refine ⟨q393, ?_⟩
    refine evq0 (rn_conv rfl rfl U49 Tryz.underlying45) ?_
    intro w394 hc
    have hs := hp.stp hc
    replace hp := hp.ext hc
    apply go
    obtain rfl := Option.some.inj h
    exact ⟨rfl, hp.ch⟩

end Go.Proofs.YthhghkcopfnbiaaGreatDoor

namespace Go.Proofs.YthhghkcopfnbiaaGreatDoor
open Go Go.Proofs.YthhghkcopfnbiaaGreatDoor.Gw Go.RowKit
set_option linter.unusedVariables false
attribute [local irreducible] Ev EvQ EvS EvH
def integer_short_S (f : (List Int) → Int → Option ((List Int) × Int)) : Prop := ∀ (w0 : World) (I0 : Nat → Prop) (x395 : (List Int)) (v396 : Value) (r397 : RepS (dI .u32) w0 I0 v396 x395) (x398 : Int) (hI : ∀ g, I0 g → g < w0.heap.size) (r : ((List Int) × Int)), f x395 x398 = some r →
    Ret Tryz.prog 57 #[v396, (.int .u32 x398)] w0 fun v w1 => ∃ (I1 : Nat → Prop) (u399 : Value), v = (.tuple #[u399, (.int .u32 r.2)]) ∧ Hp ⟨w0, I0, []⟩ I1 [] w1 ∧ RepS (dI .u32) w1 I1 u399 r.1
theorem integer_short_ok (n : Nat) : integer_short_S (integer_short n) := by
  intro w0 I0 x395 v396 r397 x398 hI r h
  unfold integer_short at h
  refine enter Tryz.func57 rfl (Nat.le_of_ble_eq_true rfl) ?_
  have hp : Hp ⟨w0, I0, []⟩ I0 [] w0 := Hp.start hI
  apply go
  apply go
  apply go
  apply go
  refine ev0 (rn_len rfl rfl Tryz.underlying22 r397) ?_
  obtain ⟨x400, q401, h⟩ := bind_some h
  refine ev_make (d := (dI .u32)) (x0 := 0) hp rfl rfl rfl Tryz.underlying22 T45 (fun _ _ => rfl) (Nat.le_of_ble_eq_true rfl) q401 ?_
  intro v402 e403 w404 hp hs o405
  replace r397 := r397.step hs
  apply go
  apply go
  obtain ⟨y498, q499, h⟩ := bind_some h
  refine W.cut (γ := ((List Int) × Int × Ent)) (fun g => [(6, v402), (7, (.int .u32 (g.2.1)))]) (fun g w' => y498 = ((g.1), (g.2.1)) ∧ Hp ⟨w0, I0, []⟩ I0 [(g.2.2)] w' ∧ OwnS (dI .u32) 45 w' I0 v402 (g.2.2) (g.1)) ?_ ?_
  ·
    apply go
    apply go
    refine ev0 (rn_len rfl rfl Tryz.underlying22 r397) ?_
    apply go
    refine W.loop q499 (γ := Ent) (fun s g => [(0, v396), (1, (.int .u32 x398)), (6, v402), (7, (.int .u32 (s.2.1))), (8, (.int .i64 (s.2.2)))]) (fun s g w' => Hp ⟨w0, I0, []⟩ I0 [(g)] w' ∧ RepS (dI .u32) w' I0 v396 x395 ∧ OwnS (dI .u32) 45 w' I0 v402 (g) (s.1)) e403 (.c rfl (.c rfl (.c rfl (.c rfl (.c rfl .n))))) ⟨hp, r397, o405⟩ ?_
    rintro ⟨x523, x527, x528⟩ e525 w558 y559 ⟨hp, r397, o526⟩ q560 q561
    unfold integer_short_L1 at q560
    apply go
    apply go
    apply go
    apply go
    refine sel_of (fun hc => ?_) (fun hc => ?_)
    ·
      have q560 := cond_t q560 hc
      apply go
      apply go
      apply go
      apply go
      obtain ⟨x562, q563, q560⟩ := bind_some q560
      refine ev_index rfl rfl rfl Tryz.underlying22 T45 r397 q563 ?_
      intro p564 c565 d566 a567
      obtain rfl : c565 = [(.int .u32 x562)] := d566
      refine ev (rn_load rfl rfl (run_loadVar1 T45 (a567.2 0 _ rfl))) ?_
      obtain ⟨⟨x568, x569⟩, q570, q560⟩ := bind_some q560
      refine ev_call rfl rfl C73 (((bits_Div32_ok n) _ _  x527 x562 x398 hp.imm _ q570).mono ?_)
      rintro _ w571 ⟨rfl, hc⟩
      have hs := hp.stp hc
      replace hp := hp.ext hc
      replace r397 := r397.step hs
      replace o526 := o526.step hs
      obtain ⟨x572, q573, q560⟩ := bind_some q560
      refine ev_indexO rfl rfl rfl Tryz.underlying22 T45 o526 q573 ?_
      intro g574 c575 h578 d576 l577
      refine ev_storeE hp (i := 0) rfl h578 rfl rfl rfl T45 o526 q573 (x0 := x568) rfl ?_
      intro e581 w580 hp hs o582
      replace r397 := r397.step hs
      apply go
      exact ⟨_, (Option.some.inj q560).symm, e581, (.c rfl (.c rfl (.c rfl (.c rfl (.c rfl .n))))), ⟨hp, r397, o582⟩⟩
    ·
      have q560 := cond_f q560 hc
      apply go
      have q585 := congrArg some (q561 _ (Option.some.inj q560).symm)
      obtain rfl := Option.some.inj q585
      exact ⟨(x523, x527, e525), (.c rfl (.c rfl .n)), rfl, hp, o526⟩
  ·
    rintro ⟨x492, x496, e494⟩ w497 ⟨hy, hp, o495⟩
    replace hy := hy.symm
    subst hy
    apply go
    apply go
    apply go
    obtain rfl := Option.some.inj h
    have r586 := o495.frz hp (i := 0) rfl
    obtain ⟨hp, hs⟩ := freeze_hp hp (i := 0) rfl
    have hp := hp.sel [] (by decide)
    exact ⟨(Ad I0 e494), v402, rfl, hp, r586⟩

end Go.Proofs.YthhghkcopfnbiaaGreatDoor

namespace Go.Proofs.YthhghkcopfnbiaaGreatDoor
open Go Go.Proofs.YthhghkcopfnbiaaGreatDoor.Gw Go.RowKit
set_option linter.unusedVariables false
attribute [local irreducible] Ev EvQ EvS EvH
def bits_LeadingZeros32_S (f : Int → Option Int) : Prop := ∀ (w0 : World) (I0 : Nat → Prop) (x598 : Int) (hI : ∀ g, I0 g → g < w0.heap.size) (r : Int), f x598 = some r →
    Ret Tryz.prog 69 #[(.int .u32 x598)] w0 fun v w1 => v = (.int .i64 r) ∧ Ch [] w0 w1
theorem bits_LeadingZeros32_ok (n : Nat) : bits_LeadingZeros32_S (bits_LeadingZeros32 n) := by
  intro w0 I0 x598 hI r h
  unfold bits_LeadingZeros32 at h
  refine enter Tryz.func69 rfl (Nat.le_of_ble_eq_true rfl) ?_
  have hp : Hp ⟨w0, I0, []⟩ I0 [] w0 := Hp.start hI
  apply go
  apply go
  apply go
  apply go
  obtain ⟨x599, q600, h⟩ := bind_some h
  refine ev_call rfl rfl C50 (((bits_Len32_ok n) _ _  x598 hp.imm _ q600).mono ?_)
  rintro _ w601 ⟨rfl, hc⟩
  have hs := hp.stp hc
  replace hp := hp.ext hc
  apply go
  obtain rfl := Option.some.inj h
  exact ⟨rfl, hp.ch⟩

end Go.Proofs.YthhghkcopfnbiaaGreatDoor

namespace Go.Proofs.YthhghkcopfnbiaaGreatDoor
open Go Go.Proofs.YthhghkcopfnbiaaGreatDoor.Gw Go.RowKit
set_option linter.unusedVariables false
attribute [local irreducible] Ev EvQ EvS EvH
def integer_shifted_S (f : (List Int) → Int → Option (List Int)) : Prop := ∀ (w0 : World) (I0 : Nat → Prop) (x602 : (List Int)) (v603 : Value) (r604 : RepS (dI .u32) w0 I0 v603 x602) (x605 : Int) (hI : ∀ g, I0 g → g < w0.heap.size) (r : (List Int)), f x602 x605 = some r →
    Ret Tryz.prog 70 #[v603, (.int .u64 x605)] w0 fun v w1 => ∃ (I1 : Nat → Prop) (u606 : Value) (u607 : Ent), v = u606 ∧ Hp ⟨w0, I0, []⟩ I1 [u607] w1 ∧ OwnS (dI .u32) 45 w1 I1 u606 u607 r
theorem integer_shifted_ok (n : Nat) : integer_shifted_S (integer_shifted n) := by
  intro w0 I0 x602 v603 r604 x605 hI r h
  unfold integer_shifted at h
  refine enter Tryz.func70 rfl (Nat.le_of_ble_eq_true rfl) ?_
  have hp : Hp ⟨w0, I0, []⟩ I0 [] w0 := Hp.start hI
  apply go
  apply go
  apply go
  apply go
  refine ev0 (rn_len rfl rfl Tryz.underlying22 r604) ?_
  obtain ⟨x608, q609, h⟩ := bind_some h
  refine ev_make (d := (dI .u32)) (x0 := 0) hp rfl rfl rfl Tryz.underlying22 T45 (fun _ _ => rfl) (Nat.le_of_ble_eq_true rfl) q609 ?_
  intro v610 e611 w612 hp hs o613
  replace r604 := r604.step hs
  obtain ⟨y757, q758, h⟩ := bind_some h
  refine W.cut (γ := ((List Int) × Ent)) (fun g => [(5, v610)]) (fun g w' => y757 = (g.1) ∧ Hp ⟨w0, I0, []⟩ I0 [(g.2)] w' ∧ OwnS (dI .u32) 45 w' I0 v610 (g.2) (g.1)) ?_ ?_
  ·
    apply go
    apply go
    refine ev0 (rn_len rfl rfl Tryz.underlying22 r604) ?_
    apply go
    refine W.loop q758 (γ := Ent) (fun s g => [(1, (.int .u64 x605)), (5, v610), (13, v603), (14, (.int .i64 (x602.length : Int))), (15, (.int .i64 (s.2)))]) (fun s g w' => Hp ⟨w0, I0, []⟩ I0 [(g)] w' ∧ OwnS (dI .u32) 45 w' I0 v610 (g) (s.1) ∧ RepS (dI .u32) w' I0 v603 x602) e611 (.c rfl (.c rfl (.c rfl (.c rfl (.c rfl .n))))) ⟨hp, o613, r604⟩ ?_
    rintro ⟨x800, x804⟩ e802 w851 y852 ⟨hp, o803, r604⟩ q853 q854
    unfold integer_shifted_L1 at q853
    apply go
    apply go
    apply go
    apply go
    refine sel_of (fun hc => ?_) (fun hc => ?_)
    ·
      have q853 := cond_t q853 hc
      apply go
      apply go
      apply go
      apply go
      apply go
      obtain ⟨x855, q856, q853⟩ := bind_some q853
      refine ev_index rfl rfl rfl Tryz.underlying22 T45 r604 q856 ?_
      intro p857 c858 d859 a860
      obtain rfl : c858 = [(.int .u32 x855)] := d859
      refine ev (rn_load rfl rfl (run_loadVar1 T45 (a860.2 0 _ rfl))) ?_
      apply go
      apply go
      refine ev0 (rn_conv rfl rfl U45 Tryz.underlying49) ?_
      obtain ⟨q861, _, q853⟩ := need_some q853
      refine ⟨q861, ?_⟩
      apply go
      apply go
      obtain ⟨x862, q863, q853⟩ := bind_some q853
      refine ev_indexO rfl rfl rfl Tryz.underlying22 T45 o803 q863 ?_
      intro g864 c865 h868 d866 l867
      refine ev (rn_load rfl rfl (run_loadVar1 T45 (hp.cellE (i := 0) rfl h868 d866 (j := 0) rfl))) ?_
      refine ev0 (rn_conv rfl rfl U49 Tryz.underlying45) ?_
      obtain ⟨x870, q871, q853⟩ := bind_some q853
      refine ev_indexO rfl rfl rfl Tryz.underlying22 T45 o803 q871 ?_
      intro g872 c873 h876 d874 l875
      refine ev_storeE hp (i := 0) rfl h876 rfl rfl rfl T45 o803 q871 (x0 := (ib .or .u32 x862 (IntKind.u32.wrap (IntKind.u64.wrap ((IntKind.u64.wrap x855) * 2 ^ min x605.toNat (IntKind.u64).bits))))) rfl ?_
      intro e879 w878 hp hs o880
      replace r604 := r604.step hs
      apply go
      refine ⟨by decide, ?_⟩
      refine ev0 (rn_conv rfl rfl U49 Tryz.underlying45) ?_
      obtain ⟨x883, q884, q853⟩ := bind_some q853
      refine ev_indexO rfl rfl rfl Tryz.underlying22 T45 o880 q884 ?_
      intro g885 c886 h889 d887 l888
      refine ev_storeE hp (i := 0) rfl h889 rfl rfl rfl T45 o880 q884 (x0 := (IntKind.u32.wrap ((IntKind.u64.wrap ((IntKind.u64.wrap x855) * 2 ^ min x605.toNat (IntKind.u64).bits)).fdiv (2 ^ min (32 : Int).toNat (IntKind.u64).bits)))) rfl ?_
      intro e892 w891 hp hs o893
      replace r604 := r604.step hs
      apply go
      exact ⟨_, (Option.some.inj q853).symm, e892, (.c rfl (.c rfl (.c rfl (.c rfl (.c rfl .n))))), ⟨hp, o893, r604⟩⟩
    ·
      have q853 := cond_f q853 hc
      apply go
      have q896 := congrArg some (q854 _ (Option.some.inj q853).symm)
      obtain rfl := Option.some.inj q896
      exact ⟨(x800, e802), (.c rfl .n), rfl, hp, o803⟩
  ·
    rintro ⟨x752, e754⟩ w756 ⟨hy, hp, o755⟩
    replace hy := hy.symm
    subst hy
    apply go
    apply go
    apply go
    obtain rfl := Option.some.inj h
    exact ⟨I0, v610, e754, rfl, hp, o755⟩

end Go.Proofs.YthhghkcopfnbiaaGreatDoor

namespace Go.Proofs.YthhghkcopfnbiaaGreatDoor
open Go Go.Proofs.YthhghkcopfnbiaaGreatDoor.Gw Go.RowKit
set_option linter.unusedVariables false
attribute [local irreducible] Ev EvQ EvS EvH
def integer_divide_S (f : (List Int) → (List Int) → Option ((List Int) × (List Int))) : Prop := ∀ (w0 : World) (I0 : Nat → Prop) (x903 : (List Int)) (v904 : Value) (r905 : RepS (dI .u32) w0 I0 v904 x903) (x906 : (List Int)) (v907 : Value) (r908 : RepS (dI .u32) w0 I0 v907 x906) (hI : ∀ g, I0 g → g < w0.heap.size) (r : ((List Int) × (List Int))), f x903 x906 = some r →
    Ret Tryz.prog 55 #[v904, v907] w0 fun v w1 => ∃ (I1 : Nat → Prop) (u909 : Value) (u910 : Value), v = (.tuple #[u909, u910]) ∧ Hp ⟨w0, I0, []⟩ I1 [] w1 ∧ RepS (dI .u32) w1 I1 u909 r.1 ∧ RepS (dI .u32) w1 I1 u910 r.2
theorem integer_divide_ok (n : Nat) : integer_divide_S (integer_divide n) := by
  intro w0 I0 x903 v904 r905 x906 v907 r908 hI r h
  unfold integer_divide at h
  refine enter Tryz.func55 rfl (Nat.le_of_ble_eq_true rfl) ?_
  have hp : Hp ⟨w0, I0, []⟩ I0 [] w0 := Hp.start hI
  apply go
  apply go
  apply go
  apply go
  apply go
  obtain ⟨x911, q912, h⟩ := bind_some h
  refine ev_call rfl rfl C48 (((integer_compare_ok n) _ _  x903 v904 r905 x906 v907 r908 hp.imm _ q912).mono ?_)
  rintro _ w913 ⟨rfl, hc⟩
  have hs := hp.stp hc
  replace hp := hp.ext hc
  replace r905 := r905.step hs
  replace r908 := r908.step hs
  apply go
  refine sel_of (fun hc => ?_) (fun hc => ?_)
  ·
    have h := cond_t h hc
    apply go
    apply go
    obtain ⟨x914, q915, h⟩ := bind_some h
    refine ev_call rfl rfl C56 (((slices_Cloneuint32_uint32__ok n) _ _  x903 v904 r905 hp.imm _ q915).mono ?_)
    rintro _ w916 ⟨I917, v918, hv, hq, r919⟩
    replace hv := hv.symm
    subst hv
    have hs := hq.st
    have hp := hp.join0 hq
    apply go
    obtain rfl := Option.some.inj h
    exact ⟨I917, .slice none 0 0, v918, rfl, hp, RepS.nil _ _ _, r919⟩
  ·
    have h := cond_f h hc
    apply go
    apply go
    apply go
    apply go
    refine ev0 (rn_len rfl rfl Tryz.underlying22 r908) ?_
    apply go
    refine sel_of (fun hc => ?_) (fun hc => ?_)
    ·
      have h := cond_t h hc
      apply go
      apply go
      obtain ⟨x920, q921, h⟩ := bind_some h
      refine ev_index rfl rfl rfl Tryz.underlying22 T45 r908 q921 ?_
      intro p922 c923 d924 a925
      obtain rfl : c923 = [(.int .u32 x920)] := d924
      refine ev (rn_load rfl rfl (run_loadVar1 T45 (a925.2 0 _ rfl))) ?_
      obtain ⟨⟨x926, x927⟩, q928, h⟩ := bind_some h
      refine ev_call rfl rfl C57 (((integer_short_ok n) _ _  x903 v904 r905 x920 hp.imm _ q928).mono ?_)
      rintro _ w929 ⟨I930, v931, hv, hq, r932⟩
      replace hv := hv.symm
      subst hv
      have hs := hq.st
      have hp := hp.join0 hq
      apply go
      apply go
      refine ev_litN (d := (dI .u32)) (xs := [x927]) (cs := [(.int .u32 x927)]) hp rfl rfl Tryz.underlying22 T45 (by decide) rfl rfl (Elems.cons (d := (dI .u32)) (xs := _) rfl (Elems.nil _ _ _ _)) ?_
      intro v933 I935 w934 hp hs r936
      replace r932 := r932.step hs
      apply go
      obtain rfl := Option.some.inj h
      exact ⟨I935, v931, v933, rfl, hp, r932, r936⟩
    ·
      have h := cond_f h hc
      apply go
      apply go
      apply go
      refine ev0 (rn_len rfl rfl Tryz.underlying22 r908) ?_
      obtain ⟨x937, q938, h⟩ := bind_some h
      refine ev_index rfl rfl rfl Tryz.underlying22 T45 r908 q938 ?_
      intro p939 c940 d941 a942
      obtain rfl : c940 = [(.int .u32 x937)] := d941
      refine ev (rn_load rfl rfl (run_loadVar1 T45 (a942.2 0 _ rfl))) ?_
      obtain ⟨x943, q944, h⟩ := bind_some h
      refine ev_call rfl rfl C69 (((bits_LeadingZeros32_ok n) _ _  x937 hp.imm _ q944).mono ?_)
      rintro _ w945 ⟨rfl, hc⟩
      have hs := hp.stp hc
      replace hp := hp.ext hc
      replace r905 := r905.step hs
      replace r908 := r908.step hs
      refine ev0 (rn_conv rfl rfl U3 Tryz.underlying43) ?_
      apply go
      have hs := hp.stp (Ch.drew [] w945)
      have hp := hp.drew
      replace r905 := r905.step hs
      replace r908 := r908.step hs
      refine W.held [(0, true), (1, true), (3, true), (4, true), (6, true), (7, true), (2, false), (5, false), (9, true), (8, false), (10, true)] (Stp I0 w945.drew I0) MX (by kernel_rfl) (Stp.refl _ _) ?_
      have hz := Stp.refl I0 w945.drew
      refine evh0 (rn_len rfl rfl Tryz.underlying22 r908) ?_
      obtain ⟨x965, q966, h⟩ := bind_some h
      refine ev_call rfl rfl C70 (((integer_shifted_ok n) _ _  x903 v904 r905 (IntKind.u64.wrap x943) hp.imm _ q966).mono ?_)
      rintro _ w967 ⟨I968, v969, e970, hv, hq, o971⟩
      replace hv := hv.symm
      subst hv
      have hs := hq.st
      have hp := hp.join0 hq
      replace hz := hz.trans hs
      replace r908 := r908.step hs
      refine ⟨Stp I968 w967 I968, Stp.refl _ _, fun x hx => hz.held hx, ?_⟩
      have hz := Stp.refl I968 w967
      obtain ⟨x972, q973, h⟩ := bind_some h
      refine ev_call rfl rfl C70 (((integer_shifted_ok n) _ _  x906 v907 r908 (IntKind.u64.wrap x943) hp.imm _ q973).mono ?_)
      rintro _ w974 ⟨I975, v976, e977, hv, hq, o978⟩
      replace hv := hv.symm
      subst hv
      have hs := hq.st
      have hp := hp.join0 hq
      replace hz := hz.trans hs
      replace o971 := o971.step hs
      refine ⟨Stp I975 w974 I975, Stp.refl _ _, fun x hx => hz.held hx, ?_⟩
      have hz := Stp.refl I975 w974
      have r979 := o978.frz hp (i := 0) rfl
      obtain ⟨hp, hs⟩ := freeze_hp hp (i := 0) rfl
      replace hz := hz.trans hs
      replace o971 := o971.step hs
      have hp := hp.sel [1] (by decide)
      obtain ⟨x980, q981, h⟩ := bind_some h
      refine ev_slice (kl := .i64) (kh := .i64) rfl rfl rfl rfl Tryz.underlying22 T45 r979 q981 ?_
      intro v982 r983
      refine ⟨Stp (Ad I975 e977) w974 (Ad I975 e977), Stp.refl _ _, fun x hx => hz.held hx, ?_⟩
      have hz := Stp.refl (Ad I975 e977) w974
      apply go
      apply go
      refine ev0 (rn_len rfl rfl Tryz.underlying22 r983) ?_
      apply go
      apply go
      refine ev0 (x_lenO rfl rfl Tryz.underlying22 o971) ?_
      obtain ⟨x984, q985, h⟩ := bind_some h
      refine ev_make (d := (dI .u32)) (x0 := 0) hp rfl rfl rfl Tryz.underlying22 T45 (fun _ _ => rfl) (Nat.le_of_ble_eq_true rfl) q985 ?_
      intro v986 e987 w988 hp hs o989
      replace o971 := o971.step hs
      replace r983 := r983.step hs
      obtain ⟨y_0, q_1, h⟩ := bind_some h
      refine W.cut (γ := ((List Int) × (List Int) × Ent × Ent)) (fun g => [(8, (.int .u64 (IntKind.u64.wrap x943))), (9, v969), (11, (.int .i64 (x980.length : Int))), (12, v986)]) (fun g w' => y_0 = ((g.1), (g.2.1)) ∧ Hp ⟨w0, I0, []⟩ (Ad I975 e977) [(g.2.2.1), (g.2.2.2)] w' ∧ OwnS (dI .u32) 45 w' (Ad I975 e977) v969 (g.2.2.1) (g.1) ∧ OwnS (dI .u32) 45 w' (Ad I975 e977) v986 (g.2.2.2) (g.2.1)) ?_ ?_
      ·
        apply go
        apply go
        refine ev0 (x_lenO rfl rfl Tryz.underlying22 o971) ?_
        apply go
        have hp := hp.perm [1, 0] (by decide)
        refine W.loop q_1 (γ := (Ent × Ent)) (fun s g => [(8, (.int .u64 (IntKind.u64.wrap x943))), (9, v969), (10, v982), (11, (.int .i64 (x980.length : Int))), (12, v986), (13, (.int .i64 (s.2.2)))]) (fun s g w' => Hp ⟨w0, I0, []⟩ (Ad I975 e977) [(g.1), (g.2)] w' ∧ OwnS (dI .u32) 45 w' (Ad I975 e977) v969 (g.1) (s.1) ∧ RepS (dI .u32) w' (Ad I975 e977) v982 x980 ∧ OwnS (dI .u32) 45 w' (Ad I975 e977) v986 (g.2) (s.2.1)) (e970, e987) (.c rfl (.c rfl (.c rfl (.c rfl (.c rfl (.c rfl .n)))))) ⟨hp, o971, r983, o989⟩ ?_
        rintro ⟨x_2, x_3, x_4⟩ ⟨e_5, e_6⟩ w_7 y_8 ⟨hp, o_9, r983, o_a⟩ q_b q_c
        unfold integer_divide_L81 at q_b
        apply go
        apply go
        apply go
        apply go
        refine sel_of (fun hc => ?_) (fun hc => ?_)
        ·
          have q_b := cond_t q_b hc
          apply go
          obtain ⟨y_d, q_e, q_b⟩ := bind_some q_b
          refine W.cut (γ := ((List Int) × (List Int) × Ent × Ent)) (fun g => [(8, (.int .u64 (IntKind.u64.wrap x943))), (9, v969), (10, v982), (11, (.int .i64 (x980.length : Int))), (12, v986), (13, (.int .i64 x_4))]) (fun g w' => y_d = ((g.1), (g.2.1)) ∧ Hp ⟨w0, I0, []⟩ (Ad I975 e977) [(g.2.2.1), (g.2.2.2)] w' ∧ OwnS (dI .u32) 45 w' (Ad I975 e977) v969 (g.2.2.1) (g.1) ∧ RepS (dI .u32) w' (Ad I975 e977) v982 x980 ∧ OwnS (dI .u32) 45 w' (Ad I975 e977) v986 (g.2.2.2) (g.2.1)) ?_ ?_
          ·
            apply go
            apply go
            refine W.quiet (fun w' => Ch [] w_7 w') MX (by kernel_rfl) (Ch.drew [] w_7) ?_
            obtain ⟨x_f, q_g, q_e⟩ := bind_some q_e
            refine evq_indexO rfl rfl rfl Tryz.underlying22 T45 o_9 q_g ?_
            intro g_h c_i h_j d_k l_l
            refine evq (fun w' hw => rn_load rfl rfl (run_loadVar1 T45 ((hp.ext hw).cellE (i := 0) rfl h_j d_k (j := 0) rfl))) ?_
            refine evq0 (rn_conv rfl rfl U45 Tryz.underlying49) ?_
            refine ⟨by decide, ?_⟩
            obtain ⟨x_m, q_n, q_e⟩ := bind_some q_e
            refine evq_indexO rfl rfl rfl Tryz.underlying22 T45 o_9 q_n ?_
            intro g_o c_p h_q d_r l_s
            refine evq (fun w' hw => rn_load rfl rfl (run_loadVar1 T45 ((hp.ext hw).cellE (i := 0) rfl h_q d_r (j := 0) rfl))) ?_
            refine evq0 (rn_conv rfl rfl U45 Tryz.underlying49) ?_
            intro w_t hc
            have hs := hp.stp hc
            replace hp := hp.ext hc
            replace o_9 := o_9.step hs
            replace r983 := r983.step hs
            replace o_a := o_a.step hs
            apply go
            refine W.quiet (fun w' => Ch [] w_t w') MX (by kernel_rfl) (Ch.drew [] w_t) ?_
            obtain ⟨x_u, q_v, q_e⟩ := bind_some q_e
            refine evq_index rfl rfl rfl Tryz.underlying22 T45 r983 q_v ?_
            intro p_w c_x d_y a_z
            obtain rfl : c_x = [(.int .u32 x_u)] := d_y
            refine evq (fun w' hw => rn_load rfl rfl (run_loadVar1 T45 ((a_z.step (hp.stp hw)).2 0 _ rfl))) ?_
            refine evq0 (rn_conv rfl rfl U45 Tryz.underlying49) ?_
            obtain ⟨q_10, _, q_e⟩ := need_some q_e
            refine ⟨q_10, ?_⟩
            obtain ⟨x_11, q_12, q_e⟩ := bind_some q_e
            refine evq_index rfl rfl rfl Tryz.underlying22 T45 r983 q_12 ?_
            intro p_13 c_14 d_15 a_16
            obtain rfl : c_14 = [(.int .u32 x_11)] := d_15
            refine evq (fun w' hw => rn_load rfl rfl (run_loadVar1 T45 ((a_16.step (hp.stp hw)).2 0 _ rfl))) ?_
            refine evq0 (rn_conv rfl rfl U45 Tryz.underlying49) ?_
            obtain ⟨q_17, _, q_e⟩ := need_some q_e
            refine ⟨q_17, ?_⟩
            intro w_18 hc
            have hs := hp.stp hc
            replace hp := hp.ext hc
            replace o_9 := o_9.step hs
            replace r983 := r983.step hs
            replace o_a := o_a.step hs
            obtain ⟨y_19, q_1a, q_e⟩ := bind_some q_e
            refine W.cut (γ := Int) (fun g => [(8, (.int .u64 (IntKind.u64.wrap x943))), (9, v969), (10, v982), (11, (.int .i64 (x980.length : Int))), (12, v986), (13, (.int .i64 x_4)), (15, (.int .u64 (g)))]) (fun g w' => y_19 = (g) ∧ Hp ⟨w0, I0, []⟩ (Ad I975 e977) [e_5, e_6] w' ∧ OwnS (dI .u32) 45 w' (Ad I975 e977) v969 e_5 x_2 ∧ RepS (dI .u32) w' (Ad I975 e977) v982 x980 ∧ OwnS (dI .u32) 45 w' (Ad I975 e977) v986 e_6 x_3) ?_ ?_
            ·
              apply go
              refine W.loop q_1a (γ := Unit) (fun s _ => [(8, (.int .u64 (IntKind.u64.wrap x943))), (9, v969), (10, v982), (11, (.int .i64 (x980.length : Int))), (12, v986), (13, (.int .i64 x_4)), (15, (.int .u64 (s.1))), (16, (.int .u64 (s.2)))]) (fun s _ w' => Hp ⟨w0, I0, []⟩ (Ad I975 e977) [e_5, e_6] w' ∧ OwnS (dI .u32) 45 w' (Ad I975 e977) v969 e_5 x_2 ∧ RepS (dI .u32) w' (Ad I975 e977) v982 x980 ∧ OwnS (dI .u32) 45 w' (Ad I975 e977) v986 e_6 x_3) () (.c rfl (.c rfl (.c rfl (.c rfl (.c rfl (.c rfl (.c rfl (.c rfl .n)))))))) ⟨hp, o_9, r983, o_a⟩ ?_
              rintro ⟨x_1b, x_1c⟩ ⟨⟩ w_1d y_1e ⟨hp, o_9, r983, o_a⟩ q_1f q_1g
              unfold integer_divide_L91 at q_1f
              apply go
              obtain ⟨y_1h, q_1i, q_1f⟩ := bind_some q_1f
              refine W.cut (γ := Bool) (fun g => [(8, (.int .u64 (IntKind.u64.wrap x943))), (9, v969), (10, v982), (11, (.int .i64 (x980.length : Int))), (12, v986), (13, (.int .i64 x_4)), (15, (.int .u64 x_1b)), (16, (.int .u64 x_1c)), (136, (.bool (g)))]) (fun g w' => y_1h = (g) ∧ Hp ⟨w0, I0, []⟩ (Ad I975 e977) [e_5, e_6] w' ∧ OwnS (dI .u32) 45 w' (Ad I975 e977) v969 e_5 x_2 ∧ RepS (dI .u32) w' (Ad I975 e977) v982 x980 ∧ OwnS (dI .u32) 45 w' (Ad I975 e977) v986 e_6 x_3) ?_ ?_
              ·
                refine W.quiet (fun w' => Ch [] w_1d w') MX (by kernel_rfl) (Ch.drew [] w_1d) ?_
                refine sel_of (fun hc => ?_) (fun hc => ?_)
                ·
                  have q_1i := cond_t q_1i hc
                  intro w_1j hc
                  have hs := hp.stp hc
                  replace hp := hp.ext hc
                  replace o_9 := o_9.step hs
                  replace r983 := r983.step hs
                  replace o_a := o_a.step hs
                  obtain rfl := Option.some.inj q_1i
                  exact ⟨true, (.c rfl (.c rfl (.c rfl (.c rfl (.c rfl (.c rfl (.c rfl (.c rfl (.c rfl .n))))))))), rfl, hp, o_9, r983, o_a⟩
                ·
                  have q_1i := cond_f q_1i hc
                  obtain ⟨x_1k, q_1l, q_1i⟩ := bind_some q_1i
                  refine evq_index rfl rfl rfl Tryz.underlying22 T45 r983 q_1l ?_
                  intro p_1m c_1n d_1o a_1p
                  obtain rfl : c_1n = [(.int .u32 x_1k)] := d_1o
                  refine evq (fun w' hw => rn_load rfl rfl (run_loadVar1 T45 ((a_1p.step (hp.stp hw)).2 0 _ rfl))) ?_
                  refine evq0 (rn_conv rfl rfl U45 Tryz.underlying49) ?_
                  refine ⟨by decide, ?_⟩
                  obtain ⟨x_1q, q_1r, q_1i⟩ := bind_some q_1i
                  refine evq_indexO rfl rfl rfl Tryz.underlying22 T45 o_9 q_1r ?_
                  intro g_1s c_1t h_1u d_1v l_1w
                  refine evq (fun w' hw => rn_load rfl rfl (run_loadVar1 T45 ((hp.ext hw).cellE (i := 0) rfl h_1u d_1v (j := 0) rfl))) ?_
                  refine evq0 (rn_conv rfl rfl U45 Tryz.underlying49) ?_
                  intro w_1x hc
                  have hs := hp.stp hc
                  replace hp := hp.ext hc
                  replace o_9 := o_9.step hs
                  replace r983 := r983.step hs
                  replace o_a := o_a.step hs
                  replace a_1p := a_1p.step hs
                  obtain rfl := Option.some.inj q_1i
                  exact ⟨(decide ((IntKind.u64.wrap (x_1b * (IntKind.u64.wrap x_1k))) > (ib .or .u64 (IntKind.u64.wrap (x_1c * 2 ^ min (32 : Int).toNat (IntKind.u64).bits)) (IntKind.u64.wrap x_1q)))), (.c rfl (.c rfl (.c rfl (.c rfl (.c rfl (.c rfl (.c rfl (.c rfl (.c rfl .n))))))))), rfl, hp, o_9, r983, o_a⟩
              ·
                rintro x_1y w_1z ⟨hy, hp, o_9, r983, o_a⟩
                replace hy := hy.symm
                subst hy
                apply go
                refine sel_of (fun hc => ?_) (fun hc => ?_)
                ·
                  have q_1f := cond_t q_1f hc
                  apply go
                  apply go
                  apply go
                  apply go
                  apply go
                  apply go
                  obtain ⟨x_20, q_21, q_1f⟩ := bind_some q_1f
                  refine ev_index rfl rfl rfl Tryz.underlying22 T45 r983 q_21 ?_
                  intro p_22 c_23 d_24 a_25
                  obtain rfl : c_23 = [(.int .u32 x_20)] := d_24
                  refine ev (rn_load rfl rfl (run_loadVar1 T45 (a_25.2 0 _ rfl))) ?_
                  refine ev0 (rn_conv rfl rfl U45 Tryz.underlying49) ?_
                  apply go
                  apply go
                  apply go
                  refine sel_of (fun hc => ?_) (fun hc => ?_)
                  ·
                    have q_1f := cond_t q_1f hc
                    apply go
                    have q_26 := congrArg some (q_1g _ (Option.some.inj q_1f).symm)
                    obtain rfl := Option.some.inj q_26
                    exact ⟨(IntKind.u64.wrap (x_1b - 1)), (.c rfl (.c rfl (.c rfl (.c rfl (.c rfl (.c rfl (.c rfl .n))))))), rfl, hp, o_9, r983, o_a⟩
                  ·
                    have q_1f := cond_f q_1f hc
                    apply go
                    exact ⟨_, (Option.some.inj q_1f).symm, (), (.c rfl (.c rfl (.c rfl (.c rfl (.c rfl (.c rfl (.c rfl (.c rfl .n)))))))), ⟨hp, o_9, r983, o_a⟩⟩
                ·
                  have q_1f := cond_f q_1f hc
                  apply go
                  have q_27 := congrArg some (q_1g _ (Option.some.inj q_1f).symm)
                  obtain rfl := Option.some.inj q_27
                  exact ⟨x_1b, (.c rfl (.c rfl (.c rfl (.c rfl (.c rfl (.c rfl (.c rfl .n))))))), rfl, hp, o_9, r983, o_a⟩
            ·
              rintro x_28 w_29 ⟨hy, hp, o_9, r983, o_a⟩
              replace hy := hy.symm
              subst hy
              apply go
              apply go
              apply go
              apply go
              obtain ⟨y_2a, q_2b, q_e⟩ := bind_some q_e
              refine W.cut (γ := ((List Int) × Int × Int × Ent)) (fun g => [(8, (.int .u64 (IntKind.u64.wrap x943))), (9, v969), (10, v982), (11, (.int .i64 (x980.length : Int))), (12, v986), (13, (.int .i64 x_4)), (15, (.int .u64 x_28)), (17, (.int .u64 (g.2.1))), (18, (.int .u32 (g.2.2.1)))]) (fun g w' => y_2a = ((g.1), (g.2.1), (g.2.2.1)) ∧ Hp ⟨w0, I0, []⟩ (Ad I975 e977) [(g.2.2.2), e_6] w' ∧ OwnS (dI .u32) 45 w' (Ad I975 e977) v969 (g.2.2.2) (g.1) ∧ RepS (dI .u32) w' (Ad I975 e977) v982 x980 ∧ OwnS (dI .u32) 45 w' (Ad I975 e977) v986 e_6 x_3) ?_ ?_
              ·
                apply go
                apply go
                refine ev0 (rn_len rfl rfl Tryz.underlying22 r983) ?_
                apply go
                refine W.loop q_2b (γ := Ent) (fun s g => [(8, (.int .u64 (IntKind.u64.wrap x943))), (9, v969), (10, v982), (11, (.int .i64 (x980.length : Int))), (12, v986), (13, (.int .i64 x_4)), (15, (.int .u64 x_28)), (17, (.int .u64 (s.2.1))), (18, (.int .u32 (s.2.2.1))), (149, v982), (150, (.int .i64 (x980.length : Int))), (151, (.int .i64 (s.2.2.2)))]) (fun s g w' => Hp ⟨w0, I0, []⟩ (Ad I975 e977) [(g), e_6] w' ∧ OwnS (dI .u32) 45 w' (Ad I975 e977) v969 (g) (s.1) ∧ RepS (dI .u32) w' (Ad I975 e977) v982 x980 ∧ OwnS (dI .u32) 45 w' (Ad I975 e977) v986 e_6 x_3) e_5 (.c rfl (.c rfl (.c rfl (.c rfl (.c rfl (.c rfl (.c rfl (.c rfl (.c rfl (.c rfl (.c rfl (.c rfl .n)))))))))))) ⟨hp, o_9, r983, o_a⟩ ?_
                rintro ⟨x_2c, x_2d, x_2e, x_2f⟩ e_2g w_2h y_2i ⟨hp, o_2j, r983, o_a⟩ q_2k q_2l
                unfold integer_divide_L93 at q_2k
                apply go
                apply go
                apply go
                apply go
                refine sel_of (fun hc => ?_) (fun hc => ?_)
                ·
                  have q_2k := cond_t q_2k hc
                  apply go
                  apply go
                  apply go
                  apply go
                  apply go
                  obtain ⟨x_2m, q_2n, q_2k⟩ := bind_some q_2k
                  refine ev_index rfl rfl rfl Tryz.underlying22 T45 r983 q_2n ?_
                  intro p_2o c_2p d_2q a_2r
                  obtain rfl : c_2p = [(.int .u32 x_2m)] := d_2q
                  refine ev (rn_load rfl rfl (run_loadVar1 T45 (a_2r.2 0 _ rfl))) ?_
                  apply go
                  apply go
                  refine ev0 (rn_conv rfl rfl U45 Tryz.underlying49) ?_
                  apply go
                  apply go
                  refine ⟨by decide, ?_⟩
                  apply go
                  obtain ⟨x_2s, q_2t, q_2k⟩ := bind_some q_2k
                  refine ev_indexO rfl rfl rfl Tryz.underlying22 T45 o_2j q_2t ?_
                  intro g_2u c_2v h_2w d_2x l_2y
                  refine ev (rn_load rfl rfl (run_loadVar1 T45 (hp.cellE (i := 0) rfl h_2w d_2x (j := 0) rfl))) ?_
                  refine ev0 (rn_conv rfl rfl U49 Tryz.underlying45) ?_
                  obtain ⟨⟨x_2z, x_30⟩, q_31, q_2k⟩ := bind_some q_2k
                  refine ev_call rfl rfl C71 (((bits_Sub32_ok n) _ _  x_2s (IntKind.u32.wrap (IntKind.u64.wrap ((IntKind.u64.wrap (x_28 * (IntKind.u64.wrap x_2m))) + x_2d))) x_2e hp.imm _ q_31).mono ?_)
                  rintro _ w_32 ⟨rfl, hc⟩
                  have hs := hp.stp hc
                  replace hp := hp.ext hc
                  replace o_2j := o_2j.step hs
                  replace r983 := r983.step hs
                  replace o_a := o_a.step hs
                  obtain ⟨x_33, q_34, q_2k⟩ := bind_some q_2k
                  refine ev_indexO rfl rfl rfl Tryz.underlying22 T45 o_2j q_34 ?_
                  intro g_35 c_36 h_37 d_38 l_39
                  refine ev_storeE hp (i := 0) rfl h_37 rfl rfl rfl T45 o_2j q_34 (x0 := x_2z) rfl ?_
                  intro e_3a w_3b hp hs o_3c
                  replace r983 := r983.step hs
                  replace o_a := o_a.step hs
                  apply go
                  exact ⟨_, (Option.some.inj q_2k).symm, e_3a, (.c rfl (.c rfl (.c rfl (.c rfl (.c rfl (.c rfl (.c rfl (.c rfl (.c rfl (.c rfl (.c rfl (.c rfl .n)))))))))))), ⟨hp, o_3c, r983, o_a⟩⟩
                ·
                  have q_2k := cond_f q_2k hc
                  apply go
                  have q_3d := congrArg some (q_2l _ (Option.some.inj q_2k).symm)
                  obtain rfl := Option.some.inj q_3d
                  exact ⟨(x_2c, x_2d, x_2e, e_2g), (.c rfl (.c rfl (.c rfl (.c rfl (.c rfl (.c rfl (.c rfl (.c rfl (.c rfl .n))))))))), rfl, hp, o_2j, r983, o_a⟩
              ·
                rintro ⟨x_3e, x_3f, x_3g, e_3h⟩ w_3i ⟨hy, hp, o_3j, r983, o_a⟩
                replace hy := hy.symm
                subst hy
                apply go
                apply go
                obtain ⟨x_3k, q_3l, q_e⟩ := bind_some q_e
                refine ev_indexO rfl rfl rfl Tryz.underlying22 T45 o_3j q_3l ?_
                intro g_3m c_3n h_3o d_3p l_3q
                refine ev (rn_load rfl rfl (run_loadVar1 T45 (hp.cellE (i := 0) rfl h_3o d_3p (j := 0) rfl))) ?_
                refine ev0 (rn_conv rfl rfl U49 Tryz.underlying45) ?_
                obtain ⟨⟨x_3r, x_3s⟩, q_3t, q_e⟩ := bind_some q_e
                refine ev_call rfl rfl C71 (((bits_Sub32_ok n) _ _  x_3k (IntKind.u32.wrap x_3f) x_3g hp.imm _ q_3t).mono ?_)
                rintro _ w_3u ⟨rfl, hc⟩
                have hs := hp.stp hc
                replace hp := hp.ext hc
                replace o_3j := o_3j.step hs
                replace r983 := r983.step hs
                replace o_a := o_a.step hs
                obtain ⟨x_3v, q_3w, q_e⟩ := bind_some q_e
                refine ev_indexO rfl rfl rfl Tryz.underlying22 T45 o_3j q_3w ?_
                intro g_3x c_3y h_3z d_40 l_41
                refine ev_storeE hp (i := 0) rfl h_3z rfl rfl rfl T45 o_3j q_3w (x0 := x_3r) rfl ?_
                intro e_42 w_43 hp hs o_44
                replace r983 := r983.step hs
                replace o_a := o_a.step hs
                obtain ⟨y_45, q_46, q_e⟩ := bind_some q_e
                refine W.cut (γ := ((List Int) × Int × Ent)) (fun g => [(8, (.int .u64 (IntKind.u64.wrap x943))), (9, v969), (10, v982), (11, (.int .i64 (x980.length : Int))), (12, v986), (13, (.int .i64 x_4)), (15, (.int .u64 (g.2.1)))]) (fun g w' => y_45 = ((g.1), (g.2.1)) ∧ Hp ⟨w0, I0, []⟩ (Ad I975 e977) [(g.2.2), e_6] w' ∧ OwnS (dI .u32) 45 w' (Ad I975 e977) v969 (g.2.2) (g.1) ∧ RepS (dI .u32) w' (Ad I975 e977) v982 x980 ∧ OwnS (dI .u32) 45 w' (Ad I975 e977) v986 e_6 x_3) ?_ ?_
                ·
                  apply go
                  apply go
                  apply go
                  refine sel_of (fun hc => ?_) (fun hc => ?_)
                  ·
                    have q_46 := cond_t q_46 hc
                    apply go
                    apply go
                    apply go
                    apply go
                    obtain ⟨y_47, q_48, q_46⟩ := bind_some q_46
                    refine W.cut (γ := ((List Int) × Int × Ent)) (fun g => [(8, (.int .u64 (IntKind.u64.wrap x943))), (9, v969), (10, v982), (11, (.int .i64 (x980.length : Int))), (12, v986), (13, (.int .i64 x_4)), (15, (.int .u64 (IntKind.u64.wrap (x_28 - 1)))), (22, (.int .u32 (g.2.1)))]) (fun g w' => y_47 = ((g.1), (g.2.1)) ∧ Hp ⟨w0, I0, []⟩ (Ad I975 e977) [(g.2.2), e_6] w' ∧ OwnS (dI .u32) 45 w' (Ad I975 e977) v969 (g.2.2) (g.1) ∧ RepS (dI .u32) w' (Ad I975 e977) v982 x980 ∧ OwnS (dI .u32) 45 w' (Ad I975 e977) v986 e_6 x_3) ?_ ?_
                    ·
                      apply go
                      apply go
                      refine ev0 (rn_len rfl rfl Tryz.underlying22 r983) ?_
                      apply go
                      refine W.loop q_48 (γ := Ent) (fun s g => [(8, (.int .u64 (IntKind.u64.wrap x943))), (9, v969), (10, v982), (11, (.int .i64 (x980.length : Int))), (12, v986), (13, (.int .i64 x_4)), (15, (.int .u64 (IntKind.u64.wrap (x_28 - 1)))), (22, (.int .u32 (s.2.1))), (205, v982), (206, (.int .i64 (x980.length : Int))), (207, (.int .i64 (s.2.2)))]) (fun s g w' => Hp ⟨w0, I0, []⟩ (Ad I975 e977) [(g), e_6] w' ∧ OwnS (dI .u32) 45 w' (Ad I975 e977) v969 (g) (s.1) ∧ RepS (dI .u32) w' (Ad I975 e977) v982 x980 ∧ OwnS (dI .u32) 45 w' (Ad I975 e977) v986 e_6 x_3) e_42 (.c rfl (.c rfl (.c rfl (.c rfl (.c rfl (.c rfl (.c rfl (.c rfl (.c rfl (.c rfl (.c rfl .n))))))))))) ⟨hp, o_44, r983, o_a⟩ ?_
                      rintro ⟨x_49, x_4a, x_4b⟩ e_4c w_4d y_4e ⟨hp, o_4f, r983, o_a⟩ q_4g q_4h
                      unfold integer_divide_L97 at q_4g
                      apply go
                      apply go
                      apply go
                      apply go
                      refine sel_of (fun hc => ?_) (fun hc => ?_)
                      ·
                        have q_4g := cond_t q_4g hc
                        apply go
                        apply go
                        apply go
                        apply go
                        apply go
                        obtain ⟨x_4i, q_4j, q_4g⟩ := bind_some q_4g
                        refine ev_index rfl rfl rfl Tryz.underlying22 T45 r983 q_4j ?_
                        intro p_4k c_4l d_4m a_4n
                        obtain rfl : c_4l = [(.int .u32 x_4i)] := d_4m
                        refine ev (rn_load rfl rfl (run_loadVar1 T45 (a_4n.2 0 _ rfl))) ?_
                        apply go
                        obtain ⟨x_4o, q_4p, q_4g⟩ := bind_some q_4g
                        refine ev_indexO rfl rfl rfl Tryz.underlying22 T45 o_4f q_4p ?_
                        intro g_4q c_4r h_4s d_4t l_4u
                        refine ev (rn_load rfl rfl (run_loadVar1 T45 (hp.cellE (i := 0) rfl h_4s d_4t (j := 0) rfl))) ?_
                        obtain ⟨⟨x_4v, x_4w⟩, q_4x, q_4g⟩ := bind_some q_4g
                        refine ev_call rfl rfl C72 (((bits_Add32_ok n) _ _  x_4o x_4i x_4a hp.imm _ q_4x).mono ?_)
                        rintro _ w_4y ⟨rfl, hc⟩
                        have hs := hp.stp hc
                        replace hp := hp.ext hc
                        replace o_4f := o_4f.step hs
                        replace r983 := r983.step hs
                        replace o_a := o_a.step hs
                        obtain ⟨x_4z, q_50, q_4g⟩ := bind_some q_4g
                        refine ev_indexO rfl rfl rfl Tryz.underlying22 T45 o_4f q_50 ?_
                        intro g_51 c_52 h_53 d_54 l_55
                        refine ev_storeE hp (i := 0) rfl h_53 rfl rfl rfl T45 o_4f q_50 (x0 := x_4v) rfl ?_
                        intro e_56 w_57 hp hs o_58
                        replace r983 := r983.step hs
                        replace o_a := o_a.step hs
                        apply go
                        exact ⟨_, (Option.some.inj q_4g).symm, e_56, (.c rfl (.c rfl (.c rfl (.c rfl (.c rfl (.c rfl (.c rfl (.c rfl (.c rfl (.c rfl (.c rfl .n))))))))))), ⟨hp, o_58, r983, o_a⟩⟩
                      ·
                        have q_4g := cond_f q_4g hc
                        apply go
                        have q_59 := congrArg some (q_4h _ (Option.some.inj q_4g).symm)
                        obtain rfl := Option.some.inj q_59
                        exact ⟨(x_49, x_4a, e_4c), (.c rfl (.c rfl (.c rfl (.c rfl (.c rfl (.c rfl (.c rfl (.c rfl .n)))))))), rfl, hp, o_4f, r983, o_a⟩
                    ·
                      rintro ⟨x_5a, x_5b, e_5c⟩ w_5d ⟨hy, hp, o_5e, r983, o_a⟩
                      replace hy := hy.symm
                      subst hy
                      apply go
                      obtain ⟨x_5f, q_5g, q_46⟩ := bind_some q_46
                      refine ev_indexO rfl rfl rfl Tryz.underlying22 T45 o_5e q_5g ?_
                      intro g_5h c_5i h_5j d_5k l_5l
                      refine ev (rn_load rfl rfl (run_loadVar1 T45 (hp.cellE (i := 0) rfl h_5j d_5k (j := 0) rfl))) ?_
                      obtain ⟨x_5m, q_5n, q_46⟩ := bind_some q_46
                      refine ev_indexO rfl rfl rfl Tryz.underlying22 T45 o_5e q_5n ?_
                      intro g_5o c_5p h_5q d_5r l_5s
                      refine ev_storeE hp (i := 0) rfl h_5q rfl rfl rfl T45 o_5e q_5n (x0 := (IntKind.u32.wrap (x_5f + x_5b))) rfl ?_
                      intro e_5t w_5u hp hs o_5v
                      replace r983 := r983.step hs
                      replace o_a := o_a.step hs
                      obtain rfl := Option.some.inj q_46
                      exact ⟨((upd x_5a (IntKind.i64.wrap (x_4 + (x980.length : Int))) (IntKind.u32.wrap (x_5f + x_5b))), (IntKind.u64.wrap (x_28 - 1)), e_5t), (.c rfl (.c rfl (.c rfl (.c rfl (.c rfl (.c rfl (.c rfl .n))))))), rfl, hp, o_5v, r983, o_a⟩
                  ·
                    have q_46 := cond_f q_46 hc
                    apply go
                    obtain rfl := Option.some.inj q_46
                    exact ⟨((upd x_3e (IntKind.i64.wrap (x_4 + (x980.length : Int))) x_3r), x_28, e_42), (.c rfl (.c rfl (.c rfl (.c rfl (.c rfl (.c rfl (.c rfl .n))))))), rfl, hp, o_44, r983, o_a⟩
                ·
                  rintro ⟨x_5w, x_5x, e_5y⟩ w_5z ⟨hy, hp, o_60, r983, o_a⟩
                  replace hy := hy.symm
                  subst hy
                  apply go
                  refine ev0 (rn_conv rfl rfl U49 Tryz.underlying45) ?_
                  obtain ⟨x_61, q_62, q_e⟩ := bind_some q_e
                  refine ev_indexO rfl rfl rfl Tryz.underlying22 T45 o_a q_62 ?_
                  intro g_63 c_64 h_65 d_66 l_67
                  refine ev_storeE hp (i := 1) rfl h_65 rfl rfl rfl T45 o_a q_62 (x0 := (IntKind.u32.wrap x_5x)) rfl ?_
                  intro e_68 w_69 hp hs o_6a
                  replace o_60 := o_60.step hs
                  replace r983 := r983.step hs
                  obtain rfl := Option.some.inj q_e
                  exact ⟨(x_5w, (upd x_3 x_4 (IntKind.u32.wrap x_5x)), e_5y, e_68), (.c rfl (.c rfl (.c rfl (.c rfl (.c rfl (.c rfl .n)))))), rfl, hp, o_60, r983, o_6a⟩
          ·
            rintro ⟨x_6b, x_6c, e_6d, e_6e⟩ w_6f ⟨hy, hp, o_6g, r983, o_6h⟩
            replace hy := hy.symm
            subst hy
            apply go
            exact ⟨_, (Option.some.inj q_b).symm, (e_6d, e_6e), (.c rfl (.c rfl (.c rfl (.c rfl (.c rfl (.c rfl .n)))))), ⟨hp, o_6g, r983, o_6h⟩⟩
        ·
          have q_b := cond_f q_b hc
          apply go
          have q_6i := congrArg some (q_c _ (Option.some.inj q_b).symm)
          obtain rfl := Option.some.inj q_6i
          exact ⟨(x_2, x_3, e_5, e_6), (.c rfl (.c rfl (.c rfl (.c rfl .n)))), rfl, hp, o_9, o_a⟩
      ·
        rintro ⟨x_6j, x_6k, e_6l, e_6m⟩ w_6n ⟨hy, hp, o_6o, o_6p⟩
        replace hy := hy.symm
        subst hy
        apply go
        apply go
        obtain ⟨x_6q, q_6r, h⟩ := bind_some h
        refine ev_make (d := (dI .u32)) (x0 := 0) hp rfl rfl rfl Tryz.underlying22 T45 (fun _ _ => rfl) (Nat.le_of_ble_eq_true rfl) q_6r ?_
        intro v_6s e_6t w_6u hp hs o_6v
        replace o_6o := o_6o.step hs
        replace o_6p := o_6p.step hs
        obtain ⟨y_6w, q_6x, h⟩ := bind_some h
        refine W.cut (γ := ((List Int) × Ent)) (fun g => [(12, v986), (25, v_6s)]) (fun g w' => y_6w = (g.1) ∧ Hp ⟨w0, I0, []⟩ (Ad I975 e977) [e_6m, (g.2)] w' ∧ OwnS (dI .u32) 45 w' (Ad I975 e977) v986 e_6m x_6k ∧ OwnS (dI .u32) 45 w' (Ad I975 e977) v_6s (g.2) (g.1)) ?_ ?_
        ·
          apply go
          apply go
          refine ev0 (x_lenO rfl rfl Tryz.underlying22 o_6v) ?_
          apply go
          have hp := hp.perm [1, 2, 0] (by decide)
          refine W.loop q_6x (γ := Ent) (fun s g => [(8, (.int .u64 (IntKind.u64.wrap x943))), (9, v969), (12, v986), (25, v_6s), (247, (.int .i64 (x_6q.length : Int))), (248, (.int .i64 (s.2)))]) (fun s g w' => Hp ⟨w0, I0, []⟩ (Ad I975 e977) [e_6l, e_6m, (g)] w' ∧ OwnS (dI .u32) 45 w' (Ad I975 e977) v969 e_6l x_6j ∧ OwnS (dI .u32) 45 w' (Ad I975 e977) v986 e_6m x_6k ∧ OwnS (dI .u32) 45 w' (Ad I975 e977) v_6s (g) (s.1)) e_6t (.c rfl (.c rfl (.c rfl (.c rfl (.c rfl (.c rfl .n)))))) ⟨hp, o_6o, o_6p, o_6v⟩ ?_
          rintro ⟨x_6y, x_6z⟩ e_70 w_71 y_72 ⟨hp, o_6o, o_6p, o_73⟩ q_74 q_75
          unfold integer_divide_L99 at q_74
          apply go
          apply go
          apply go
          apply go
          refine sel_of (fun hc => ?_) (fun hc => ?_)
          ·
            have q_74 := cond_t q_74 hc
            apply go
            apply go
            apply go
            apply go
            apply go
            have hs := hp.stp (Ch.drew [] w_71)
            have hp := hp.drew
            replace o_6o := o_6o.step hs
            replace o_6p := o_6p.step hs
            replace o_73 := o_73.step hs
            refine W.tail 19 MX (by kernel_rfl) ?_
            obtain ⟨x_76, q_77, q_74⟩ := bind_some q_74
            refine evs_indexO rfl rfl rfl Tryz.underlying22 T45 o_6o q_77 ?_
            intro g_78 c_79 h_7a d_7b l_7c
            refine evs (rn_load rfl rfl (run_loadVar1 T45 (hp.cellE (i := 0) rfl h_7a d_7b (j := 0) rfl))) ?_
            refine evs0 (rn_conv rfl rfl U45 Tryz.underlying49) ?_
            refine ⟨by decide, ?_⟩
            obtain ⟨x_7d, q_7e, q_74⟩ := bind_some q_74
            refine evs_indexO rfl rfl rfl Tryz.underlying22 T45 o_6o q_7e ?_
            intro g_7f c_7g h_7h d_7i l_7j
            refine evs (rn_load rfl rfl (run_loadVar1 T45 (hp.cellE (i := 0) rfl h_7h d_7i (j := 0) rfl))) ?_
            refine evs0 (rn_conv rfl rfl U45 Tryz.underlying49) ?_
            obtain ⟨q_7k, _, q_74⟩ := need_some q_74
            refine ⟨q_7k, ?_⟩
            refine evs0 (rn_conv rfl rfl U49 Tryz.underlying45) ?_
            obtain ⟨x_7l, q_7m, q_74⟩ := bind_some q_74
            refine evs_indexO rfl rfl rfl Tryz.underlying22 T45 o_73 q_7m ?_
            intro g_7n c_7o h_7p d_7q l_7r
            refine ev_storeE hp (i := 2) rfl h_7p rfl rfl rfl T45 o_73 q_7m (x0 := (IntKind.u32.wrap ((ib .or .u64 (IntKind.u64.wrap ((IntKind.u64.wrap x_76) * 2 ^ min (32 : Int).toNat (IntKind.u64).bits)) (IntKind.u64.wrap x_7d)).fdiv (2 ^ min (IntKind.u64.wrap x943).toNat (IntKind.u64).bits)))) rfl ?_
            intro e_7s w_7t hp hs o_7u
            replace o_6o := o_6o.step hs
            replace o_6p := o_6p.step hs
            apply go
            exact ⟨_, (Option.some.inj q_74).symm, e_7s, (.c rfl (.c rfl (.c rfl (.c rfl (.c rfl (.c rfl .n)))))), ⟨hp, o_6o, o_6p, o_7u⟩⟩
          ·
            have q_74 := cond_f q_74 hc
            apply go
            have q_7v := congrArg some (q_75 _ (Option.some.inj q_74).symm)
            obtain rfl := Option.some.inj q_7v
            have hp := hp.sel [1, 2] (by decide)
            exact ⟨(x_6y, e_70), (.c rfl (.c rfl .n)), rfl, hp, o_6p, o_73⟩
        ·
          rintro ⟨x_7w, e_7x⟩ w_7y ⟨hy, hp, o_6p, o_7z⟩
          replace hy := hy.symm
          subst hy
          apply go
          apply go
          apply go
          obtain rfl := Option.some.inj h
          have r_80 := o_6p.frz hp (i := 0) rfl
          obtain ⟨hp, hs⟩ := freeze_hp hp (i := 0) rfl
          replace o_7z := o_7z.step hs
          have hp := hp.sel [1] (by decide)
          have r_81 := o_7z.frz hp (i := 0) rfl
          obtain ⟨hp, hs⟩ := freeze_hp hp (i := 0) rfl
          replace r_80 := r_80.step hs
          have hp := hp.sel [] (by decide)
          exact ⟨(Ad (Ad (Ad I975 e977) e_6m) e_7x), v986, v_6s, rfl, hp, r_80, r_81⟩

end Go.Proofs.YthhghkcopfnbiaaGreatDoor

namespace Go.Proofs.YthhghkcopfnbiaaGreatDoor
open Go Go.Proofs.YthhghkcopfnbiaaGreatDoor.Gw Go.RowKit
set_option linter.unusedVariables false
attribute [local irreducible] Ev EvQ EvS EvH
def integer_DivMod_S (f : Int_2 → Int_2 → Option (Int_2 × Int_2 × Int)) : Prop := ∀ (w0 : World) (I0 : Nat → Prop) (x_0 : Int_2) (v_1 : Value) (r_2 : RepS (dI .u32) w0 I0 v_1 x_0.Mag) (x_3 : Int_2) (v_4 : Value) (r_5 : RepS (dI .u32) w0 I0 v_4 x_3.Mag) (hI : ∀ g, I0 g → g < w0.heap.size) (r : (Int_2 × Int_2 × Int)), f x_0 x_3 = some r →
    Ret Tryz.prog 24 #[(.agg #[(.bool x_0.Neg), v_1]), (.agg #[(.bool x_3.Neg), v_4])] w0 fun v w1 => ∃ (I1 : Nat → Prop) (u_6 : Value) (u_7 : Value), v = (.tuple #[(.agg #[(.bool r.1.Neg), u_6]), (.agg #[(.bool r.2.1.Neg), u_7]), (.int .i64 r.2.2)]) ∧ Hp ⟨w0, I0, []⟩ I1 [] w1 ∧ RepS (dI .u32) w1 I1 u_6 r.1.Mag ∧ RepS (dI .u32) w1 I1 u_7 r.2.1.Mag
theorem integer_DivMod_ok (n : Nat) : integer_DivMod_S (integer_DivMod n) := by
  intro w0 I0 x_0 v_1 r_2 x_3 v_4 r_5 hI r h
  unfold integer_DivMod at h
  refine enter Tryz.func24 rfl (Nat.le_of_ble_eq_true rfl) ?_
  have hp : Hp ⟨w0, I0, []⟩ I0 [] w0 := Hp.start hI
  apply go
  apply go
  refine ev_boxI hp rfl rfl ?_
  intro p_6 I_7 w_8 hp hs a_9
  replace r_5 := r_5.step hs
  replace r_2 := r_2.step hs
  refine ev_boxI hp rfl rfl ?_
  intro p_a I_b w_c hp hs a_d
  replace a_9 := a_9.step hs
  replace r_2 := r_2.step hs
  replace r_5 := r_5.step hs
  refine ev_alloc hp rfl T24 ?_
  intro g_e w_f hp hs
  replace a_9 := a_9.step hs
  replace r_2 := r_2.step hs
  replace a_d := a_d.step hs
  replace r_5 := r_5.step hs
  refine ev_alloc hp rfl T24 ?_
  intro g_g w_h hp hs
  replace a_9 := a_9.step hs
  replace r_2 := r_2.step hs
  replace a_d := a_d.step hs
  replace r_5 := r_5.step hs
  apply go
  have hs := hp.stp (Ch.drew [] w_h)
  have hp := hp.drew
  replace a_9 := a_9.step hs
  replace r_2 := r_2.step hs
  replace a_d := a_d.step hs
  replace r_5 := r_5.step hs
  refine W.held [(0, true), (1, true), (3, true), (4, true), (2, false), (5, false), (6, true), (7, true)] (Stp I_b w_h.drew I_b) MX (by kernel_rfl) (Stp.refl _ _) ?_
  have hz := Stp.refl I_b w_h.drew
  refine evh0 (rn_field rfl rfl FO24_1) ?_
  refine evh (fun w' hw => rn_load rfl rfl (run_loadVar1 T22 ((a_9.step hw).2 1 _ rfl))) ?_
  refine evh0 (rn_field rfl rfl FO24_1) ?_
  refine evh (fun w' hw => rn_load rfl rfl (run_loadVar1 T22 ((a_d.step hw).2 1 _ rfl))) ?_
  obtain ⟨x_i, q_j, h⟩ := bind_some h
  refine ev_call rfl rfl C46 (((integer_trim_ok n) _ _  x_0.Mag v_1 r_2 hp.imm _ q_j).mono ?_)
  rintro _ w_k ⟨I_l, v_m, hv, hq, r_n⟩
  replace hv := hv.symm
  subst hv
  have hs := hq.st
  have hp := hp.join0 hq
  replace hz := hz.trans hs
  replace a_9 := a_9.step hs
  replace r_2 := r_2.step hs
  replace a_d := a_d.step hs
  replace r_5 := r_5.step hs
  refine ⟨Stp I_l w_k I_l, Stp.refl _ _, fun x hx => hz.held hx, ?_⟩
  have hz := Stp.refl I_l w_k
  obtain ⟨x_o, q_p, h⟩ := bind_some h
  refine ev_call rfl rfl C46 (((integer_trim_ok n) _ _  x_3.Mag v_4 r_5 hp.imm _ q_p).mono ?_)
  rintro _ w_q ⟨I_r, v_s, hv, hq, r_t⟩
  replace hv := hv.symm
  subst hv
  have hs := hq.st
  have hp := hp.join0 hq
  replace hz := hz.trans hs
  replace a_9 := a_9.step hs
  replace r_2 := r_2.step hs
  replace a_d := a_d.step hs
  replace r_5 := r_5.step hs
  replace r_n := r_n.step hs
  refine ⟨Stp I_r w_q I_r, Stp.refl _ _, fun x hx => hz.held hx, ?_⟩
  have hz := Stp.refl I_r w_q
  apply go
  apply go
  apply go
  refine ev0 (rn_len rfl rfl Tryz.underlying22 r_t) ?_
  apply go
  refine sel_of (fun hc => ?_) (fun hc => ?_)
  ·
    have h := cond_t h hc
    apply go
    apply go
    refine ev0 (fun w => rn_build (cs := [(.bool false), (.slice none 0 0)]) rfl rfl T24 PL24 rfl) ?_
    refine ev0 (fun w => rn_build (cs := [(.bool false), (.slice none 0 0)]) rfl rfl T24 PL24 rfl) ?_
    refine ev_storeA hp (i := 1) (off := 0) (vs := [(.bool false), (.slice none 0 0)]) rfl rfl rfl rfl T24 rfl (Nat.le_of_ble_eq_true rfl) (ones_of rfl) ?_
    intro w_u hp hs
    refine ev_storeA hp (i := 0) (off := 0) (vs := [(.bool false), (.slice none 0 0)]) rfl rfl rfl rfl T24 rfl (Nat.le_of_ble_eq_true rfl) (ones_of rfl) ?_
    intro w_v hp hs
    apply go
    obtain rfl := Option.some.inj h
    refine ⟨_, run_loadVarA T24 rfl (hp.at_ (i := 1) rfl), ?_⟩
    refine ⟨_, run_loadVarA T24 rfl (hp.at_ (i := 0) rfl), ?_⟩
    have hp := hp.sel [] (by decide)
    exact ⟨I_r, .slice none 0 0, .slice none 0 0, rfl, hp, RepS.nil _ _ _, RepS.nil _ _ _⟩
  ·
    have h := cond_f h hc
    apply go
    apply go
    apply go
    obtain ⟨⟨x_w, x_x⟩, q_y, h⟩ := bind_some h
    refine ev_call rfl rfl C55 (((integer_divide_ok n) _ _  x_i v_m r_n x_o v_s r_t hp.imm _ q_y).mono ?_)
    rintro _ w_z ⟨I_10, v_11, v_12, hv, hq, r_13, r_14⟩
    replace hv := hv.symm
    subst hv
    have hs := hq.st
    have hp := hp.join0 hq
    replace a_9 := a_9.step hs
    replace r_2 := r_2.step hs
    replace a_d := a_d.step hs
    replace r_5 := r_5.step hs
    replace r_t := r_t.step hs
    obtain ⟨y_15, q_16, h⟩ := bind_some h
    refine W.cut (γ := (Bool × (List Int) × Bool × (List Int) × Nat × Value × Nat × Value × (Nat → Prop))) (fun g => [(3, (.pointer (some (p_a)))), (4, (.pointer (some ⟨g_e, 0, none⟩))), (5, (.pointer (some ⟨g_g, 0, none⟩))), (8, v_s), (11, (.pointer (some ⟨(g.2.2.2.2.1), 0, none⟩))), (12, (.pointer (some ⟨(g.2.2.2.2.2.2.1), 0, none⟩)))]) (fun g w' => y_15 = ((g.1), (g.2.1), (g.2.2.1), (g.2.2.2.1)) ∧ Hp ⟨w0, I0, []⟩ (g.2.2.2.2.2.2.2.2) [some (g_e, [(.bool false), (.slice none 0 0)], 24), some (g_g, [(.bool false), (.slice none 0 0)], 24), some ((g.2.2.2.2.1), [(.bool (g.1)), (g.2.2.2.2.2.1)], 24), some ((g.2.2.2.2.2.2.1), [(.bool (g.2.2.1)), (g.2.2.2.2.2.2.2.1)], 24)] w' ∧ RepS (dI .u32) w' (g.2.2.2.2.2.2.2.2) v_4 x_3.Mag ∧ At w' (g.2.2.2.2.2.2.2.2) p_a [(.bool x_3.Neg), v_4] ∧ RepS (dI .u32) w' (g.2.2.2.2.2.2.2.2) v_s x_o ∧ RepS (dI .u32) w' (g.2.2.2.2.2.2.2.2) (g.2.2.2.2.2.1) (g.2.1) ∧ RepS (dI .u32) w' (g.2.2.2.2.2.2.2.2) (g.2.2.2.2.2.2.2.1) (g.2.2.2.1)) ?_ ?_
    ·
      have hs := hp.stp (Ch.drew [] w_z)
      have hp := hp.drew
      replace a_9 := a_9.step hs
      replace r_2 := r_2.step hs
      replace a_d := a_d.step hs
      replace r_5 := r_5.step hs
      replace r_t := r_t.step hs
      replace r_13 := r_13.step hs
      replace r_14 := r_14.step hs
      refine W.heldG (.q 0 (.q 1 (.q 2 (.q 3 (.q 4 (.q 5 (.q 7 (.q 8 (.q 9 (.l 6 (.l 10 (.l 11 (.l 12 (.l 13 (.l 14 .done .no) .no) .no) (.l 12 (.l 11 (.l 13 (.l 14 .done .no) .no) .no) .no)) (.l 11 (.l 10 (.l 12 (.l 13 (.l 14 .done .no) .no) .no) (.l 12 (.l 10 (.l 13 (.l 14 .done .no) .no) .no) .no)) (.l 12 (.l 10 (.l 11 (.l 13 (.l 14 .done .no) .no) .no) (.l 11 (.l 10 (.l 13 (.l 14 .done .no) .no) .no) .no)) .no))) (.l 11 (.l 6 (.l 10 (.l 12 (.l 13 (.l 14 .done .no) .no) .no) (.l 12 (.l 10 (.l 13 (.l 14 .done .no) .no) .no) .no)) (.l 12 (.l 6 (.l 10 (.l 13 (.l 14 .done .no) .no) .no) .no) .no)) (.l 12 (.l 6 (.l 10 (.l 11 (.l 13 (.l 14 .done .no) .no) .no) (.l 11 (.l 10 (.l 13 (.l 14 .done .no) .no) .no) .no)) (.l 11 (.l 6 (.l 10 (.l 13 (.l 14 .done .no) .no) .no) .no) .no)) .no)))))))))))) (SK (Stp I_10 w_z.drew I_10) [] []) MX (by kernel_rfl) ⟨Stp.refl _ _, kp_nil⟩ ?_
      have hz := Stp.refl I_10 w_z.drew
      refine ⟨SK.same (by kernel_rfl), ?_⟩
      refine evh0 (rn_field rfl rfl FO24_0) ?_
      refine ⟨SK.same (by kernel_rfl), ?_⟩
      refine evh (fun w' hw => rn_load rfl rfl (run_loadVar1 T4 ((a_9.step (S0.si hw)).2 0 _ rfl))) ?_
      refine ⟨SK.same (by kernel_rfl), ?_⟩
      refine evh0 (rn_field rfl rfl FO24_0) ?_
      refine ⟨SK.same (by kernel_rfl), ?_⟩
      refine evh (fun w' hw => rn_load rfl rfl (run_loadVar1 T4 ((a_d.step (S0.si hw)).2 0 _ rfl))) ?_
      refine ⟨SK.same (by kernel_rfl), ?_⟩
      refine evh0 (rn_neB rfl rfl rfl Tryz.underlying4) ?_
      refine ⟨SK.same (by kernel_rfl), ?_⟩
      refine ⟨SK.same (by kernel_rfl), ?_⟩
      refine evh0 (rn_field rfl rfl FO24_0) ?_
      refine ⟨SK.same (by kernel_rfl), ?_⟩
      refine evh (fun w' hw => rn_load rfl rfl (run_loadVar1 T4 ((a_9.step (S0.si hw)).2 0 _ rfl))) ?_
      refine ⟨SK.same (by kernel_rfl), ?_⟩
      refine ⟨?_, ?_⟩
      ·
        obtain ⟨x_17, q_18, q_16⟩ := bind_some q_16
        refine ev_call rfl rfl C49 (((integer_made_ok n) _ _  (!(x_0.Neg == x_3.Neg)) x_w v_11 r_13 hp.imm _ q_18).mono ?_)
        rintro _ w_19 ⟨I_1a, v_1b, hv, hq, r_1c⟩
        replace hv := hv.symm
        subst hv
        have hs := hq.st
        have hp := hp.join0 hq
        replace hz := hz.trans hs
        replace a_d := a_d.step hs
        replace r_5 := r_5.step hs
        replace r_t := r_t.step hs
        replace r_14 := r_14.step hs
        refine ⟨SK (Stp I_1a w_19 I_1a) [] [], ⟨Stp.refl _ _, kp_nil⟩, fun L x h => ⟨hz.held h.1, h.2⟩, ?_⟩
        have hz := Stp.refl I_1a w_19
        refine ⟨?_, ?_⟩
        ·
          obtain ⟨x_1d, q_1e, q_16⟩ := bind_some q_16
          refine ev_call rfl rfl C49 (((integer_made_ok n) _ _  x_0.Neg x_x v_12 r_14 hp.imm _ q_1e).mono ?_)
          rintro _ w_1f ⟨I_1g, v_1h, hv, hq, r_1i⟩
          replace hv := hv.symm
          subst hv
          have hs := hq.st
          have hp := hp.join0 hq
          replace hz := hz.trans hs
          replace a_d := a_d.step hs
          replace r_5 := r_5.step hs
          replace r_t := r_t.step hs
          replace r_1c := r_1c.step hs
          refine ⟨SK (Stp I_1g w_1f I_1g) [] [], ⟨Stp.refl _ _, kp_nil⟩, fun L x h => ⟨hz.held h.1, h.2⟩, ?_⟩
          have hz := Stp.refl I_1g w_1f
          refine ⟨?_, ?_⟩
          ·
            refine ev_alloc hp rfl T24 ?_
            intro g_1j w_1k hp hs
            replace hz := hz.trans hs
            replace a_d := a_d.step hs
            replace r_5 := r_5.step hs
            replace r_t := r_t.step hs
            replace r_1c := r_1c.step hs
            replace r_1i := r_1i.step hs
            refine ⟨SK (Stp I_1g w_1k I_1g) [] [], ⟨Stp.refl _ _, kp_nil⟩, fun L x h => ⟨hz.held h.1, h.2⟩, ?_⟩
            have hz := Stp.refl I_1g w_1k
            refine ⟨?_, trivial⟩
            refine ev_alloc hp rfl T24 ?_
            intro g_1l w_1m hp hs
            replace hz := hz.trans hs
            replace a_d := a_d.step hs
            replace r_5 := r_5.step hs
            replace r_t := r_t.step hs
            replace r_1c := r_1c.step hs
            replace r_1i := r_1i.step hs
            refine ⟨SK (Stp I_1g w_1m I_1g) [] [], ⟨Stp.refl _ _, kp_nil⟩, fun L x h => ⟨hz.held h.1, h.2⟩, ?_⟩
            have hz := Stp.refl I_1g w_1m
            refine ⟨?_, trivial⟩
            refine ev_storeA hp (i := 1) (off := 0) (vs := [(.bool x_17.Neg), v_1b]) rfl rfl rfl rfl T24 rfl (Nat.le_of_ble_eq_true rfl) (ones_cons rfl (ones_cons r_1c.one ones_nil)) ?_
            intro w_1n hp hs
            replace hz := hz.trans hs
            replace a_d := a_d.step hs
            replace r_5 := r_5.step hs
            replace r_t := r_t.step hs
            replace r_1i := r_1i.step hs
            replace r_1c := r_1c.step hs
            refine ⟨SK (Stp I_1g w_1n I_1g) [] [], ⟨Stp.refl _ _, kp_nil⟩, fun L x h => ⟨hz.held h.1, h.2⟩, ?_⟩
            have hz := Stp.refl I_1g w_1n
            refine ⟨?_, trivial⟩
            refine ev_storeA hp (i := 0) (off := 0) (vs := [(.bool x_1d.Neg), v_1h]) rfl rfl rfl rfl T24 rfl (Nat.le_of_ble_eq_true rfl) (ones_cons rfl (ones_cons r_1i.one ones_nil)) ?_
            intro w_1o hp hs
            replace hz := hz.trans hs
            replace a_d := a_d.step hs
            replace r_5 := r_5.step hs
            replace r_t := r_t.step hs
            replace r_1i := r_1i.step hs
            replace r_1c := r_1c.step hs
            refine ⟨SK (Stp I_1g w_1o I_1g) [] [], ⟨Stp.refl _ _, kp_nil⟩, fun L x h => ⟨hz.held h.1, h.2⟩, ?_⟩
            have hz := Stp.refl I_1g w_1o
            obtain rfl := Option.some.inj q_16
            have hp := hp.perm [3, 2, 1, 0] (by decide)
            exact ⟨(x_17.Neg, x_17.Mag, x_1d.Neg, x_1d.Mag, g_1j, v_1b, g_1l, v_1h, I_1g), (.c rfl (.c rfl (.c rfl (.c rfl (.c rfl (.c rfl .n)))))), rfl, hp, r_5, a_d, r_t, r_1c, r_1i⟩
          refine ⟨?_, trivial⟩
          refine ev_alloc hp rfl T24 ?_
          intro g_1p w_1q hp hs
          replace hz := hz.trans hs
          replace a_d := a_d.step hs
          replace r_5 := r_5.step hs
          replace r_t := r_t.step hs
          replace r_1c := r_1c.step hs
          replace r_1i := r_1i.step hs
          refine ⟨SK (Stp I_1g w_1q I_1g) [] [], ⟨Stp.refl _ _, kp_nil⟩, fun L x h => ⟨hz.held h.1, h.2⟩, ?_⟩
          have hz := Stp.refl I_1g w_1q
          refine ⟨?_, trivial⟩
          refine ev_alloc hp rfl T24 ?_
          intro g_1r w_1s hp hs
          replace hz := hz.trans hs
          replace a_d := a_d.step hs
          replace r_5 := r_5.step hs
          replace r_t := r_t.step hs
          replace r_1c := r_1c.step hs
          replace r_1i := r_1i.step hs
          refine ⟨SK (Stp I_1g w_1s I_1g) [] [], ⟨Stp.refl _ _, kp_nil⟩, fun L x h => ⟨hz.held h.1, h.2⟩, ?_⟩
          have hz := Stp.refl I_1g w_1s
          refine ⟨?_, trivial⟩
          refine ev_storeA hp (i := 0) (off := 0) (vs := [(.bool x_17.Neg), v_1b]) rfl rfl rfl rfl T24 rfl (Nat.le_of_ble_eq_true rfl) (ones_cons rfl (ones_cons r_1c.one ones_nil)) ?_
          intro w_1t hp hs
          replace hz := hz.trans hs
          replace a_d := a_d.step hs
          replace r_5 := r_5.step hs
          replace r_t := r_t.step hs
          replace r_1i := r_1i.step hs
          replace r_1c := r_1c.step hs
          refine ⟨SK (Stp I_1g w_1t I_1g) [] [], ⟨Stp.refl _ _, kp_nil⟩, fun L x h => ⟨hz.held h.1, h.2⟩, ?_⟩
          have hz := Stp.refl I_1g w_1t
          refine ⟨?_, trivial⟩
          refine ev_storeA hp (i := 1) (off := 0) (vs := [(.bool x_1d.Neg), v_1h]) rfl rfl rfl rfl T24 rfl (Nat.le_of_ble_eq_true rfl) (ones_cons rfl (ones_cons r_1i.one ones_nil)) ?_
          intro w_1u hp hs
          replace hz := hz.trans hs
          replace a_d := a_d.step hs
          replace r_5 := r_5.step hs
          replace r_t := r_t.step hs
          replace r_1c := r_1c.step hs
          replace r_1i := r_1i.step hs
          refine ⟨SK (Stp I_1g w_1u I_1g) [] [], ⟨Stp.refl _ _, kp_nil⟩, fun L x h => ⟨hz.held h.1, h.2⟩, ?_⟩
          have hz := Stp.refl I_1g w_1u
          obtain rfl := Option.some.inj q_16
          have hp := hp.perm [3, 2, 0, 1] (by decide)
          exact ⟨(x_17.Neg, x_17.Mag, x_1d.Neg, x_1d.Mag, g_1r, v_1b, g_1p, v_1h, I_1g), (.c rfl (.c rfl (.c rfl (.c rfl (.c rfl (.c rfl .n)))))), rfl, hp, r_5, a_d, r_t, r_1c, r_1i⟩
        refine ⟨?_, ?_⟩
        ·
          refine ev_alloc hp rfl T24 ?_
          intro g_1v w_1w hp hs
          replace hz := hz.trans hs
          replace a_d := a_d.step hs
          replace r_5 := r_5.step hs
          replace r_t := r_t.step hs
          replace r_14 := r_14.step hs
          replace r_1c := r_1c.step hs
          refine ⟨SK (Stp I_1a w_1w I_1a) [] [], ⟨Stp.refl _ _, kp_nil⟩, fun L x h => ⟨hz.held h.1, h.2⟩, ?_⟩
          have hz := Stp.refl I_1a w_1w
          refine ⟨?_, ?_⟩
          ·
            obtain ⟨x_1x, q_1y, q_16⟩ := bind_some q_16
            refine ev_call rfl rfl C49 (((integer_made_ok n) _ _  x_0.Neg x_x v_12 r_14 hp.imm _ q_1y).mono ?_)
            rintro _ w_1z ⟨I_20, v_21, hv, hq, r_22⟩
            replace hv := hv.symm
            subst hv
            have hs := hq.st
            have hp := hp.join0 hq
            replace hz := hz.trans hs
            replace a_d := a_d.step hs
            replace r_5 := r_5.step hs
            replace r_t := r_t.step hs
            replace r_1c := r_1c.step hs
            refine ⟨SK (Stp I_20 w_1z I_20) [] [], ⟨Stp.refl _ _, kp_nil⟩, fun L x h => ⟨hz.held h.1, h.2⟩, ?_⟩
            have hz := Stp.refl I_20 w_1z
            refine ⟨?_, trivial⟩
            refine ev_alloc hp rfl T24 ?_
            intro g_23 w_24 hp hs
            replace hz := hz.trans hs
            replace a_d := a_d.step hs
            replace r_5 := r_5.step hs
            replace r_t := r_t.step hs
            replace r_1c := r_1c.step hs
            replace r_22 := r_22.step hs
            refine ⟨SK (Stp I_20 w_24 I_20) [] [], ⟨Stp.refl _ _, kp_nil⟩, fun L x h => ⟨hz.held h.1, h.2⟩, ?_⟩
            have hz := Stp.refl I_20 w_24
            refine ⟨?_, trivial⟩
            refine ev_storeA hp (i := 1) (off := 0) (vs := [(.bool x_17.Neg), v_1b]) rfl rfl rfl rfl T24 rfl (Nat.le_of_ble_eq_true rfl) (ones_cons rfl (ones_cons r_1c.one ones_nil)) ?_
            intro w_25 hp hs
            replace hz := hz.trans hs
            replace a_d := a_d.step hs
            replace r_5 := r_5.step hs
            replace r_t := r_t.step hs
            replace r_22 := r_22.step hs
            replace r_1c := r_1c.step hs
            refine ⟨SK (Stp I_20 w_25 I_20) [] [], ⟨Stp.refl _ _, kp_nil⟩, fun L x h => ⟨hz.held h.1, h.2⟩, ?_⟩
            have hz := Stp.refl I_20 w_25
            refine ⟨?_, trivial⟩
            refine ev_storeA hp (i := 0) (off := 0) (vs := [(.bool x_1x.Neg), v_21]) rfl rfl rfl rfl T24 rfl (Nat.le_of_ble_eq_true rfl) (ones_cons rfl (ones_cons r_22.one ones_nil)) ?_
            intro w_26 hp hs
            replace hz := hz.trans hs
            replace a_d := a_d.step hs
            replace r_5 := r_5.step hs
            replace r_t := r_t.step hs
            replace r_22 := r_22.step hs
            replace r_1c := r_1c.step hs
            refine ⟨SK (Stp I_20 w_26 I_20) [] [], ⟨Stp.refl _ _, kp_nil⟩, fun L x h => ⟨hz.held h.1, h.2⟩, ?_⟩
            have hz := Stp.refl I_20 w_26
            obtain rfl := Option.some.inj q_16
            have hp := hp.perm [3, 2, 1, 0] (by decide)
            exact ⟨(x_17.Neg, x_17.Mag, x_1x.Neg, x_1x.Mag, g_1v, v_1b, g_23, v_21, I_20), (.c rfl (.c rfl (.c rfl (.c rfl (.c rfl (.c rfl .n)))))), rfl, hp, r_5, a_d, r_t, r_1c, r_22⟩
          refine ⟨?_, trivial⟩
          refine ev_alloc hp rfl T24 ?_
          intro g_27 w_28 hp hs
          replace hz := hz.trans hs
          replace a_d := a_d.step hs
          replace r_5 := r_5.step hs
          replace r_t := r_t.step hs
          replace r_14 := r_14.step hs
          replace r_1c := r_1c.step hs
          refine ⟨SK (Stp I_1a w_28 I_1a) [] [], ⟨Stp.refl _ _, kp_nil⟩, fun L x h => ⟨hz.held h.1, h.2⟩, ?_⟩
          have hz := Stp.refl I_1a w_28
          refine ⟨?_, trivial⟩
          obtain ⟨x_29, q_2a, q_16⟩ := bind_some q_16
          refine ev_call rfl rfl C49 (((integer_made_ok n) _ _  x_0.Neg x_x v_12 r_14 hp.imm _ q_2a).mono ?_)
          rintro _ w_2b ⟨I_2c, v_2d, hv, hq, r_2e⟩
          replace hv := hv.symm
          subst hv
          have hs := hq.st
          have hp := hp.join0 hq
          replace hz := hz.trans hs
          replace a_d := a_d.step hs
          replace r_5 := r_5.step hs
          replace r_t := r_t.step hs
          replace r_1c := r_1c.step hs
          refine ⟨SK (Stp I_2c w_2b I_2c) [] [], ⟨Stp.refl _ _, kp_nil⟩, fun L x h => ⟨hz.held h.1, h.2⟩, ?_⟩
          have hz := Stp.refl I_2c w_2b
          refine ⟨?_, trivial⟩
          refine ev_storeA hp (i := 1) (off := 0) (vs := [(.bool x_17.Neg), v_1b]) rfl rfl rfl rfl T24 rfl (Nat.le_of_ble_eq_true rfl) (ones_cons rfl (ones_cons r_1c.one ones_nil)) ?_
          intro w_2f hp hs
          replace hz := hz.trans hs
          replace a_d := a_d.step hs
          replace r_5 := r_5.step hs
          replace r_t := r_t.step hs
          replace r_2e := r_2e.step hs
          replace r_1c := r_1c.step hs
          refine ⟨SK (Stp I_2c w_2f I_2c) [] [], ⟨Stp.refl _ _, kp_nil⟩, fun L x h => ⟨hz.held h.1, h.2⟩, ?_⟩
          have hz := Stp.refl I_2c w_2f
          refine ⟨?_, trivial⟩
          refine ev_storeA hp (i := 0) (off := 0) (vs := [(.bool x_29.Neg), v_2d]) rfl rfl rfl rfl T24 rfl (Nat.le_of_ble_eq_true rfl) (ones_cons rfl (ones_cons r_2e.one ones_nil)) ?_
          intro w_2g hp hs
          replace hz := hz.trans hs
          replace a_d := a_d.step hs
          replace r_5 := r_5.step hs
          replace r_t := r_t.step hs
          replace r_2e := r_2e.step hs
          replace r_1c := r_1c.step hs
          refine ⟨SK (Stp I_2c w_2g I_2c) [] [], ⟨Stp.refl _ _, kp_nil⟩, fun L x h => ⟨hz.held h.1, h.2⟩, ?_⟩
          have hz := Stp.refl I_2c w_2g
          obtain rfl := Option.some.inj q_16
          have hp := hp.perm [3, 2, 1, 0] (by decide)
          exact ⟨(x_17.Neg, x_17.Mag, x_29.Neg, x_29.Mag, g_1v, v_1b, g_27, v_2d, I_2c), (.c rfl (.c rfl (.c rfl (.c rfl (.c rfl (.c rfl .n)))))), rfl, hp, r_5, a_d, r_t, r_1c, r_2e⟩
        refine ⟨?_, trivial⟩
        refine ev_alloc hp rfl T24 ?_
        intro g_2h w_2i hp hs
        replace hz := hz.trans hs
        replace a_d := a_d.step hs
        replace r_5 := r_5.step hs
        replace r_t := r_t.step hs
        replace r_14 := r_14.step hs
        replace r_1c := r_1c.step hs
        refine ⟨SK (Stp I_1a w_2i I_1a) [] [], ⟨Stp.refl _ _, kp_nil⟩, fun L x h => ⟨hz.held h.1, h.2⟩, ?_⟩
        have hz := Stp.refl I_1a w_2i
        refine ⟨?_, ?_⟩
        ·
          obtain ⟨x_2j, q_2k, q_16⟩ := bind_some q_16
          refine ev_call rfl rfl C49 (((integer_made_ok n) _ _  x_0.Neg x_x v_12 r_14 hp.imm _ q_2k).mono ?_)
          rintro _ w_2l ⟨I_2m, v_2n, hv, hq, r_2o⟩
          replace hv := hv.symm
          subst hv
          have hs := hq.st
          have hp := hp.join0 hq
          replace hz := hz.trans hs
          replace a_d := a_d.step hs
          replace r_5 := r_5.step hs
          replace r_t := r_t.step hs
          replace r_1c := r_1c.step hs
          refine ⟨SK (Stp I_2m w_2l I_2m) [] [], ⟨Stp.refl _ _, kp_nil⟩, fun L x h => ⟨hz.held h.1, h.2⟩, ?_⟩
          have hz := Stp.refl I_2m w_2l
          refine ⟨?_, trivial⟩
          refine ev_alloc hp rfl T24 ?_
          intro g_2p w_2q hp hs
          replace hz := hz.trans hs
          replace a_d := a_d.step hs
          replace r_5 := r_5.step hs
          replace r_t := r_t.step hs
          replace r_1c := r_1c.step hs
          replace r_2o := r_2o.step hs
          refine ⟨SK (Stp I_2m w_2q I_2m) [] [], ⟨Stp.refl _ _, kp_nil⟩, fun L x h => ⟨hz.held h.1, h.2⟩, ?_⟩
          have hz := Stp.refl I_2m w_2q
          refine ⟨?_, trivial⟩
          refine ev_storeA hp (i := 0) (off := 0) (vs := [(.bool x_17.Neg), v_1b]) rfl rfl rfl rfl T24 rfl (Nat.le_of_ble_eq_true rfl) (ones_cons rfl (ones_cons r_1c.one ones_nil)) ?_
          intro w_2r hp hs
          replace hz := hz.trans hs
          replace a_d := a_d.step hs
          replace r_5 := r_5.step hs
          replace r_t := r_t.step hs
          replace r_2o := r_2o.step hs
          replace r_1c := r_1c.step hs
          refine ⟨SK (Stp I_2m w_2r I_2m) [] [], ⟨Stp.refl _ _, kp_nil⟩, fun L x h => ⟨hz.held h.1, h.2⟩, ?_⟩
          have hz := Stp.refl I_2m w_2r
          refine ⟨?_, trivial⟩
          refine ev_storeA hp (i := 1) (off := 0) (vs := [(.bool x_2j.Neg), v_2n]) rfl rfl rfl rfl T24 rfl (Nat.le_of_ble_eq_true rfl) (ones_cons rfl (ones_cons r_2o.one ones_nil)) ?_
          intro w_2s hp hs
          replace hz := hz.trans hs
          replace a_d := a_d.step hs
          replace r_5 := r_5.step hs
          replace r_t := r_t.step hs
          replace r_1c := r_1c.step hs
          replace r_2o := r_2o.step hs
          refine ⟨SK (Stp I_2m w_2s I_2m) [] [], ⟨Stp.refl _ _, kp_nil⟩, fun L x h => ⟨hz.held h.1, h.2⟩, ?_⟩
          have hz := Stp.refl I_2m w_2s
          obtain rfl := Option.some.inj q_16
          have hp := hp.perm [3, 2, 0, 1] (by decide)
          exact ⟨(x_17.Neg, x_17.Mag, x_2j.Neg, x_2j.Mag, g_2p, v_1b, g_2h, v_2n, I_2m), (.c rfl (.c rfl (.c rfl (.c rfl (.c rfl (.c rfl .n)))))), rfl, hp, r_5, a_d, r_t, r_1c, r_2o⟩
        refine ⟨?_, trivial⟩
        refine ev_alloc hp rfl T24 ?_
        intro g_2t w_2u hp hs
        replace hz := hz.trans hs
        replace a_d := a_d.step hs
        replace r_5 := r_5.step hs
        replace r_t := r_t.step hs
        replace r_14 := r_14.step hs
        replace r_1c := r_1c.step hs
        refine ⟨SK (Stp I_1a w_2u I_1a) [] [], ⟨Stp.refl _ _, kp_nil⟩, fun L x h => ⟨hz.held h.1, h.2⟩, ?_⟩
        have hz := Stp.refl I_1a w_2u
        refine ⟨?_, trivial⟩
        obtain ⟨x_2v, q_2w, q_16⟩ := bind_some q_16
        refine ev_call rfl rfl C49 (((integer_made_ok n) _ _  x_0.Neg x_x v_12 r_14 hp.imm _ q_2w).mono ?_)
        rintro _ w_2x ⟨I_2y, v_2z, hv, hq, r_30⟩
        replace hv := hv.symm
        subst hv
        have hs := hq.st
        have hp := hp.join0 hq
        replace hz := hz.trans hs
        replace a_d := a_d.step hs
        replace r_5 := r_5.step hs
        replace r_t := r_t.step hs
        replace r_1c := r_1c.step hs
        refine ⟨SK (Stp I_2y w_2x I_2y) [] [], ⟨Stp.refl _ _, kp_nil⟩, fun L x h => ⟨hz.held h.1, h.2⟩, ?_⟩
        have hz := Stp.refl I_2y w_2x
        refine ⟨?_, trivial⟩
        refine ev_storeA hp (i := 0) (off := 0) (vs := [(.bool x_17.Neg), v_1b]) rfl rfl rfl rfl T24 rfl (Nat.le_of_ble_eq_true rfl) (ones_cons rfl (ones_cons r_1c.one ones_nil)) ?_
        intro w_31 hp hs
        replace hz := hz.trans hs
        replace a_d := a_d.step hs
        replace r_5 := r_5.step hs
        replace r_t := r_t.step hs
        replace r_30 := r_30.step hs
        replace r_1c := r_1c.step hs
        refine ⟨SK (Stp I_2y w_31 I_2y) [] [], ⟨Stp.refl _ _, kp_nil⟩, fun L x h => ⟨hz.held h.1, h.2⟩, ?_⟩
        have hz := Stp.refl I_2y w_31
        refine ⟨?_, trivial⟩
        refine ev_storeA hp (i := 1) (off := 0) (vs := [(.bool x_2v.Neg), v_2z]) rfl rfl rfl rfl T24 rfl (Nat.le_of_ble_eq_true rfl) (ones_cons rfl (ones_cons r_30.one ones_nil)) ?_
        intro w_32 hp hs
        replace hz := hz.trans hs
        replace a_d := a_d.step hs
        replace r_5 := r_5.step hs
        replace r_t := r_t.step hs
        replace r_1c := r_1c.step hs
        replace r_30 := r_30.step hs
        refine ⟨SK (Stp I_2y w_32 I_2y) [] [], ⟨Stp.refl _ _, kp_nil⟩, fun L x h => ⟨hz.held h.1, h.2⟩, ?_⟩
        have hz := Stp.refl I_2y w_32
        obtain rfl := Option.some.inj q_16
        have hp := hp.perm [3, 2, 0, 1] (by decide)
        exact ⟨(x_17.Neg, x_17.Mag, x_2v.Neg, x_2v.Mag, g_2t, v_1b, g_2h, v_2z, I_2y), (.c rfl (.c rfl (.c rfl (.c rfl (.c rfl (.c rfl .n)))))), rfl, hp, r_5, a_d, r_t, r_1c, r_30⟩
      refine ⟨?_, ?_⟩
      ·
        refine ev_alloc hp rfl T24 ?_
        intro g_33 w_34 hp hs
        replace hz := hz.trans hs
        replace a_d := a_d.step hs
        replace r_5 := r_5.step hs
        replace r_t := r_t.step hs
        replace r_13 := r_13.step hs
        replace r_14 := r_14.step hs
        refine ⟨SK (Stp I_10 w_34 I_10) [] [], ⟨Stp.refl _ _, kp_nil⟩, fun L x h => ⟨hz.held h.1, h.2⟩, ?_⟩
        have hz := Stp.refl I_10 w_34
        refine ⟨?_, ?_⟩
        ·
          obtain ⟨x_35, q_36, q_16⟩ := bind_some q_16
          refine ev_call rfl rfl C49 (((integer_made_ok n) _ _  (!(x_0.Neg == x_3.Neg)) x_w v_11 r_13 hp.imm _ q_36).mono ?_)
          rintro _ w_37 ⟨I_38, v_39, hv, hq, r_3a⟩
          replace hv := hv.symm
          subst hv
          have hs := hq.st
          have hp := hp.join0 hq
          replace hz := hz.trans hs
          replace a_d := a_d.step hs
          replace r_5 := r_5.step hs
          replace r_t := r_t.step hs
          replace r_14 := r_14.step hs
          refine ⟨SK (Stp I_38 w_37 I_38) [] [], ⟨Stp.refl _ _, kp_nil⟩, fun L x h => ⟨hz.held h.1, h.2⟩, ?_⟩
          have hz := Stp.refl I_38 w_37
          refine ⟨?_, ?_⟩
          ·
            obtain ⟨x_3b, q_3c, q_16⟩ := bind_some q_16
            refine ev_call rfl rfl C49 (((integer_made_ok n) _ _  x_0.Neg x_x v_12 r_14 hp.imm _ q_3c).mono ?_)
            rintro _ w_3d ⟨I_3e, v_3f, hv, hq, r_3g⟩
            replace hv := hv.symm
            subst hv
            have hs := hq.st
            have hp := hp.join0 hq
            replace hz := hz.trans hs
            replace a_d := a_d.step hs
            replace r_5 := r_5.step hs
            replace r_t := r_t.step hs
            replace r_3a := r_3a.step hs
            refine ⟨SK (Stp I_3e w_3d I_3e) [] [], ⟨Stp.refl _ _, kp_nil⟩, fun L x h => ⟨hz.held h.1, h.2⟩, ?_⟩
            have hz := Stp.refl I_3e w_3d
            refine ⟨?_, trivial⟩
            refine ev_alloc hp rfl T24 ?_
            intro g_3h w_3i hp hs
            replace hz := hz.trans hs
            replace a_d := a_d.step hs
            replace r_5 := r_5.step hs
            replace r_t := r_t.step hs
            replace r_3a := r_3a.step hs
            replace r_3g := r_3g.step hs
            refine ⟨SK (Stp I_3e w_3i I_3e) [] [], ⟨Stp.refl _ _, kp_nil⟩, fun L x h => ⟨hz.held h.1, h.2⟩, ?_⟩
            have hz := Stp.refl I_3e w_3i
            refine ⟨?_, trivial⟩
            refine ev_storeA hp (i := 1) (off := 0) (vs := [(.bool x_35.Neg), v_39]) rfl rfl rfl rfl T24 rfl (Nat.le_of_ble_eq_true rfl) (ones_cons rfl (ones_cons r_3a.one ones_nil)) ?_
            intro w_3j hp hs
            replace hz := hz.trans hs
            replace a_d := a_d.step hs
            replace r_5 := r_5.step hs
            replace r_t := r_t.step hs
            replace r_3g := r_3g.step hs
            replace r_3a := r_3a.step hs
            refine ⟨SK (Stp I_3e w_3j I_3e) [] [], ⟨Stp.refl _ _, kp_nil⟩, fun L x h => ⟨hz.held h.1, h.2⟩, ?_⟩
            have hz := Stp.refl I_3e w_3j
            refine ⟨?_, trivial⟩
            refine ev_storeA hp (i := 0) (off := 0) (vs := [(.bool x_3b.Neg), v_3f]) rfl rfl rfl rfl T24 rfl (Nat.le_of_ble_eq_true rfl) (ones_cons rfl (ones_cons r_3g.one ones_nil)) ?_
            intro w_3k hp hs
            replace hz := hz.trans hs
            replace a_d := a_d.step hs
            replace r_5 := r_5.step hs
            replace r_t := r_t.step hs
            replace r_3g := r_3g.step hs
            replace r_3a := r_3a.step hs
            refine ⟨SK (Stp I_3e w_3k I_3e) [] [], ⟨Stp.refl _ _, kp_nil⟩, fun L x h => ⟨hz.held h.1, h.2⟩, ?_⟩
            have hz := Stp.refl I_3e w_3k
            obtain rfl := Option.some.inj q_16
            have hp := hp.perm [3, 2, 1, 0] (by decide)
            exact ⟨(x_35.Neg, x_35.Mag, x_3b.Neg, x_3b.Mag, g_33, v_39, g_3h, v_3f, I_3e), (.c rfl (.c rfl (.c rfl (.c rfl (.c rfl (.c rfl .n)))))), rfl, hp, r_5, a_d, r_t, r_3a, r_3g⟩
          refine ⟨?_, trivial⟩
          refine ev_alloc hp rfl T24 ?_
          intro g_3l w_3m hp hs
          replace hz := hz.trans hs
          replace a_d := a_d.step hs
          replace r_5 := r_5.step hs
          replace r_t := r_t.step hs
          replace r_14 := r_14.step hs
          replace r_3a := r_3a.step hs
          refine ⟨SK (Stp I_38 w_3m I_38) [] [], ⟨Stp.refl _ _, kp_nil⟩, fun L x h => ⟨hz.held h.1, h.2⟩, ?_⟩
          have hz := Stp.refl I_38 w_3m
          refine ⟨?_, trivial⟩
          obtain ⟨x_3n, q_3o, q_16⟩ := bind_some q_16
          refine ev_call rfl rfl C49 (((integer_made_ok n) _ _  x_0.Neg x_x v_12 r_14 hp.imm _ q_3o).mono ?_)
          rintro _ w_3p ⟨I_3q, v_3r, hv, hq, r_3s⟩
          replace hv := hv.symm
          subst hv
          have hs := hq.st
          have hp := hp.join0 hq
          replace hz := hz.trans hs
          replace a_d := a_d.step hs
          replace r_5 := r_5.step hs
          replace r_t := r_t.step hs
          replace r_3a := r_3a.step hs
          refine ⟨SK (Stp I_3q w_3p I_3q) [] [], ⟨Stp.refl _ _, kp_nil⟩, fun L x h => ⟨hz.held h.1, h.2⟩, ?_⟩
          have hz := Stp.refl I_3q w_3p
          refine ⟨?_, trivial⟩
          refine ev_storeA hp (i := 1) (off := 0) (vs := [(.bool x_35.Neg), v_39]) rfl rfl rfl rfl T24 rfl (Nat.le_of_ble_eq_true rfl) (ones_cons rfl (ones_cons r_3a.one ones_nil)) ?_
          intro w_3t hp hs
          replace hz := hz.trans hs
          replace a_d := a_d.step hs
          replace r_5 := r_5.step hs
          replace r_t := r_t.step hs
          replace r_3s := r_3s.step hs
          replace r_3a := r_3a.step hs
          refine ⟨SK (Stp I_3q w_3t I_3q) [] [], ⟨Stp.refl _ _, kp_nil⟩, fun L x h => ⟨hz.held h.1, h.2⟩, ?_⟩
          have hz := Stp.refl I_3q w_3t
          refine ⟨?_, trivial⟩
          refine ev_storeA hp (i := 0) (off := 0) (vs := [(.bool x_3n.Neg), v_3r]) rfl rfl rfl rfl T24 rfl (Nat.le_of_ble_eq_true rfl) (ones_cons rfl (ones_cons r_3s.one ones_nil)) ?_
          intro w_3u hp hs
          replace hz := hz.trans hs
          replace a_d := a_d.step hs
          replace r_5 := r_5.step hs
          replace r_t := r_t.step hs
          replace r_3s := r_3s.step hs
          replace r_3a := r_3a.step hs
          refine ⟨SK (Stp I_3q w_3u I_3q) [] [], ⟨Stp.refl _ _, kp_nil⟩, fun L x h => ⟨hz.held h.1, h.2⟩, ?_⟩
          have hz := Stp.refl I_3q w_3u
          obtain rfl := Option.some.inj q_16
          have hp := hp.perm [3, 2, 1, 0] (by decide)
          exact ⟨(x_35.Neg, x_35.Mag, x_3n.Neg, x_3n.Mag, g_33, v_39, g_3l, v_3r, I_3q), (.c rfl (.c rfl (.c rfl (.c rfl (.c rfl (.c rfl .n)))))), rfl, hp, r_5, a_d, r_t, r_3a, r_3s⟩
        refine ⟨?_, trivial⟩
        refine ev_alloc hp rfl T24 ?_
        intro g_3v w_3w hp hs
        replace hz := hz.trans hs
        replace a_d := a_d.step hs
        replace r_5 := r_5.step hs
        replace r_t := r_t.step hs
        replace r_13 := r_13.step hs
        replace r_14 := r_14.step hs
        refine ⟨SK (Stp I_10 w_3w I_10) [] [], ⟨Stp.refl _ _, kp_nil⟩, fun L x h => ⟨hz.held h.1, h.2⟩, ?_⟩
        have hz := Stp.refl I_10 w_3w
        refine ⟨?_, trivial⟩
        obtain ⟨x_3x, q_3y, q_16⟩ := bind_some q_16
        refine ev_call rfl rfl C49 (((integer_made_ok n) _ _  (!(x_0.Neg == x_3.Neg)) x_w v_11 r_13 hp.imm _ q_3y).mono ?_)
        rintro _ w_3z ⟨I_40, v_41, hv, hq, r_42⟩
        replace hv := hv.symm
        subst hv
        have hs := hq.st
        have hp := hp.join0 hq
        replace hz := hz.trans hs
        replace a_d := a_d.step hs
        replace r_5 := r_5.step hs
        replace r_t := r_t.step hs
        replace r_14 := r_14.step hs
        refine ⟨SK (Stp I_40 w_3z I_40) [] [], ⟨Stp.refl _ _, kp_nil⟩, fun L x h => ⟨hz.held h.1, h.2⟩, ?_⟩
        have hz := Stp.refl I_40 w_3z
        refine ⟨?_, trivial⟩
        obtain ⟨x_43, q_44, q_16⟩ := bind_some q_16
        refine ev_call rfl rfl C49 (((integer_made_ok n) _ _  x_0.Neg x_x v_12 r_14 hp.imm _ q_44).mono ?_)
        rintro _ w_45 ⟨I_46, v_47, hv, hq, r_48⟩
        replace hv := hv.symm
        subst hv
        have hs := hq.st
        have hp := hp.join0 hq
        replace hz := hz.trans hs
        replace a_d := a_d.step hs
        replace r_5 := r_5.step hs
        replace r_t := r_t.step hs
        replace r_42 := r_42.step hs
        refine ⟨SK (Stp I_46 w_45 I_46) [] [], ⟨Stp.refl _ _, kp_nil⟩, fun L x h => ⟨hz.held h.1, h.2⟩, ?_⟩
        have hz := Stp.refl I_46 w_45
        refine ⟨?_, trivial⟩
        refine ev_storeA hp (i := 1) (off := 0) (vs := [(.bool x_3x.Neg), v_41]) rfl rfl rfl rfl T24 rfl (Nat.le_of_ble_eq_true rfl) (ones_cons rfl (ones_cons r_42.one ones_nil)) ?_
        intro w_49 hp hs
        replace hz := hz.trans hs
        replace a_d := a_d.step hs
        replace r_5 := r_5.step hs
        replace r_t := r_t.step hs
        replace r_48 := r_48.step hs
        replace r_42 := r_42.step hs
        refine ⟨SK (Stp I_46 w_49 I_46) [] [], ⟨Stp.refl _ _, kp_nil⟩, fun L x h => ⟨hz.held h.1, h.2⟩, ?_⟩
        have hz := Stp.refl I_46 w_49
        refine ⟨?_, trivial⟩
        refine ev_storeA hp (i := 0) (off := 0) (vs := [(.bool x_43.Neg), v_47]) rfl rfl rfl rfl T24 rfl (Nat.le_of_ble_eq_true rfl) (ones_cons rfl (ones_cons r_48.one ones_nil)) ?_
        intro w_4a hp hs
        replace hz := hz.trans hs
        replace a_d := a_d.step hs
        replace r_5 := r_5.step hs
        replace r_t := r_t.step hs
        replace r_48 := r_48.step hs
        replace r_42 := r_42.step hs
        refine ⟨SK (Stp I_46 w_4a I_46) [] [], ⟨Stp.refl _ _, kp_nil⟩, fun L x h => ⟨hz.held h.1, h.2⟩, ?_⟩
        have hz := Stp.refl I_46 w_4a
        obtain rfl := Option.some.inj q_16
        have hp := hp.perm [3, 2, 1, 0] (by decide)
        exact ⟨(x_3x.Neg, x_3x.Mag, x_43.Neg, x_43.Mag, g_33, v_41, g_3v, v_47, I_46), (.c rfl (.c rfl (.c rfl (.c rfl (.c rfl (.c rfl .n)))))), rfl, hp, r_5, a_d, r_t, r_42, r_48⟩
      refine ⟨?_, trivial⟩
      refine ev_alloc hp rfl T24 ?_
      intro g_4b w_4c hp hs
      replace hz := hz.trans hs
      replace a_d := a_d.step hs
      replace r_5 := r_5.step hs
      replace r_t := r_t.step hs
      replace r_13 := r_13.step hs
      replace r_14 := r_14.step hs
      refine ⟨SK (Stp I_10 w_4c I_10) [] [], ⟨Stp.refl _ _, kp_nil⟩, fun L x h => ⟨hz.held h.1, h.2⟩, ?_⟩
      have hz := Stp.refl I_10 w_4c
      refine ⟨?_, ?_⟩
      ·
        obtain ⟨x_4d, q_4e, q_16⟩ := bind_some q_16
        refine ev_call rfl rfl C49 (((integer_made_ok n) _ _  (!(x_0.Neg == x_3.Neg)) x_w v_11 r_13 hp.imm _ q_4e).mono ?_)
        rintro _ w_4f ⟨I_4g, v_4h, hv, hq, r_4i⟩
        replace hv := hv.symm
        subst hv
        have hs := hq.st
        have hp := hp.join0 hq
        replace hz := hz.trans hs
        replace a_d := a_d.step hs
        replace r_5 := r_5.step hs
        replace r_t := r_t.step hs
        replace r_14 := r_14.step hs
        refine ⟨SK (Stp I_4g w_4f I_4g) [] [], ⟨Stp.refl _ _, kp_nil⟩, fun L x h => ⟨hz.held h.1, h.2⟩, ?_⟩
        have hz := Stp.refl I_4g w_4f
        refine ⟨?_, ?_⟩
        ·
          obtain ⟨x_4j, q_4k, q_16⟩ := bind_some q_16
          refine ev_call rfl rfl C49 (((integer_made_ok n) _ _  x_0.Neg x_x v_12 r_14 hp.imm _ q_4k).mono ?_)
          rintro _ w_4l ⟨I_4m, v_4n, hv, hq, r_4o⟩
          replace hv := hv.symm
          subst hv
          have hs := hq.st
          have hp := hp.join0 hq
          replace hz := hz.trans hs
          replace a_d := a_d.step hs
          replace r_5 := r_5.step hs
          replace r_t := r_t.step hs
          replace r_4i := r_4i.step hs
          refine ⟨SK (Stp I_4m w_4l I_4m) [] [], ⟨Stp.refl _ _, kp_nil⟩, fun L x h => ⟨hz.held h.1, h.2⟩, ?_⟩
          have hz := Stp.refl I_4m w_4l
          refine ⟨?_, trivial⟩
          refine ev_alloc hp rfl T24 ?_
          intro g_4p w_4q hp hs
          replace hz := hz.trans hs
          replace a_d := a_d.step hs
          replace r_5 := r_5.step hs
          replace r_t := r_t.step hs
          replace r_4i := r_4i.step hs
          replace r_4o := r_4o.step hs
          refine ⟨SK (Stp I_4m w_4q I_4m) [] [], ⟨Stp.refl _ _, kp_nil⟩, fun L x h => ⟨hz.held h.1, h.2⟩, ?_⟩
          have hz := Stp.refl I_4m w_4q
          refine ⟨?_, trivial⟩
          refine ev_storeA hp (i := 0) (off := 0) (vs := [(.bool x_4d.Neg), v_4h]) rfl rfl rfl rfl T24 rfl (Nat.le_of_ble_eq_true rfl) (ones_cons rfl (ones_cons r_4i.one ones_nil)) ?_
          intro w_4r hp hs
          replace hz := hz.trans hs
          replace a_d := a_d.step hs
          replace r_5 := r_5.step hs
          replace r_t := r_t.step hs
          replace r_4o := r_4o.step hs
          replace r_4i := r_4i.step hs
          refine ⟨SK (Stp I_4m w_4r I_4m) [] [], ⟨Stp.refl _ _, kp_nil⟩, fun L x h => ⟨hz.held h.1, h.2⟩, ?_⟩
          have hz := Stp.refl I_4m w_4r
          refine ⟨?_, trivial⟩
          refine ev_storeA hp (i := 1) (off := 0) (vs := [(.bool x_4j.Neg), v_4n]) rfl rfl rfl rfl T24 rfl (Nat.le_of_ble_eq_true rfl) (ones_cons rfl (ones_cons r_4o.one ones_nil)) ?_
          intro w_4s hp hs
          replace hz := hz.trans hs
          replace a_d := a_d.step hs
          replace r_5 := r_5.step hs
          replace r_t := r_t.step hs
          replace r_4i := r_4i.step hs
          replace r_4o := r_4o.step hs
          refine ⟨SK (Stp I_4m w_4s I_4m) [] [], ⟨Stp.refl _ _, kp_nil⟩, fun L x h => ⟨hz.held h.1, h.2⟩, ?_⟩
          have hz := Stp.refl I_4m w_4s
          obtain rfl := Option.some.inj q_16
          have hp := hp.perm [3, 2, 0, 1] (by decide)
          exact ⟨(x_4d.Neg, x_4d.Mag, x_4j.Neg, x_4j.Mag, g_4p, v_4h, g_4b, v_4n, I_4m), (.c rfl (.c rfl (.c rfl (.c rfl (.c rfl (.c rfl .n)))))), rfl, hp, r_5, a_d, r_t, r_4i, r_4o⟩
        refine ⟨?_, trivial⟩
        refine ev_alloc hp rfl T24 ?_
        intro g_4t w_4u hp hs
        replace hz := hz.trans hs
        replace a_d := a_d.step hs
        replace r_5 := r_5.step hs
        replace r_t := r_t.step hs
        replace r_14 := r_14.step hs
        replace r_4i := r_4i.step hs
        refine ⟨SK (Stp I_4g w_4u I_4g) [] [], ⟨Stp.refl _ _, kp_nil⟩, fun L x h => ⟨hz.held h.1, h.2⟩, ?_⟩
        have hz := Stp.refl I_4g w_4u
        refine ⟨?_, trivial⟩
        obtain ⟨x_4v, q_4w, q_16⟩ := bind_some q_16
        refine ev_call rfl rfl C49 (((integer_made_ok n) _ _  x_0.Neg x_x v_12 r_14 hp.imm _ q_4w).mono ?_)
        rintro _ w_4x ⟨I_4y, v_4z, hv, hq, r_50⟩
        replace hv := hv.symm
        subst hv
        have hs := hq.st
        have hp := hp.join0 hq
        replace hz := hz.trans hs
        replace a_d := a_d.step hs
        replace r_5 := r_5.step hs
        replace r_t := r_t.step hs
        replace r_4i := r_4i.step hs
        refine ⟨SK (Stp I_4y w_4x I_4y) [] [], ⟨Stp.refl _ _, kp_nil⟩, fun L x h => ⟨hz.held h.1, h.2⟩, ?_⟩
        have hz := Stp.refl I_4y w_4x
        refine ⟨?_, trivial⟩
        refine ev_storeA hp (i := 0) (off := 0) (vs := [(.bool x_4d.Neg), v_4h]) rfl rfl rfl rfl T24 rfl (Nat.le_of_ble_eq_true rfl) (ones_cons rfl (ones_cons r_4i.one ones_nil)) ?_
        intro w_51 hp hs
        replace hz := hz.trans hs
        replace a_d := a_d.step hs
        replace r_5 := r_5.step hs
        replace r_t := r_t.step hs
        replace r_50 := r_50.step hs
        replace r_4i := r_4i.step hs
        refine ⟨SK (Stp I_4y w_51 I_4y) [] [], ⟨Stp.refl _ _, kp_nil⟩, fun L x h => ⟨hz.held h.1, h.2⟩, ?_⟩
        have hz := Stp.refl I_4y w_51
        refine ⟨?_, trivial⟩
        refine ev_storeA hp (i := 1) (off := 0) (vs := [(.bool x_4v.Neg), v_4z]) rfl rfl rfl rfl T24 rfl (Nat.le_of_ble_eq_true rfl) (ones_cons rfl (ones_cons r_50.one ones_nil)) ?_
        intro w_52 hp hs
        replace hz := hz.trans hs
        replace a_d := a_d.step hs
        replace r_5 := r_5.step hs
        replace r_t := r_t.step hs
        replace r_4i := r_4i.step hs
        replace r_50 := r_50.step hs
        refine ⟨SK (Stp I_4y w_52 I_4y) [] [], ⟨Stp.refl _ _, kp_nil⟩, fun L x h => ⟨hz.held h.1, h.2⟩, ?_⟩
        have hz := Stp.refl I_4y w_52
        obtain rfl := Option.some.inj q_16
        have hp := hp.perm [3, 2, 0, 1] (by decide)
        exact ⟨(x_4d.Neg, x_4d.Mag, x_4v.Neg, x_4v.Mag, g_4t, v_4h, g_4b, v_4z, I_4y), (.c rfl (.c rfl (.c rfl (.c rfl (.c rfl (.c rfl .n)))))), rfl, hp, r_5, a_d, r_t, r_4i, r_50⟩
      refine ⟨?_, trivial⟩
      refine ev_alloc hp rfl T24 ?_
      intro g_53 w_54 hp hs
      replace hz := hz.trans hs
      replace a_d := a_d.step hs
      replace r_5 := r_5.step hs
      replace r_t := r_t.step hs
      replace r_13 := r_13.step hs
      replace r_14 := r_14.step hs
      refine ⟨SK (Stp I_10 w_54 I_10) [] [], ⟨Stp.refl _ _, kp_nil⟩, fun L x h => ⟨hz.held h.1, h.2⟩, ?_⟩
      have hz := Stp.refl I_10 w_54
      refine ⟨?_, trivial⟩
      obtain ⟨x_55, q_56, q_16⟩ := bind_some q_16
      refine ev_call rfl rfl C49 (((integer_made_ok n) _ _  (!(x_0.Neg == x_3.Neg)) x_w v_11 r_13 hp.imm _ q_56).mono ?_)
      rintro _ w_57 ⟨I_58, v_59, hv, hq, r_5a⟩
      replace hv := hv.symm
      subst hv
      have hs := hq.st
      have hp := hp.join0 hq
      replace hz := hz.trans hs
      replace a_d := a_d.step hs
      replace r_5 := r_5.step hs
      replace r_t := r_t.step hs
      replace r_14 := r_14.step hs
      refine ⟨SK (Stp I_58 w_57 I_58) [] [], ⟨Stp.refl _ _, kp_nil⟩, fun L x h => ⟨hz.held h.1, h.2⟩, ?_⟩
      have hz := Stp.refl I_58 w_57
      refine ⟨?_, trivial⟩
      obtain ⟨x_5b, q_5c, q_16⟩ := bind_some q_16
      refine ev_call rfl rfl C49 (((integer_made_ok n) _ _  x_0.Neg x_x v_12 r_14 hp.imm _ q_5c).mono ?_)
      rintro _ w_5d ⟨I_5e, v_5f, hv, hq, r_5g⟩
      replace hv := hv.symm
      subst hv
      have hs := hq.st
      have hp := hp.join0 hq
      replace hz := hz.trans hs
      replace a_d := a_d.step hs
      replace r_5 := r_5.step hs
      replace r_t := r_t.step hs
      replace r_5a := r_5a.step hs
      refine ⟨SK (Stp I_5e w_5d I_5e) [] [], ⟨Stp.refl _ _, kp_nil⟩, fun L x h => ⟨hz.held h.1, h.2⟩, ?_⟩
      have hz := Stp.refl I_5e w_5d
      refine ⟨?_, trivial⟩
      refine ev_storeA hp (i := 0) (off := 0) (vs := [(.bool x_55.Neg), v_59]) rfl rfl rfl rfl T24 rfl (Nat.le_of_ble_eq_true rfl) (ones_cons rfl (ones_cons r_5a.one ones_nil)) ?_
      intro w_5h hp hs
      replace hz := hz.trans hs
      replace a_d := a_d.step hs
      replace r_5 := r_5.step hs
      replace r_t := r_t.step hs
      replace r_5g := r_5g.step hs
      replace r_5a := r_5a.step hs
      refine ⟨SK (Stp I_5e w_5h I_5e) [] [], ⟨Stp.refl _ _, kp_nil⟩, fun L x h => ⟨hz.held h.1, h.2⟩, ?_⟩
      have hz := Stp.refl I_5e w_5h
      refine ⟨?_, trivial⟩
      refine ev_storeA hp (i := 1) (off := 0) (vs := [(.bool x_5b.Neg), v_5f]) rfl rfl rfl rfl T24 rfl (Nat.le_of_ble_eq_true rfl) (ones_cons rfl (ones_cons r_5g.one ones_nil)) ?_
      intro w_5i hp hs
      replace hz := hz.trans hs
      replace a_d := a_d.step hs
      replace r_5 := r_5.step hs
      replace r_t := r_t.step hs
      replace r_5a := r_5a.step hs
      replace r_5g := r_5g.step hs
      refine ⟨SK (Stp I_5e w_5i I_5e) [] [], ⟨Stp.refl _ _, kp_nil⟩, fun L x h => ⟨hz.held h.1, h.2⟩, ?_⟩
      have hz := Stp.refl I_5e w_5i
      obtain rfl := Option.some.inj q_16
      have hp := hp.perm [3, 2, 0, 1] (by decide)
      exact ⟨(x_55.Neg, x_55.Mag, x_5b.Neg, x_5b.Mag, g_53, v_59, g_4b, v_5f, I_5e), (.c rfl (.c rfl (.c rfl (.c rfl (.c rfl (.c rfl .n)))))), rfl, hp, r_5, a_d, r_t, r_5a, r_5g⟩
    ·
      rintro ⟨x_5j, x_5k, x_5l, x_5m, g_5n, v_5o, g_5p, v_5q, I_5r⟩ w_5s ⟨hy, hp, r_5, a_d, r_t, r_5t, r_5u⟩
      replace hy := hy.symm
      subst hy
      obtain ⟨y_5v, q_5w, h⟩ := bind_some h
      refine W.cut (γ := (Bool × (List Int) × Bool × (List Int) × Value × Value × (Nat → Prop))) (fun g => [(4, (.pointer (some ⟨g_e, 0, none⟩))), (5, (.pointer (some ⟨g_g, 0, none⟩))), (11, (.pointer (some ⟨g_5n, 0, none⟩))), (12, (.pointer (some ⟨g_5p, 0, none⟩)))]) (fun g w' => y_5v = ((g.1), (g.2.1), (g.2.2.1), (g.2.2.2.1)) ∧ Hp ⟨w0, I0, []⟩ (g.2.2.2.2.2.2) [some (g_e, [(.bool false), (.slice none 0 0)], 24), some (g_g, [(.bool false), (.slice none 0 0)], 24), some (g_5n, [(.bool (g.1)), (g.2.2.2.2.1)], 24), some (g_5p, [(.bool (g.2.2.1)), (g.2.2.2.2.2.1)], 24)] w' ∧ RepS (dI .u32) w' (g.2.2.2.2.2.2) (g.2.2.2.2.1) (g.2.1) ∧ RepS (dI .u32) w' (g.2.2.2.2.2.2) (g.2.2.2.2.2.1) (g.2.2.2.1)) ?_ ?_
      ·
        apply go
        apply go
        refine ev0 (rn_field rfl rfl FO24_0) ?_
        refine ev (rn_load rfl rfl (run_loadVar1 T4 (hp.cell (i := 3) (off := 0) rfl rfl))) ?_
        apply go
        refine sel_of (fun hc => ?_) (fun hc => ?_)
        ·
          have q_5w := cond_t q_5w hc
          apply go
          apply go
          refine ev (rn_load rfl rfl (run_loadVarA T24 rfl (hp.at_ (i := 3) rfl))) ?_
          obtain ⟨A_5x, m_5y, m_5z, rfl⟩ := r_t.isSl
          refine ev0 (fun w => rn_build (cs := [(.bool false), (.slice A_5x m_5y m_5z)]) rfl rfl T24 PL24 rfl) ?_
          obtain ⟨x_60, q_61, q_5w⟩ := bind_some q_5w
          refine ev_call rfl rfl C30 (((integer_Add_ok n) _ _  (Int_2.mk x_5l x_5m) v_5q r_5u (Int_2.mk false x_o) (.slice A_5x m_5y m_5z) r_t hp.imm _ q_61).mono ?_)
          rintro _ w_62 ⟨I_63, v_64, hv, hq, r_65⟩
          replace hv := hv.symm
          subst hv
          have hs := hq.st
          have hp := hp.join0 hq
          replace a_d := a_d.step hs
          replace r_5 := r_5.step hs
          replace r_5t := r_5t.step hs
          replace r_5u := r_5u.step hs
          refine ev_storeA hp (i := 3) (off := 0) (vs := [(.bool x_60.Neg), v_64]) rfl rfl rfl rfl T24 rfl (Nat.le_of_ble_eq_true rfl) (ones_cons rfl (ones_cons r_65.one ones_nil)) ?_
          intro w_66 hp hs
          replace a_d := a_d.step hs
          replace r_5 := r_5.step hs
          replace r_5t := r_5t.step hs
          replace r_65 := r_65.step hs
          apply go
          refine ev (rn_load rfl rfl (run_loadVarA T24 rfl (hp.at_ (i := 2) rfl))) ?_
          refine ev0 (rn_field rfl rfl FO24_0) ?_
          refine ev (rn_load rfl rfl (run_loadVar1 T4 (a_d.2 0 _ rfl))) ?_
          refine ev_litN (d := (dI .u32)) (xs := [1]) (cs := [(.int .u32 1)]) hp rfl rfl Tryz.underlying22 T45 (by decide) rfl rfl (Elems.cons (d := (dI .u32)) (xs := _) rfl (Elems.nil _ _ _ _)) ?_
          intro v_67 I_68 w_69 hp hs r_6a
          replace r_5t := r_5t.step hs
          replace r_65 := r_65.step hs
          obtain ⟨A_6b, m_6c, m_6d, rfl⟩ := r_6a.isSl
          refine ev0 (fun w => rn_build (cs := [(.bool (!x_3.Neg)), (.slice A_6b m_6c m_6d)]) rfl rfl T24 PL24 rfl) ?_
          obtain ⟨x_6e, q_6f, q_5w⟩ := bind_some q_5w
          refine ev_call rfl rfl C30 (((integer_Add_ok n) _ _  (Int_2.mk x_5j x_5k) v_5o r_5t (Int_2.mk (!x_3.Neg) [1]) (.slice A_6b m_6c m_6d) r_6a hp.imm _ q_6f).mono ?_)
          rintro _ w_6g ⟨I_6h, v_6i, hv, hq, r_6j⟩
          replace hv := hv.symm
          subst hv
          have hs := hq.st
          have hp := hp.join0 hq
          replace r_5t := r_5t.step hs
          replace r_65 := r_65.step hs
          refine ev_storeA hp (i := 2) (off := 0) (vs := [(.bool x_6e.Neg), v_6i]) rfl rfl rfl rfl T24 rfl (Nat.le_of_ble_eq_true rfl) (ones_cons rfl (ones_cons r_6j.one ones_nil)) ?_
          intro w_6k hp hs
          replace r_6j := r_6j.step hs
          replace r_65 := r_65.step hs
          obtain rfl := Option.some.inj q_5w
          exact ⟨(x_6e.Neg, x_6e.Mag, x_60.Neg, x_60.Mag, v_6i, v_64, I_6h), (.c rfl (.c rfl (.c rfl (.c rfl .n)))), rfl, hp, r_6j, r_65⟩
        ·
          have q_5w := cond_f q_5w hc
          apply go
          obtain rfl := Option.some.inj q_5w
          exact ⟨(x_5j, x_5k, x_5l, x_5m, v_5o, v_5q, I_5r), (.c rfl (.c rfl (.c rfl (.c rfl .n)))), rfl, hp, r_5t, r_5u⟩
      ·
        rintro ⟨x_6l, x_6m, x_6n, x_6o, v_6p, v_6q, I_6r⟩ w_6s ⟨hy, hp, r_6t, r_6u⟩
        replace hy := hy.symm
        subst hy
        apply go
        have hs := hp.stp (Ch.drew [] w_6s)
        have hp := hp.drew
        replace r_6t := r_6t.step hs
        replace r_6u := r_6u.step hs
        refine W.held [(0, true), (1, true), (2, false), (3, false), (4, true)] (fun x => Stp I_6r w_6s.drew I_6r x ∧ OwnK [(g_5n, [(.bool x_6l), v_6p], 24), (g_5p, [(.bool x_6n), v_6q], 24)] x) MX (by kernel_rfl) ⟨Stp.refl _ _, (OwnK.cons (hp.own 2 _ _ _ rfl).1 (OwnK.cons (hp.own 3 _ _ _ rfl).1 OwnK.nil))⟩ ?_
        have hz := Stp.refl I_6r w_6s.drew
        refine evh (fun w' hw => rn_load rfl rfl (run_loadVarA T24 rfl (hw.2.at_ (i := 0) rfl))) ?_
        refine evh (fun w' hw => rn_load rfl rfl (run_loadVarA T24 rfl (hw.2.at_ (i := 1) rfl))) ?_
        refine ev_storeA hp (i := 0) (off := 0) (vs := [(.bool x_6l), v_6p]) rfl rfl rfl rfl T24 rfl (Nat.le_of_ble_eq_true rfl) (ones_cons rfl (ones_cons r_6t.one ones_nil)) ?_
        intro w_6v hp hs
        replace hz := hz.trans hs
        replace r_6u := r_6u.step hs
        replace r_6t := r_6t.step hs
        refine ⟨fun x => Stp I_6r w_6v I_6r x ∧ OwnK [(g_5n, [(.bool x_6l), v_6p], 24), (g_5p, [(.bool x_6n), v_6q], 24)] x, ⟨Stp.refl _ _, (OwnK.cons (hp.own 2 _ _ _ rfl).1 (OwnK.cons (hp.own 3 _ _ _ rfl).1 OwnK.nil))⟩, fun x hx => ⟨hz.held hx.1, hx.2⟩, ?_⟩
        have hz := Stp.refl I_6r w_6v
        refine ev_storeA hp (i := 1) (off := 0) (vs := [(.bool x_6n), v_6q]) rfl rfl rfl rfl T24 rfl (Nat.le_of_ble_eq_true rfl) (ones_cons rfl (ones_cons r_6u.one ones_nil)) ?_
        intro w_6w hp hs
        replace hz := hz.trans hs
        replace r_6t := r_6t.step hs
        replace r_6u := r_6u.step hs
        refine ⟨fun x => Stp I_6r w_6w I_6r x ∧ OwnK [(g_5n, [(.bool x_6l), v_6p], 24), (g_5p, [(.bool x_6n), v_6q], 24)] x, ⟨Stp.refl _ _, (OwnK.cons (hp.own 2 _ _ _ rfl).1 (OwnK.cons (hp.own 3 _ _ _ rfl).1 OwnK.nil))⟩, fun x hx => ⟨hz.held hx.1, hx.2⟩, ?_⟩
        have hz := Stp.refl I_6r w_6w
        apply go
        obtain rfl := Option.some.inj h
        refine ⟨_, run_loadVarA T24 rfl (hp.at_ (i := 0) rfl), ?_⟩
        refine ⟨_, run_loadVarA T24 rfl (hp.at_ (i := 1) rfl), ?_⟩
        have hp := hp.sel [] (by decide)
        exact ⟨I_6r, v_6p, v_6q, rfl, hp, r_6t, r_6u⟩

end Go.Proofs.YthhghkcopfnbiaaGreatDoor

namespace Go.Proofs.YthhghkcopfnbiaaGreatDoor
open Go Go.Proofs.YthhghkcopfnbiaaGreatDoor.Gw Go.RowKit
set_option linter.unusedVariables false
attribute [local irreducible] Ev EvQ EvS EvH
def integer_Abs_S (f : Int_2 → Option Int_2) : Prop := ∀ (w0 : World) (I0 : Nat → Prop) (x_0 : Int_2) (v_1 : Value) (r_2 : RepS (dI .u32) w0 I0 v_1 x_0.Mag) (hI : ∀ g, I0 g → g < w0.heap.size) (r : Int_2), f x_0 = some r →
    Ret Tryz.prog 32 #[(.agg #[(.bool x_0.Neg), v_1])] w0 fun v w1 => ∃ (I1 : Nat → Prop) (u_3 : Value), v = (.agg #[(.bool r.Neg), u_3]) ∧ Hp ⟨w0, I0, []⟩ I1 [] w1 ∧ RepS (dI .u32) w1 I1 u_3 r.Mag
theorem integer_Abs_ok (n : Nat) : integer_Abs_S (integer_Abs n) := by
  intro w0 I0 x_0 v_1 r_2 hI r h
  unfold integer_Abs at h
  refine enter Tryz.func32 rfl (Nat.le_of_ble_eq_true rfl) ?_
  have hp : Hp ⟨w0, I0, []⟩ I0 [] w0 := Hp.start hI
  apply go
  apply go
  refine ev_boxI hp rfl rfl ?_
  intro p_3 I_4 w_5 hp hs a_6
  replace r_2 := r_2.step hs
  refine ev_alloc hp rfl T24 ?_
  intro g_7 w_8 hp hs
  replace a_6 := a_6.step hs
  replace r_2 := r_2.step hs
  apply go
  apply go
  refine ev0 (rn_field rfl rfl FO24_1) ?_
  refine ev (rn_load rfl rfl (run_loadVar1 T22 (a_6.2 1 _ rfl))) ?_
  obtain ⟨x_9, q_a, h⟩ := bind_some h
  refine ev_call rfl rfl C46 (((integer_trim_ok n) _ _  x_0.Mag v_1 r_2 hp.imm _ q_a).mono ?_)
  rintro _ w_b ⟨I_c, v_d, hv, hq, r_e⟩
  replace hv := hv.symm
  subst hv
  have hs := hq.st
  have hp := hp.join0 hq
  obtain ⟨x_f, q_g, h⟩ := bind_some h
  refine ev_call rfl rfl C56 (((slices_Cloneuint32_uint32__ok n) _ _  x_9 v_d r_e hp.imm _ q_g).mono ?_)
  rintro _ w_h ⟨I_i, v_j, hv, hq, r_k⟩
  replace hv := hv.symm
  subst hv
  have hs := hq.st
  have hp := hp.join0 hq
  obtain ⟨x_l, q_m, h⟩ := bind_some h
  refine ev_call rfl rfl C49 (((integer_made_ok n) _ _  false x_f v_j r_k hp.imm _ q_m).mono ?_)
  rintro _ w_n ⟨I_o, v_p, hv, hq, r_q⟩
  replace hv := hv.symm
  subst hv
  have hs := hq.st
  have hp := hp.join0 hq
  refine ev_storeA hp (i := 0) (off := 0) (vs := [(.bool x_l.Neg), v_p]) rfl rfl rfl rfl T24 rfl (Nat.le_of_ble_eq_true rfl) (ones_cons rfl (ones_cons r_q.one ones_nil)) ?_
  intro w_r hp hs
  replace r_q := r_q.step hs
  apply go
  obtain rfl := Option.some.inj h
  refine ⟨_, run_loadVarA T24 rfl (hp.at_ (i := 0) rfl), ?_⟩
  have hp := hp.sel [] (by decide)
  exact ⟨I_o, v_p, rfl, hp, r_q⟩

end Go.Proofs.YthhghkcopfnbiaaGreatDoor

namespace Go.Proofs.YthhghkcopfnbiaaGreatDoor
open Go Go.Proofs.YthhghkcopfnbiaaGreatDoor.Gw Go.RowKit
set_option linter.unusedVariables false
attribute [local irreducible] Ev EvQ EvS EvH
def integer_Gcd_S (f : Int_2 → Int_2 → Option Int_2) : Prop := ∀ (w0 : World) (I0 : Nat → Prop) (x_0 : Int_2) (v_1 : Value) (r_2 : RepS (dI .u32) w0 I0 v_1 x_0.Mag) (x_3 : Int_2) (v_4 : Value) (r_5 : RepS (dI .u32) w0 I0 v_4 x_3.Mag) (hI : ∀ g, I0 g → g < w0.heap.size) (r : Int_2), f x_0 x_3 = some r →
    Ret Tryz.prog 20 #[(.agg #[(.bool x_0.Neg), v_1]), (.agg #[(.bool x_3.Neg), v_4])] w0 fun v w1 => ∃ (I1 : Nat → Prop) (u_6 : Value), v = (.agg #[(.bool r.Neg), u_6]) ∧ Hp ⟨w0, I0, []⟩ I1 [] w1 ∧ RepS (dI .u32) w1 I1 u_6 r.Mag
theorem integer_Gcd_ok (n : Nat) : integer_Gcd_S (integer_Gcd n) := by
  intro w0 I0 x_0 v_1 r_2 x_3 v_4 r_5 hI r h
  unfold integer_Gcd at h
  refine enter Tryz.func20 rfl (Nat.le_of_ble_eq_true rfl) ?_
  have hp : Hp ⟨w0, I0, []⟩ I0 [] w0 := Hp.start hI
  apply go
  apply go
  refine ev_boxI hp rfl rfl ?_
  intro p_6 I_7 w_8 hp hs a_9
  replace r_5 := r_5.step hs
  replace r_2 := r_2.step hs
  refine ev_boxI hp rfl rfl ?_
  intro p_a I_b w_c hp hs a_d
  replace a_9 := a_9.step hs
  replace r_2 := r_2.step hs
  replace r_5 := r_5.step hs
  refine ev_alloc hp rfl T24 ?_
  intro g_e w_f hp hs
  replace a_9 := a_9.step hs
  replace r_2 := r_2.step hs
  replace a_d := a_d.step hs
  replace r_5 := r_5.step hs
  obtain ⟨y_g, q_h, h⟩ := bind_some h
  refine W.cut (γ := (Bool × (List Int) × Bool × (List Int) × Nat × Value × Nat × Value × (Nat → Prop))) (fun g => [(4, (.pointer (some ⟨g_e, 0, none⟩))), (5, (.pointer (some ⟨(g.2.2.2.2.1), 0, none⟩))), (6, (.pointer (some ⟨(g.2.2.2.2.2.2.1), 0, none⟩)))]) (fun g w' => y_g = ((g.1), (g.2.1), (g.2.2.1), (g.2.2.2.1)) ∧ Hp ⟨w0, I0, []⟩ (g.2.2.2.2.2.2.2.2) [some (g_e, [(.bool false), (.slice none 0 0)], 24), some ((g.2.2.2.2.1), [(.bool (g.1)), (g.2.2.2.2.2.1)], 24), some ((g.2.2.2.2.2.2.1), [(.bool (g.2.2.1)), (g.2.2.2.2.2.2.2.1)], 24)] w' ∧ RepS (dI .u32) w' (g.2.2.2.2.2.2.2.2) (g.2.2.2.2.2.1) (g.2.1) ∧ RepS (dI .u32) w' (g.2.2.2.2.2.2.2.2) (g.2.2.2.2.2.2.2.1) (g.2.2.2.1)) ?_ ?_
  ·
    have hs := hp.stp (Ch.drew [] w_f)
    have hp := hp.drew
    replace a_9 := a_9.step hs
    replace r_2 := r_2.step hs
    replace a_d := a_d.step hs
    replace r_5 := r_5.step hs
    refine W.heldG (.q 0 (.q 2 (.l 1 (.l 3 (.l 4 (.l 5 (.l 6 (.l 7 .done .no) .no) .no) (.l 5 (.l 4 (.l 6 (.l 7 .done .no) .no) .no) .no)) (.l 4 (.l 3 (.l 5 (.l 6 (.l 7 .done .no) .no) .no) (.l 5 (.l 3 (.l 6 (.l 7 .done .no) .no) .no) .no)) (.l 5 (.l 3 (.l 4 (.l 6 (.l 7 .done .no) .no) .no) (.l 4 (.l 3 (.l 6 (.l 7 .done .no) .no) .no) .no)) .no))) (.l 4 (.l 1 (.l 3 (.l 5 (.l 6 (.l 7 .done .no) .no) .no) (.l 5 (.l 3 (.l 6 (.l 7 .done .no) .no) .no) .no)) (.l 5 (.l 1 (.l 3 (.l 6 (.l 7 .done .no) .no) .no) .no) .no)) (.l 5 (.l 1 (.l 3 (.l 4 (.l 6 (.l 7 .done .no) .no) .no) (.l 4 (.l 3 (.l 6 (.l 7 .done .no) .no) .no) .no)) (.l 4 (.l 1 (.l 3 (.l 6 (.l 7 .done .no) .no) .no) .no) .no)) .no))))) (SK (Stp I_b w_f.drew I_b) [] []) MX (by kernel_rfl) ⟨Stp.refl _ _, kp_nil⟩ ?_
    have hz := Stp.refl I_b w_f.drew
    refine ⟨SK.same (by kernel_rfl), ?_⟩
    refine evh (fun w' hw => rn_load rfl rfl (run_loadVarA T24 rfl (a_9.step (S0.si hw)))) ?_
    refine ⟨SK.same (by kernel_rfl), ?_⟩
    refine evh (fun w' hw => rn_load rfl rfl (run_loadVarA T24 rfl (a_d.step (S0.si hw)))) ?_
    refine ⟨?_, ?_⟩
    ·
      obtain ⟨x_i, q_j, q_h⟩ := bind_some q_h
      refine ev_call rfl rfl C32 (((integer_Abs_ok n) _ _  (Int_2.mk x_0.Neg x_0.Mag) v_1 r_2 hp.imm _ q_j).mono ?_)
      rintro _ w_k ⟨I_l, v_m, hv, hq, r_n⟩
      replace hv := hv.symm
      subst hv
      have hs := hq.st
      have hp := hp.join0 hq
      replace hz := hz.trans hs
      replace r_5 := r_5.step hs
      refine ⟨SK (Stp I_l w_k I_l) [] [], ⟨Stp.refl _ _, kp_nil⟩, fun L x h => ⟨hz.held h.1, h.2⟩, ?_⟩
      have hz := Stp.refl I_l w_k
      refine ⟨?_, ?_⟩
      ·
        obtain ⟨x_o, q_p, q_h⟩ := bind_some q_h
        refine ev_call rfl rfl C32 (((integer_Abs_ok n) _ _  (Int_2.mk x_3.Neg x_3.Mag) v_4 r_5 hp.imm _ q_p).mono ?_)
        rintro _ w_q ⟨I_r, v_s, hv, hq, r_t⟩
        replace hv := hv.symm
        subst hv
        have hs := hq.st
        have hp := hp.join0 hq
        replace hz := hz.trans hs
        replace r_n := r_n.step hs
        refine ⟨SK (Stp I_r w_q I_r) [] [], ⟨Stp.refl _ _, kp_nil⟩, fun L x h => ⟨hz.held h.1, h.2⟩, ?_⟩
        have hz := Stp.refl I_r w_q
        refine ⟨?_, ?_⟩
        ·
          refine ev_alloc hp rfl T24 ?_
          intro g_u w_v hp hs
          replace hz := hz.trans hs
          replace r_n := r_n.step hs
          replace r_t := r_t.step hs
          refine ⟨SK (Stp I_r w_v I_r) [] [], ⟨Stp.refl _ _, kp_nil⟩, fun L x h => ⟨hz.held h.1, h.2⟩, ?_⟩
          have hz := Stp.refl I_r w_v
          refine ⟨?_, trivial⟩
          refine ev_alloc hp rfl T24 ?_
          intro g_w w_x hp hs
          replace hz := hz.trans hs
          replace r_n := r_n.step hs
          replace r_t := r_t.step hs
          refine ⟨SK (Stp I_r w_x I_r) [] [], ⟨Stp.refl _ _, kp_nil⟩, fun L x h => ⟨hz.held h.1, h.2⟩, ?_⟩
          have hz := Stp.refl I_r w_x
          refine ⟨?_, trivial⟩
          refine ev_storeA hp (i := 1) (off := 0) (vs := [(.bool x_i.Neg), v_m]) rfl rfl rfl rfl T24 rfl (Nat.le_of_ble_eq_true rfl) (ones_cons rfl (ones_cons r_n.one ones_nil)) ?_
          intro w_y hp hs
          replace hz := hz.trans hs
          replace r_t := r_t.step hs
          replace r_n := r_n.step hs
          refine ⟨SK (Stp I_r w_y I_r) [] [], ⟨Stp.refl _ _, kp_nil⟩, fun L x h => ⟨hz.held h.1, h.2⟩, ?_⟩
          have hz := Stp.refl I_r w_y
          refine ⟨?_, trivial⟩
          refine ev_storeA hp (i := 0) (off := 0) (vs := [(.bool x_o.Neg), v_s]) rfl rfl rfl rfl T24 rfl (Nat.le_of_ble_eq_true rfl) (ones_cons rfl (ones_cons r_t.one ones_nil)) ?_
          intro w_z hp hs
          replace hz := hz.trans hs
          replace r_t := r_t.step hs
          replace r_n := r_n.step hs
          refine ⟨SK (Stp I_r w_z I_r) [] [], ⟨Stp.refl _ _, kp_nil⟩, fun L x h => ⟨hz.held h.1, h.2⟩, ?_⟩
          have hz := Stp.refl I_r w_z
          obtain rfl := Option.some.inj q_h
          have hp := hp.perm [2, 1, 0] (by decide)
          exact ⟨(x_i.Neg, x_i.Mag, x_o.Neg, x_o.Mag, g_u, v_m, g_w, v_s, I_r), (.c rfl (.c rfl (.c rfl .n))), rfl, hp, r_n, r_t⟩
        refine ⟨?_, trivial⟩
        refine ev_alloc hp rfl T24 ?_
        intro g_10 w_11 hp hs
        replace hz := hz.trans hs
        replace r_n := r_n.step hs
        replace r_t := r_t.step hs
        refine ⟨SK (Stp I_r w_11 I_r) [] [], ⟨Stp.refl _ _, kp_nil⟩, fun L x h => ⟨hz.held h.1, h.2⟩, ?_⟩
        have hz := Stp.refl I_r w_11
        refine ⟨?_, trivial⟩
        refine ev_alloc hp rfl T24 ?_
        intro g_12 w_13 hp hs
        replace hz := hz.trans hs
        replace r_n := r_n.step hs
        replace r_t := r_t.step hs
        refine ⟨SK (Stp I_r w_13 I_r) [] [], ⟨Stp.refl _ _, kp_nil⟩, fun L x h => ⟨hz.held h.1, h.2⟩, ?_⟩
        have hz := Stp.refl I_r w_13
        refine ⟨?_, trivial⟩
        refine ev_storeA hp (i := 0) (off := 0) (vs := [(.bool x_i.Neg), v_m]) rfl rfl rfl rfl T24 rfl (Nat.le_of_ble_eq_true rfl) (ones_cons rfl (ones_cons r_n.one ones_nil)) ?_
        intro w_14 hp hs
        replace hz := hz.trans hs
        replace r_t := r_t.step hs
        replace r_n := r_n.step hs
        refine ⟨SK (Stp I_r w_14 I_r) [] [], ⟨Stp.refl _ _, kp_nil⟩, fun L x h => ⟨hz.held h.1, h.2⟩, ?_⟩
        have hz := Stp.refl I_r w_14
        refine ⟨?_, trivial⟩
        refine ev_storeA hp (i := 1) (off := 0) (vs := [(.bool x_o.Neg), v_s]) rfl rfl rfl rfl T24 rfl (Nat.le_of_ble_eq_true rfl) (ones_cons rfl (ones_cons r_t.one ones_nil)) ?_
        intro w_15 hp hs
        replace hz := hz.trans hs
        replace r_n := r_n.step hs
        replace r_t := r_t.step hs
        refine ⟨SK (Stp I_r w_15 I_r) [] [], ⟨Stp.refl _ _, kp_nil⟩, fun L x h => ⟨hz.held h.1, h.2⟩, ?_⟩
        have hz := Stp.refl I_r w_15
        obtain rfl := Option.some.inj q_h
        have hp := hp.perm [2, 0, 1] (by decide)
        exact ⟨(x_i.Neg, x_i.Mag, x_o.Neg, x_o.Mag, g_12, v_m, g_10, v_s, I_r), (.c rfl (.c rfl (.c rfl .n))), rfl, hp, r_n, r_t⟩
      refine ⟨?_, ?_⟩
      ·
        refine ev_alloc hp rfl T24 ?_
        intro g_16 w_17 hp hs
        replace hz := hz.trans hs
        replace r_5 := r_5.step hs
        replace r_n := r_n.step hs
        refine ⟨SK (Stp I_l w_17 I_l) [] [], ⟨Stp.refl _ _, kp_nil⟩, fun L x h => ⟨hz.held h.1, h.2⟩, ?_⟩
        have hz := Stp.refl I_l w_17
        refine ⟨?_, ?_⟩
        ·
          obtain ⟨x_18, q_19, q_h⟩ := bind_some q_h
          refine ev_call rfl rfl C32 (((integer_Abs_ok n) _ _  (Int_2.mk x_3.Neg x_3.Mag) v_4 r_5 hp.imm _ q_19).mono ?_)
          rintro _ w_1a ⟨I_1b, v_1c, hv, hq, r_1d⟩
          replace hv := hv.symm
          subst hv
          have hs := hq.st
          have hp := hp.join0 hq
          replace hz := hz.trans hs
          replace r_n := r_n.step hs
          refine ⟨SK (Stp I_1b w_1a I_1b) [] [], ⟨Stp.refl _ _, kp_nil⟩, fun L x h => ⟨hz.held h.1, h.2⟩, ?_⟩
          have hz := Stp.refl I_1b w_1a
          refine ⟨?_, trivial⟩
          refine ev_alloc hp rfl T24 ?_
          intro g_1e w_1f hp hs
          replace hz := hz.trans hs
          replace r_n := r_n.step hs
          replace r_1d := r_1d.step hs
          refine ⟨SK (Stp I_1b w_1f I_1b) [] [], ⟨Stp.refl _ _, kp_nil⟩, fun L x h => ⟨hz.held h.1, h.2⟩, ?_⟩
          have hz := Stp.refl I_1b w_1f
          refine ⟨?_, trivial⟩
          refine ev_storeA hp (i := 1) (off := 0) (vs := [(.bool x_i.Neg), v_m]) rfl rfl rfl rfl T24 rfl (Nat.le_of_ble_eq_true rfl) (ones_cons rfl (ones_cons r_n.one ones_nil)) ?_
          intro w_1g hp hs
          replace hz := hz.trans hs
          replace r_1d := r_1d.step hs
          replace r_n := r_n.step hs
          refine ⟨SK (Stp I_1b w_1g I_1b) [] [], ⟨Stp.refl _ _, kp_nil⟩, fun L x h => ⟨hz.held h.1, h.2⟩, ?_⟩
          have hz := Stp.refl I_1b w_1g
          refine ⟨?_, trivial⟩
          refine ev_storeA hp (i := 0) (off := 0) (vs := [(.bool x_18.Neg), v_1c]) rfl rfl rfl rfl T24 rfl (Nat.le_of_ble_eq_true rfl) (ones_cons rfl (ones_cons r_1d.one ones_nil)) ?_
          intro w_1h hp hs
          replace hz := hz.trans hs
          replace r_1d := r_1d.step hs
          replace r_n := r_n.step hs
          refine ⟨SK (Stp I_1b w_1h I_1b) [] [], ⟨Stp.refl _ _, kp_nil⟩, fun L x h => ⟨hz.held h.1, h.2⟩, ?_⟩
          have hz := Stp.refl I_1b w_1h
          obtain rfl := Option.some.inj q_h
          have hp := hp.perm [2, 1, 0] (by decide)
          exact ⟨(x_i.Neg, x_i.Mag, x_18.Neg, x_18.Mag, g_16, v_m, g_1e, v_1c, I_1b), (.c rfl (.c rfl (.c rfl .n))), rfl, hp, r_n, r_1d⟩
        refine ⟨?_, trivial⟩
        refine ev_alloc hp rfl T24 ?_
        intro g_1i w_1j hp hs
        replace hz := hz.trans hs
        replace r_5 := r_5.step hs
        replace r_n := r_n.step hs
        refine ⟨SK (Stp I_l w_1j I_l) [] [], ⟨Stp.refl _ _, kp_nil⟩, fun L x h => ⟨hz.held h.1, h.2⟩, ?_⟩
        have hz := Stp.refl I_l w_1j
        refine ⟨?_, trivial⟩
        obtain ⟨x_1k, q_1l, q_h⟩ := bind_some q_h
        refine ev_call rfl rfl C32 (((integer_Abs_ok n) _ _  (Int_2.mk x_3.Neg x_3.Mag) v_4 r_5 hp.imm _ q_1l).mono ?_)
        rintro _ w_1m ⟨I_1n, v_1o, hv, hq, r_1p⟩
        replace hv := hv.symm
        subst hv
        have hs := hq.st
        have hp := hp.join0 hq
        replace hz := hz.trans hs
        replace r_n := r_n.step hs
        refine ⟨SK (Stp I_1n w_1m I_1n) [] [], ⟨Stp.refl _ _, kp_nil⟩, fun L x h => ⟨hz.held h.1, h.2⟩, ?_⟩
        have hz := Stp.refl I_1n w_1m
        refine ⟨?_, trivial⟩
        refine ev_storeA hp (i := 1) (off := 0) (vs := [(.bool x_i.Neg), v_m]) rfl rfl rfl rfl T24 rfl (Nat.le_of_ble_eq_true rfl) (ones_cons rfl (ones_cons r_n.one ones_nil)) ?_
        intro w_1q hp hs
        replace hz := hz.trans hs
        replace r_1p := r_1p.step hs
        replace r_n := r_n.step hs
        refine ⟨SK (Stp I_1n w_1q I_1n) [] [], ⟨Stp.refl _ _, kp_nil⟩, fun L x h => ⟨hz.held h.1, h.2⟩, ?_⟩
        have hz := Stp.refl I_1n w_1q
        refine ⟨?_, trivial⟩
        refine ev_storeA hp (i := 0) (off := 0) (vs := [(.bool x_1k.Neg), v_1o]) rfl rfl rfl rfl T24 rfl (Nat.le_of_ble_eq_true rfl) (ones_cons rfl (ones_cons r_1p.one ones_nil)) ?_
        intro w_1r hp hs
        replace hz := hz.trans hs
        replace r_1p := r_1p.step hs
        replace r_n := r_n.step hs
        refine ⟨SK (Stp I_1n w_1r I_1n) [] [], ⟨Stp.refl _ _, kp_nil⟩, fun L x h => ⟨hz.held h.1, h.2⟩, ?_⟩
        have hz := Stp.refl I_1n w_1r
        obtain rfl := Option.some.inj q_h
        have hp := hp.perm [2, 1, 0] (by decide)
        exact ⟨(x_i.Neg, x_i.Mag, x_1k.Neg, x_1k.Mag, g_16, v_m, g_1i, v_1o, I_1n), (.c rfl (.c rfl (.c rfl .n))), rfl, hp, r_n, r_1p⟩
      refine ⟨?_, trivial⟩
      refine ev_alloc hp rfl T24 ?_
      intro g_1s w_1t hp hs
      replace hz := hz.trans hs
      replace r_5 := r_5.step hs
      replace r_n := r_n.step hs
      refine ⟨SK (Stp I_l w_1t I_l) [] [], ⟨Stp.refl _ _, kp_nil⟩, fun L x h => ⟨hz.held h.1, h.2⟩, ?_⟩
      have hz := Stp.refl I_l w_1t
      refine ⟨?_, ?_⟩
      ·
        obtain ⟨x_1u, q_1v, q_h⟩ := bind_some q_h
        refine ev_call rfl rfl C32 (((integer_Abs_ok n) _ _  (Int_2.mk x_3.Neg x_3.Mag) v_4 r_5 hp.imm _ q_1v).mono ?_)
        rintro _ w_1w ⟨I_1x, v_1y, hv, hq, r_1z⟩
        replace hv := hv.symm
        subst hv
        have hs := hq.st
        have hp := hp.join0 hq
        replace hz := hz.trans hs
        replace r_n := r_n.step hs
        refine ⟨SK (Stp I_1x w_1w I_1x) [] [], ⟨Stp.refl _ _, kp_nil⟩, fun L x h => ⟨hz.held h.1, h.2⟩, ?_⟩
        have hz := Stp.refl I_1x w_1w
        refine ⟨?_, trivial⟩
        refine ev_alloc hp rfl T24 ?_
        intro g_20 w_21 hp hs
        replace hz := hz.trans hs
        replace r_n := r_n.step hs
        replace r_1z := r_1z.step hs
        refine ⟨SK (Stp I_1x w_21 I_1x) [] [], ⟨Stp.refl _ _, kp_nil⟩, fun L x h => ⟨hz.held h.1, h.2⟩, ?_⟩
        have hz := Stp.refl I_1x w_21
        refine ⟨?_, trivial⟩
        refine ev_storeA hp (i := 0) (off := 0) (vs := [(.bool x_i.Neg), v_m]) rfl rfl rfl rfl T24 rfl (Nat.le_of_ble_eq_true rfl) (ones_cons rfl (ones_cons r_n.one ones_nil)) ?_
        intro w_22 hp hs
        replace hz := hz.trans hs
        replace r_1z := r_1z.step hs
        replace r_n := r_n.step hs
        refine ⟨SK (Stp I_1x w_22 I_1x) [] [], ⟨Stp.refl _ _, kp_nil⟩, fun L x h => ⟨hz.held h.1, h.2⟩, ?_⟩
        have hz := Stp.refl I_1x w_22
        refine ⟨?_, trivial⟩
        refine ev_storeA hp (i := 1) (off := 0) (vs := [(.bool x_1u.Neg), v_1y]) rfl rfl rfl rfl T24 rfl (Nat.le_of_ble_eq_true rfl) (ones_cons rfl (ones_cons r_1z.one ones_nil)) ?_
        intro w_23 hp hs
        replace hz := hz.trans hs
        replace r_n := r_n.step hs
        replace r_1z := r_1z.step hs
        refine ⟨SK (Stp I_1x w_23 I_1x) [] [], ⟨Stp.refl _ _, kp_nil⟩, fun L x h => ⟨hz.held h.1, h.2⟩, ?_⟩
        have hz := Stp.refl I_1x w_23
        obtain rfl := Option.some.inj q_h
        have hp := hp.perm [2, 0, 1] (by decide)
        exact ⟨(x_i.Neg, x_i.Mag, x_1u.Neg, x_1u.Mag, g_20, v_m, g_1s, v_1y, I_1x), (.c rfl (.c rfl (.c rfl .n))), rfl, hp, r_n, r_1z⟩
      refine ⟨?_, trivial⟩
      refine ev_alloc hp rfl T24 ?_
      intro g_24 w_25 hp hs
      replace hz := hz.trans hs
      replace r_5 := r_5.step hs
      replace r_n := r_n.step hs
      refine ⟨SK (Stp I_l w_25 I_l) [] [], ⟨Stp.refl _ _, kp_nil⟩, fun L x h => ⟨hz.held h.1, h.2⟩, ?_⟩
      have hz := Stp.refl I_l w_25
      refine ⟨?_, trivial⟩
      obtain ⟨x_26, q_27, q_h⟩ := bind_some q_h
      refine ev_call rfl rfl C32 (((integer_Abs_ok n) _ _  (Int_2.mk x_3.Neg x_3.Mag) v_4 r_5 hp.imm _ q_27).mono ?_)
      rintro _ w_28 ⟨I_29, v_2a, hv, hq, r_2b⟩
      replace hv := hv.symm
      subst hv
      have hs := hq.st
      have hp := hp.join0 hq
      replace hz := hz.trans hs
      replace r_n := r_n.step hs
      refine ⟨SK (Stp I_29 w_28 I_29) [] [], ⟨Stp.refl _ _, kp_nil⟩, fun L x h => ⟨hz.held h.1, h.2⟩, ?_⟩
      have hz := Stp.refl I_29 w_28
      refine ⟨?_, trivial⟩
      refine ev_storeA hp (i := 0) (off := 0) (vs := [(.bool x_i.Neg), v_m]) rfl rfl rfl rfl T24 rfl (Nat.le_of_ble_eq_true rfl) (ones_cons rfl (ones_cons r_n.one ones_nil)) ?_
      intro w_2c hp hs
      replace hz := hz.trans hs
      replace r_2b := r_2b.step hs
      replace r_n := r_n.step hs
      refine ⟨SK (Stp I_29 w_2c I_29) [] [], ⟨Stp.refl _ _, kp_nil⟩, fun L x h => ⟨hz.held h.1, h.2⟩, ?_⟩
      have hz := Stp.refl I_29 w_2c
      refine ⟨?_, trivial⟩
      refine ev_storeA hp (i := 1) (off := 0) (vs := [(.bool x_26.Neg), v_2a]) rfl rfl rfl rfl T24 rfl (Nat.le_of_ble_eq_true rfl) (ones_cons rfl (ones_cons r_2b.one ones_nil)) ?_
      intro w_2d hp hs
      replace hz := hz.trans hs
      replace r_n := r_n.step hs
      replace r_2b := r_2b.step hs
      refine ⟨SK (Stp I_29 w_2d I_29) [] [], ⟨Stp.refl _ _, kp_nil⟩, fun L x h => ⟨hz.held h.1, h.2⟩, ?_⟩
      have hz := Stp.refl I_29 w_2d
      obtain rfl := Option.some.inj q_h
      have hp := hp.perm [2, 0, 1] (by decide)
      exact ⟨(x_i.Neg, x_i.Mag, x_26.Neg, x_26.Mag, g_24, v_m, g_1s, v_2a, I_29), (.c rfl (.c rfl (.c rfl .n))), rfl, hp, r_n, r_2b⟩
    refine ⟨?_, ?_⟩
    ·
      refine ev_alloc hp rfl T24 ?_
      intro g_2e w_2f hp hs
      replace hz := hz.trans hs
      replace r_2 := r_2.step hs
      replace r_5 := r_5.step hs
      refine ⟨SK (Stp I_b w_2f I_b) [] [], ⟨Stp.refl _ _, kp_nil⟩, fun L x h => ⟨hz.held h.1, h.2⟩, ?_⟩
      have hz := Stp.refl I_b w_2f
      refine ⟨?_, ?_⟩
      ·
        obtain ⟨x_2g, q_2h, q_h⟩ := bind_some q_h
        refine ev_call rfl rfl C32 (((integer_Abs_ok n) _ _  (Int_2.mk x_0.Neg x_0.Mag) v_1 r_2 hp.imm _ q_2h).mono ?_)
        rintro _ w_2i ⟨I_2j, v_2k, hv, hq, r_2l⟩
        replace hv := hv.symm
        subst hv
        have hs := hq.st
        have hp := hp.join0 hq
        replace hz := hz.trans hs
        replace r_5 := r_5.step hs
        refine ⟨SK (Stp I_2j w_2i I_2j) [] [], ⟨Stp.refl _ _, kp_nil⟩, fun L x h => ⟨hz.held h.1, h.2⟩, ?_⟩
        have hz := Stp.refl I_2j w_2i
        refine ⟨?_, ?_⟩
        ·
          obtain ⟨x_2m, q_2n, q_h⟩ := bind_some q_h
          refine ev_call rfl rfl C32 (((integer_Abs_ok n) _ _  (Int_2.mk x_3.Neg x_3.Mag) v_4 r_5 hp.imm _ q_2n).mono ?_)
          rintro _ w_2o ⟨I_2p, v_2q, hv, hq, r_2r⟩
          replace hv := hv.symm
          subst hv
          have hs := hq.st
          have hp := hp.join0 hq
          replace hz := hz.trans hs
          replace r_2l := r_2l.step hs
          refine ⟨SK (Stp I_2p w_2o I_2p) [] [], ⟨Stp.refl _ _, kp_nil⟩, fun L x h => ⟨hz.held h.1, h.2⟩, ?_⟩
          have hz := Stp.refl I_2p w_2o
          refine ⟨?_, trivial⟩
          refine ev_alloc hp rfl T24 ?_
          intro g_2s w_2t hp hs
          replace hz := hz.trans hs
          replace r_2l := r_2l.step hs
          replace r_2r := r_2r.step hs
          refine ⟨SK (Stp I_2p w_2t I_2p) [] [], ⟨Stp.refl _ _, kp_nil⟩, fun L x h => ⟨hz.held h.1, h.2⟩, ?_⟩
          have hz := Stp.refl I_2p w_2t
          refine ⟨?_, trivial⟩
          refine ev_storeA hp (i := 1) (off := 0) (vs := [(.bool x_2g.Neg), v_2k]) rfl rfl rfl rfl T24 rfl (Nat.le_of_ble_eq_true rfl) (ones_cons rfl (ones_cons r_2l.one ones_nil)) ?_
          intro w_2u hp hs
          replace hz := hz.trans hs
          replace r_2r := r_2r.step hs
          replace r_2l := r_2l.step hs
          refine ⟨SK (Stp I_2p w_2u I_2p) [] [], ⟨Stp.refl _ _, kp_nil⟩, fun L x h => ⟨hz.held h.1, h.2⟩, ?_⟩
          have hz := Stp.refl I_2p w_2u
          refine ⟨?_, trivial⟩
          refine ev_storeA hp (i := 0) (off := 0) (vs := [(.bool x_2m.Neg), v_2q]) rfl rfl rfl rfl T24 rfl (Nat.le_of_ble_eq_true rfl) (ones_cons rfl (ones_cons r_2r.one ones_nil)) ?_
          intro w_2v hp hs
          replace hz := hz.trans hs
          replace r_2r := r_2r.step hs
          replace r_2l := r_2l.step hs
          refine ⟨SK (Stp I_2p w_2v I_2p) [] [], ⟨Stp.refl _ _, kp_nil⟩, fun L x h => ⟨hz.held h.1, h.2⟩, ?_⟩
          have hz := Stp.refl I_2p w_2v
          obtain rfl := Option.some.inj q_h
          have hp := hp.perm [2, 1, 0] (by decide)
          exact ⟨(x_2g.Neg, x_2g.Mag, x_2m.Neg, x_2m.Mag, g_2e, v_2k, g_2s, v_2q, I_2p), (.c rfl (.c rfl (.c rfl .n))), rfl, hp, r_2l, r_2r⟩
        refine ⟨?_, trivial⟩
        refine ev_alloc hp rfl T24 ?_
        intro g_2w w_2x hp hs
        replace hz := hz.trans hs
        replace r_5 := r_5.step hs
        replace r_2l := r_2l.step hs
        refine ⟨SK (Stp I_2j w_2x I_2j) [] [], ⟨Stp.refl _ _, kp_nil⟩, fun L x h => ⟨hz.held h.1, h.2⟩, ?_⟩
        have hz := Stp.refl I_2j w_2x
        refine ⟨?_, trivial⟩
        obtain ⟨x_2y, q_2z, q_h⟩ := bind_some q_h
        refine ev_call rfl rfl C32 (((integer_Abs_ok n) _ _  (Int_2.mk x_3.Neg x_3.Mag) v_4 r_5 hp.imm _ q_2z).mono ?_)
        rintro _ w_30 ⟨I_31, v_32, hv, hq, r_33⟩
        replace hv := hv.symm
        subst hv
        have hs := hq.st
        have hp := hp.join0 hq
        replace hz := hz.trans hs
        replace r_2l := r_2l.step hs
        refine ⟨SK (Stp I_31 w_30 I_31) [] [], ⟨Stp.refl _ _, kp_nil⟩, fun L x h => ⟨hz.held h.1, h.2⟩, ?_⟩
        have hz := Stp.refl I_31 w_30
        refine ⟨?_, trivial⟩
        refine ev_storeA hp (i := 1) (off := 0) (vs := [(.bool x_2g.Neg), v_2k]) rfl rfl rfl rfl T24 rfl (Nat.le_of_ble_eq_true rfl) (ones_cons rfl (ones_cons r_2l.one ones_nil)) ?_
        intro w_34 hp hs
        replace hz := hz.trans hs
        replace r_33 := r_33.step hs
        replace r_2l := r_2l.step hs
        refine ⟨SK (Stp I_31 w_34 I_31) [] [], ⟨Stp.refl _ _, kp_nil⟩, fun L x h => ⟨hz.held h.1, h.2⟩, ?_⟩
        have hz := Stp.refl I_31 w_34
        refine ⟨?_, trivial⟩
        refine ev_storeA hp (i := 0) (off := 0) (vs := [(.bool x_2y.Neg), v_32]) rfl rfl rfl rfl T24 rfl (Nat.le_of_ble_eq_true rfl) (ones_cons rfl (ones_cons r_33.one ones_nil)) ?_
        intro w_35 hp hs
        replace hz := hz.trans hs
        replace r_33 := r_33.step hs
        replace r_2l := r_2l.step hs
        refine ⟨SK (Stp I_31 w_35 I_31) [] [], ⟨Stp.refl _ _, kp_nil⟩, fun L x h => ⟨hz.held h.1, h.2⟩, ?_⟩
        have hz := Stp.refl I_31 w_35
        obtain rfl := Option.some.inj q_h
        have hp := hp.perm [2, 1, 0] (by decide)
        exact ⟨(x_2g.Neg, x_2g.Mag, x_2y.Neg, x_2y.Mag, g_2e, v_2k, g_2w, v_32, I_31), (.c rfl (.c rfl (.c rfl .n))), rfl, hp, r_2l, r_33⟩
      refine ⟨?_, trivial⟩
      refine ev_alloc hp rfl T24 ?_
      intro g_36 w_37 hp hs
      replace hz := hz.trans hs
      replace r_2 := r_2.step hs
      replace r_5 := r_5.step hs
      refine ⟨SK (Stp I_b w_37 I_b) [] [], ⟨Stp.refl _ _, kp_nil⟩, fun L x h => ⟨hz.held h.1, h.2⟩, ?_⟩
      have hz := Stp.refl I_b w_37
      refine ⟨?_, trivial⟩
      obtain ⟨x_38, q_39, q_h⟩ := bind_some q_h
      refine ev_call rfl rfl C32 (((integer_Abs_ok n) _ _  (Int_2.mk x_0.Neg x_0.Mag) v_1 r_2 hp.imm _ q_39).mono ?_)
      rintro _ w_3a ⟨I_3b, v_3c, hv, hq, r_3d⟩
      replace hv := hv.symm
      subst hv
      have hs := hq.st
      have hp := hp.join0 hq
      replace hz := hz.trans hs
      replace r_5 := r_5.step hs
      refine ⟨SK (Stp I_3b w_3a I_3b) [] [], ⟨Stp.refl _ _, kp_nil⟩, fun L x h => ⟨hz.held h.1, h.2⟩, ?_⟩
      have hz := Stp.refl I_3b w_3a
      refine ⟨?_, trivial⟩
      obtain ⟨x_3e, q_3f, q_h⟩ := bind_some q_h
      refine ev_call rfl rfl C32 (((integer_Abs_ok n) _ _  (Int_2.mk x_3.Neg x_3.Mag) v_4 r_5 hp.imm _ q_3f).mono ?_)
      rintro _ w_3g ⟨I_3h, v_3i, hv, hq, r_3j⟩
      replace hv := hv.symm
      subst hv
      have hs := hq.st
      have hp := hp.join0 hq
      replace hz := hz.trans hs
      replace r_3d := r_3d.step hs
      refine ⟨SK (Stp I_3h w_3g I_3h) [] [], ⟨Stp.refl _ _, kp_nil⟩, fun L x h => ⟨hz.held h.1, h.2⟩, ?_⟩
      have hz := Stp.refl I_3h w_3g
      refine ⟨?_, trivial⟩
      refine ev_storeA hp (i := 1) (off := 0) (vs := [(.bool x_38.Neg), v_3c]) rfl rfl rfl rfl T24 rfl (Nat.le_of_ble_eq_true rfl) (ones_cons rfl (ones_cons r_3d.one ones_nil)) ?_
      intro w_3k hp hs
      replace hz := hz.trans hs
      replace r_3j := r_3j.step hs
      replace r_3d := r_3d.step hs
      refine ⟨SK (Stp I_3h w_3k I_3h) [] [], ⟨Stp.refl _ _, kp_nil⟩, fun L x h => ⟨hz.held h.1, h.2⟩, ?_⟩
      have hz := Stp.refl I_3h w_3k
      refine ⟨?_, trivial⟩
      refine ev_storeA hp (i := 0) (off := 0) (vs := [(.bool x_3e.Neg), v_3i]) rfl rfl rfl rfl T24 rfl (Nat.le_of_ble_eq_true rfl) (ones_cons rfl (ones_cons r_3j.one ones_nil)) ?_
      intro w_3l hp hs
      replace hz := hz.trans hs
      replace r_3j := r_3j.step hs
      replace r_3d := r_3d.step hs
      refine ⟨SK (Stp I_3h w_3l I_3h) [] [], ⟨Stp.refl _ _, kp_nil⟩, fun L x h => ⟨hz.held h.1, h.2⟩, ?_⟩
      have hz := Stp.refl I_3h w_3l
      obtain rfl := Option.some.inj q_h
      have hp := hp.perm [2, 1, 0] (by decide)
      exact ⟨(x_38.Neg, x_38.Mag, x_3e.Neg, x_3e.Mag, g_2e, v_3c, g_36, v_3i, I_3h), (.c rfl (.c rfl (.c rfl .n))), rfl, hp, r_3d, r_3j⟩
    refine ⟨?_, trivial⟩
    refine ev_alloc hp rfl T24 ?_
    intro g_3m w_3n hp hs
    replace hz := hz.trans hs
    replace r_2 := r_2.step hs
    replace r_5 := r_5.step hs
    refine ⟨SK (Stp I_b w_3n I_b) [] [], ⟨Stp.refl _ _, kp_nil⟩, fun L x h => ⟨hz.held h.1, h.2⟩, ?_⟩
    have hz := Stp.refl I_b w_3n
    refine ⟨?_, ?_⟩
    ·
      obtain ⟨x_3o, q_3p, q_h⟩ := bind_some q_h
      refine ev_call rfl rfl C32 (((integer_Abs_ok n) _ _  (Int_2.mk x_0.Neg x_0.Mag) v_1 r_2 hp.imm _ q_3p).mono ?_)
      rintro _ w_3q ⟨I_3r, v_3s, hv, hq, r_3t⟩
      replace hv := hv.symm
      subst hv
      have hs := hq.st
      have hp := hp.join0 hq
      replace hz := hz.trans hs
      replace r_5 := r_5.step hs
      refine ⟨SK (Stp I_3r w_3q I_3r) [] [], ⟨Stp.refl _ _, kp_nil⟩, fun L x h => ⟨hz.held h.1, h.2⟩, ?_⟩
      have hz := Stp.refl I_3r w_3q
      refine ⟨?_, ?_⟩
      ·
        obtain ⟨x_3u, q_3v, q_h⟩ := bind_some q_h
        refine ev_call rfl rfl C32 (((integer_Abs_ok n) _ _  (Int_2.mk x_3.Neg x_3.Mag) v_4 r_5 hp.imm _ q_3v).mono ?_)
        rintro _ w_3w ⟨I_3x, v_3y, hv, hq, r_3z⟩
        replace hv := hv.symm
        subst hv
        have hs := hq.st
        have hp := hp.join0 hq
        replace hz := hz.trans hs
        replace r_3t := r_3t.step hs
        refine ⟨SK (Stp I_3x w_3w I_3x) [] [], ⟨Stp.refl _ _, kp_nil⟩, fun L x h => ⟨hz.held h.1, h.2⟩, ?_⟩
        have hz := Stp.refl I_3x w_3w
        refine ⟨?_, trivial⟩
        refine ev_alloc hp rfl T24 ?_
        intro g_40 w_41 hp hs
        replace hz := hz.trans hs
        replace r_3t := r_3t.step hs
        replace r_3z := r_3z.step hs
        refine ⟨SK (Stp I_3x w_41 I_3x) [] [], ⟨Stp.refl _ _, kp_nil⟩, fun L x h => ⟨hz.held h.1, h.2⟩, ?_⟩
        have hz := Stp.refl I_3x w_41
        refine ⟨?_, trivial⟩
        refine ev_storeA hp (i := 0) (off := 0) (vs := [(.bool x_3o.Neg), v_3s]) rfl rfl rfl rfl T24 rfl (Nat.le_of_ble_eq_true rfl) (ones_cons rfl (ones_cons r_3t.one ones_nil)) ?_
        intro w_42 hp hs
        replace hz := hz.trans hs
        replace r_3z := r_3z.step hs
        replace r_3t := r_3t.step hs
        refine ⟨SK (Stp I_3x w_42 I_3x) [] [], ⟨Stp.refl _ _, kp_nil⟩, fun L x h => ⟨hz.held h.1, h.2⟩, ?_⟩
        have hz := Stp.refl I_3x w_42
        refine ⟨?_, trivial⟩
        refine ev_storeA hp (i := 1) (off := 0) (vs := [(.bool x_3u.Neg), v_3y]) rfl rfl rfl rfl T24 rfl (Nat.le_of_ble_eq_true rfl) (ones_cons rfl (ones_cons r_3z.one ones_nil)) ?_
        intro w_43 hp hs
        replace hz := hz.trans hs
        replace r_3t := r_3t.step hs
        replace r_3z := r_3z.step hs
        refine ⟨SK (Stp I_3x w_43 I_3x) [] [], ⟨Stp.refl _ _, kp_nil⟩, fun L x h => ⟨hz.held h.1, h.2⟩, ?_⟩
        have hz := Stp.refl I_3x w_43
        obtain rfl := Option.some.inj q_h
        have hp := hp.perm [2, 0, 1] (by decide)
        exact ⟨(x_3o.Neg, x_3o.Mag, x_3u.Neg, x_3u.Mag, g_40, v_3s, g_3m, v_3y, I_3x), (.c rfl (.c rfl (.c rfl .n))), rfl, hp, r_3t, r_3z⟩
      refine ⟨?_, trivial⟩
      refine ev_alloc hp rfl T24 ?_
      intro g_44 w_45 hp hs
      replace hz := hz.trans hs
      replace r_5 := r_5.step hs
      replace r_3t := r_3t.step hs
      refine ⟨SK (Stp I_3r w_45 I_3r) [] [], ⟨Stp.refl _ _, kp_nil⟩, fun L x h => ⟨hz.held h.1, h.2⟩, ?_⟩
      have hz := Stp.refl I_3r w_45
      refine ⟨?_, trivial⟩
      obtain ⟨x_46, q_47, q_h⟩ := bind_some q_h
      refine ev_call rfl rfl C32 (((integer_Abs_ok n) _ _  (Int_2.mk x_3.Neg x_3.Mag) v_4 r_5 hp.imm _ q_47).mono ?_)
      rintro _ w_48 ⟨I_49, v_4a, hv, hq, r_4b⟩
      replace hv := hv.symm
      subst hv
      have hs := hq.st
      have hp := hp.join0 hq
      replace hz := hz.trans hs
      replace r_3t := r_3t.step hs
      refine ⟨SK (Stp I_49 w_48 I_49) [] [], ⟨Stp.refl _ _, kp_nil⟩, fun L x h => ⟨hz.held h.1, h.2⟩, ?_⟩
      have hz := Stp.refl I_49 w_48
      refine ⟨?_, trivial⟩
      refine ev_storeA hp (i := 0) (off := 0) (vs := [(.bool x_3o.Neg), v_3s]) rfl rfl rfl rfl T24 rfl (Nat.le_of_ble_eq_true rfl) (ones_cons rfl (ones_cons r_3t.one ones_nil)) ?_
      intro w_4c hp hs
      replace hz := hz.trans hs
      replace r_4b := r_4b.step hs
      replace r_3t := r_3t.step hs
      refine ⟨SK (Stp I_49 w_4c I_49) [] [], ⟨Stp.refl _ _, kp_nil⟩, fun L x h => ⟨hz.held h.1, h.2⟩, ?_⟩
      have hz := Stp.refl I_49 w_4c
      refine ⟨?_, trivial⟩
      refine ev_storeA hp (i := 1) (off := 0) (vs := [(.bool x_46.Neg), v_4a]) rfl rfl rfl rfl T24 rfl (Nat.le_of_ble_eq_true rfl) (ones_cons rfl (ones_cons r_4b.one ones_nil)) ?_
      intro w_4d hp hs
      replace hz := hz.trans hs
      replace r_3t := r_3t.step hs
      replace r_4b := r_4b.step hs
      refine ⟨SK (Stp I_49 w_4d I_49) [] [], ⟨Stp.refl _ _, kp_nil⟩, fun L x h => ⟨hz.held h.1, h.2⟩, ?_⟩
      have hz := Stp.refl I_49 w_4d
      obtain rfl := Option.some.inj q_h
      have hp := hp.perm [2, 0, 1] (by decide)
      exact ⟨(x_3o.Neg, x_3o.Mag, x_46.Neg, x_46.Mag, g_44, v_3s, g_3m, v_4a, I_49), (.c rfl (.c rfl (.c rfl .n))), rfl, hp, r_3t, r_4b⟩
    refine ⟨?_, trivial⟩
    refine ev_alloc hp rfl T24 ?_
    intro g_4e w_4f hp hs
    replace hz := hz.trans hs
    replace r_2 := r_2.step hs
    replace r_5 := r_5.step hs
    refine ⟨SK (Stp I_b w_4f I_b) [] [], ⟨Stp.refl _ _, kp_nil⟩, fun L x h => ⟨hz.held h.1, h.2⟩, ?_⟩
    have hz := Stp.refl I_b w_4f
    refine ⟨?_, trivial⟩
    obtain ⟨x_4g, q_4h, q_h⟩ := bind_some q_h
    refine ev_call rfl rfl C32 (((integer_Abs_ok n) _ _  (Int_2.mk x_0.Neg x_0.Mag) v_1 r_2 hp.imm _ q_4h).mono ?_)
    rintro _ w_4i ⟨I_4j, v_4k, hv, hq, r_4l⟩
    replace hv := hv.symm
    subst hv
    have hs := hq.st
    have hp := hp.join0 hq
    replace hz := hz.trans hs
    replace r_5 := r_5.step hs
    refine ⟨SK (Stp I_4j w_4i I_4j) [] [], ⟨Stp.refl _ _, kp_nil⟩, fun L x h => ⟨hz.held h.1, h.2⟩, ?_⟩
    have hz := Stp.refl I_4j w_4i
    refine ⟨?_, trivial⟩
    obtain ⟨x_4m, q_4n, q_h⟩ := bind_some q_h
    refine ev_call rfl rfl C32 (((integer_Abs_ok n) _ _  (Int_2.mk x_3.Neg x_3.Mag) v_4 r_5 hp.imm _ q_4n).mono ?_)
    rintro _ w_4o ⟨I_4p, v_4q, hv, hq, r_4r⟩
    replace hv := hv.symm
    subst hv
    have hs := hq.st
    have hp := hp.join0 hq
    replace hz := hz.trans hs
    replace r_4l := r_4l.step hs
    refine ⟨SK (Stp I_4p w_4o I_4p) [] [], ⟨Stp.refl _ _, kp_nil⟩, fun L x h => ⟨hz.held h.1, h.2⟩, ?_⟩
    have hz := Stp.refl I_4p w_4o
    refine ⟨?_, trivial⟩
    refine ev_storeA hp (i := 0) (off := 0) (vs := [(.bool x_4g.Neg), v_4k]) rfl rfl rfl rfl T24 rfl (Nat.le_of_ble_eq_true rfl) (ones_cons rfl (ones_cons r_4l.one ones_nil)) ?_
    intro w_4s hp hs
    replace hz := hz.trans hs
    replace r_4r := r_4r.step hs
    replace r_4l := r_4l.step hs
    refine ⟨SK (Stp I_4p w_4s I_4p) [] [], ⟨Stp.refl _ _, kp_nil⟩, fun L x h => ⟨hz.held h.1, h.2⟩, ?_⟩
    have hz := Stp.refl I_4p w_4s
    refine ⟨?_, trivial⟩
    refine ev_storeA hp (i := 1) (off := 0) (vs := [(.bool x_4m.Neg), v_4q]) rfl rfl rfl rfl T24 rfl (Nat.le_of_ble_eq_true rfl) (ones_cons rfl (ones_cons r_4r.one ones_nil)) ?_
    intro w_4t hp hs
    replace hz := hz.trans hs
    replace r_4l := r_4l.step hs
    replace r_4r := r_4r.step hs
    refine ⟨SK (Stp I_4p w_4t I_4p) [] [], ⟨Stp.refl _ _, kp_nil⟩, fun L x h => ⟨hz.held h.1, h.2⟩, ?_⟩
    have hz := Stp.refl I_4p w_4t
    obtain rfl := Option.some.inj q_h
    have hp := hp.perm [2, 0, 1] (by decide)
    exact ⟨(x_4g.Neg, x_4g.Mag, x_4m.Neg, x_4m.Mag, g_4e, v_4k, g_3m, v_4q, I_4p), (.c rfl (.c rfl (.c rfl .n))), rfl, hp, r_4l, r_4r⟩
  ·
    rintro ⟨x_4u, x_4v, x_4w, x_4x, g_4y, v_4z, g_50, v_51, I_52⟩ w_53 ⟨hy, hp, r_54, r_55⟩
    replace hy := hy.symm
    subst hy
    obtain ⟨y_56, q_57, h⟩ := bind_some h
    refine W.cut (γ := (Bool × (List Int) × Value × (Nat → Prop))) (fun g => [(4, (.pointer (some ⟨g_e, 0, none⟩))), (5, (.pointer (some ⟨g_4y, 0, none⟩)))]) (fun g w' => y_56 = ((g.1), (g.2.1)) ∧ Hp ⟨w0, I0, []⟩ (g.2.2.2) [some (g_e, [(.bool false), (.slice none 0 0)], 24), some (g_4y, [(.bool (g.1)), (g.2.2.1)], 24)] w' ∧ RepS (dI .u32) w' (g.2.2.2) (g.2.2.1) (g.2.1)) ?_ ?_
    ·
      apply go
      refine W.loop q_57 (γ := (Value × Value × (Nat → Prop))) (fun s g => [(4, (.pointer (some ⟨g_e, 0, none⟩))), (5, (.pointer (some ⟨g_4y, 0, none⟩))), (6, (.pointer (some ⟨g_50, 0, none⟩)))]) (fun s g w' => Hp ⟨w0, I0, []⟩ (g.2.2) [some (g_e, [(.bool false), (.slice none 0 0)], 24), some (g_4y, [(.bool (s.1)), (g.1)], 24), some (g_50, [(.bool (s.2.2.1)), (g.2.1)], 24)] w' ∧ RepS (dI .u32) w' (g.2.2) (g.1) (s.2.1) ∧ RepS (dI .u32) w' (g.2.2) (g.2.1) (s.2.2.2)) (v_4z, v_51, I_52) (.c rfl (.c rfl (.c rfl .n))) ⟨hp, r_54, r_55⟩ ?_
      rintro ⟨x_58, x_59, x_5a, x_5b⟩ ⟨v_5c, v_5d, I_5e⟩ w_5f y_5g ⟨hp, r_5h, r_5i⟩ q_5j q_5k
      unfold integer_Gcd_L1 at q_5j
      apply go
      apply go
      apply go
      refine ev0 (rn_field rfl rfl FO24_1) ?_
      refine ev (rn_load rfl rfl (run_loadVar1 T22 (hp.cell (i := 2) (off := 1) rfl rfl))) ?_
      refine ev0 (rn_len rfl rfl Tryz.underlying22 r_5i) ?_
      apply go
      refine sel_of (fun hc => ?_) (fun hc => ?_)
      ·
        have q_5j := cond_t q_5j hc
        apply go
        apply go
        apply go
        apply go
        refine ev (rn_load rfl rfl (run_loadVarA T24 rfl (hp.at_ (i := 1) rfl))) ?_
        refine ev (rn_load rfl rfl (run_loadVarA T24 rfl (hp.at_ (i := 2) rfl))) ?_
        obtain ⟨⟨x_5l, x_5m, x_5n⟩, q_5o, q_5j⟩ := bind_some q_5j
        refine ev_call rfl rfl C24 (((integer_DivMod_ok n) _ _  (Int_2.mk x_58 x_59) v_5c r_5h (Int_2.mk x_5a x_5b) v_5d r_5i hp.imm _ q_5o).mono ?_)
        rintro _ w_5p ⟨I_5q, v_5r, v_5s, hv, hq, r_5t, r_5u⟩
        replace hv := hv.symm
        subst hv
        have hs := hq.st
        have hp := hp.join0 hq
        replace r_5h := r_5h.step hs
        replace r_5i := r_5i.step hs
        refine ev_alloc hp rfl T24 ?_
        intro g_5v w_5w hp hs
        replace r_5t := r_5t.step hs
        replace r_5u := r_5u.step hs
        replace r_5h := r_5h.step hs
        replace r_5i := r_5i.step hs
        refine ev_alloc hp rfl T24 ?_
        intro g_5x w_5y hp hs
        replace r_5t := r_5t.step hs
        replace r_5u := r_5u.step hs
        replace r_5h := r_5h.step hs
        replace r_5i := r_5i.step hs
        refine ev_storeA hp (i := 1) (off := 0) (vs := [(.bool x_5l.Neg), v_5r]) rfl rfl rfl rfl T24 rfl (Nat.le_of_ble_eq_true rfl) (ones_cons rfl (ones_cons r_5t.one ones_nil)) ?_
        intro w_5z hp hs
        replace r_5u := r_5u.step hs
        replace r_5t := r_5t.step hs
        replace r_5h := r_5h.step hs
        replace r_5i := r_5i.step hs
        refine ev_storeA hp (i := 0) (off := 0) (vs := [(.bool x_5m.Neg), v_5s]) rfl rfl rfl rfl T24 rfl (Nat.le_of_ble_eq_true rfl) (ones_cons rfl (ones_cons r_5u.one ones_nil)) ?_
        intro w_60 hp hs
        replace r_5u := r_5u.step hs
        replace r_5t := r_5t.step hs
        replace r_5h := r_5h.step hs
        replace r_5i := r_5i.step hs
        have hs := hp.stp (Ch.drew [] w_60)
        have hp := hp.drew
        replace r_5u := r_5u.step hs
        replace r_5t := r_5t.step hs
        replace r_5h := r_5h.step hs
        replace r_5i := r_5i.step hs
        refine W.held [(1, true), (0, false), (2, false), (3, false)] (fun x => Stp I_5q w_60.drew I_5q x ∧ OwnK [(g_5x, [(.bool x_5m.Neg), v_5s], 24)] x) MX (by kernel_rfl) ⟨Stp.refl _ _, (OwnK.cons (hp.own 0 _ _ _ rfl).1 OwnK.nil)⟩ ?_
        have hz := Stp.refl I_5q w_60.drew
        refine evh (fun w' hw => rn_load rfl rfl (run_loadVarA T24 rfl (hw.2.at_ (i := 0) rfl))) ?_
        refine ev (rn_load rfl rfl (run_loadVarA T24 rfl (hp.at_ (i := 4) rfl))) ?_
        refine ⟨fun x => Stp I_5q w_60.drew I_5q x ∧ OwnK [(g_5x, [(.bool x_5m.Neg), v_5s], 24)] x, ⟨Stp.refl _ _, (OwnK.cons (hp.own 0 _ _ _ rfl).1 OwnK.nil)⟩, fun x hx => ⟨hz.held hx.1, hx.2⟩, ?_⟩
        have hz := Stp.refl I_5q w_60.drew
        refine ev_storeA hp (i := 3) (off := 0) (vs := [(.bool x_5a), v_5d]) rfl rfl rfl rfl T24 rfl (Nat.le_of_ble_eq_true rfl) (ones_cons rfl (ones_cons r_5i.one ones_nil)) ?_
        intro w_61 hp hs
        replace hz := hz.trans hs
        replace r_5u := r_5u.step hs
        replace r_5t := r_5t.step hs
        replace r_5i := r_5i.step hs
        refine ⟨fun x => Stp I_5q w_61 I_5q x ∧ OwnK [(g_5x, [(.bool x_5m.Neg), v_5s], 24)] x, ⟨Stp.refl _ _, (OwnK.cons (hp.own 0 _ _ _ rfl).1 OwnK.nil)⟩, fun x hx => ⟨hz.held hx.1, hx.2⟩, ?_⟩
        have hz := Stp.refl I_5q w_61
        refine ev_storeA hp (i := 4) (off := 0) (vs := [(.bool x_5m.Neg), v_5s]) rfl rfl rfl rfl T24 rfl (Nat.le_of_ble_eq_true rfl) (ones_cons rfl (ones_cons r_5u.one ones_nil)) ?_
        intro w_62 hp hs
        replace hz := hz.trans hs
        replace r_5u := r_5u.step hs
        replace r_5t := r_5t.step hs
        replace r_5i := r_5i.step hs
        refine ⟨fun x => Stp I_5q w_62 I_5q x ∧ OwnK [(g_5x, [(.bool x_5m.Neg), v_5s], 24)] x, ⟨Stp.refl _ _, (OwnK.cons (hp.own 0 _ _ _ rfl).1 OwnK.nil)⟩, fun x hx => ⟨hz.held hx.1, hx.2⟩, ?_⟩
        have hz := Stp.refl I_5q w_62
        have hp := hp.sel [2, 3, 4] (by decide)
        exact ⟨_, (Option.some.inj q_5j).symm, (v_5d, v_5s, I_5q), (.c rfl (.c rfl (.c rfl .n))), ⟨hp, r_5i, r_5u⟩⟩
      ·
        have q_5j := cond_f q_5j hc
        apply go
        have q_63 := congrArg some (q_5k _ (Option.some.inj q_5j).symm)
        obtain rfl := Option.some.inj q_63
        have hp := hp.sel [0, 1] (by decide)
        exact ⟨(x_58, x_59, v_5c, I_5e), (.c rfl (.c rfl .n)), rfl, hp, r_5h⟩
    ·
      rintro ⟨x_64, x_65, v_66, I_67⟩ w_68 ⟨hy, hp, r_69⟩
      replace hy := hy.symm
      subst hy
      apply go
      apply go
      refine ev (rn_load rfl rfl (run_loadVarA T24 rfl (hp.at_ (i := 1) rfl))) ?_
      refine ev_storeA hp (i := 0) (off := 0) (vs := [(.bool x_64), v_66]) rfl rfl rfl rfl T24 rfl (Nat.le_of_ble_eq_true rfl) (ones_cons rfl (ones_cons r_69.one ones_nil)) ?_
      intro w_6a hp hs
      replace r_69 := r_69.step hs
      apply go
      obtain rfl := Option.some.inj h
      refine ⟨_, run_loadVarA T24 rfl (hp.at_ (i := 0) rfl), ?_⟩
      have hp := hp.sel [] (by decide)
      exact ⟨I_67, v_66, rfl, hp, r_69⟩

end Go.Proofs.YthhghkcopfnbiaaGreatDoor

namespace Go.Proofs.YthhghkcopfnbiaaGreatDoor
open Go Go.Proofs.YthhghkcopfnbiaaGreatDoor.Gw Go.RowKit
set_option linter.unusedVariables false
attribute [local irreducible] Ev EvQ EvS EvH
def ref01_Same_S (f : Int_2 → Int_2 → Option Bool) : Prop := ∀ (w0 : World) (I0 : Nat → Prop) (x_0 : Int_2) (v_1 : Value) (r_2 : RepS (dI .u32) w0 I0 v_1 x_0.Mag) (x_3 : Int_2) (v_4 : Value) (r_5 : RepS (dI .u32) w0 I0 v_4 x_3.Mag) (hI : ∀ g, I0 g → g < w0.heap.size) (r : Bool), f x_0 x_3 = some r →
    Ret Tryz.prog 21 #[(.agg #[(.bool x_0.Neg), v_1]), (.agg #[(.bool x_3.Neg), v_4])] w0 fun v w1 => v = (.bool r) ∧ Ch [] w0 w1
theorem ref01_Same_ok (n : Nat) : ref01_Same_S (ref01_Same n) := by
  intro w0 I0 x_0 v_1 r_2 x_3 v_4 r_5 hI r h
  unfold ref01_Same at h
  refine enter Tryz.func21 rfl (Nat.le_of_ble_eq_true rfl) ?_
  have hp : Hp ⟨w0, I0, []⟩ I0 [] w0 := Hp.start hI
  apply go
  apply go
  refine ev_boxI hp rfl rfl ?_
  intro p_6 I_7 w_8 hp hs a_9
  replace r_5 := r_5.step hs
  replace r_2 := r_2.step hs
  refine ev_boxI hp rfl rfl ?_
  intro p_a I_b w_c hp hs a_d
  replace a_9 := a_9.step hs
  replace r_2 := r_2.step hs
  replace r_5 := r_5.step hs
  apply go
  obtain ⟨y_e, q_f, h⟩ := bind_some h
  refine W.cut (γ := Bool) (fun g => [(2, (.pointer (some (p_6)))), (3, (.pointer (some (p_a)))), (19, (.bool (g)))]) (fun g w' => y_e = (g) ∧ w_c = w') ?_ ?_
  ·
    apply go
    refine ev0 (rn_field rfl rfl FO24_0) ?_
    refine ev (rn_load rfl rfl (run_loadVar1 T4 (a_9.2 0 _ rfl))) ?_
    refine ev0 (rn_field rfl rfl FO24_0) ?_
    refine ev (rn_load rfl rfl (run_loadVar1 T4 (a_d.2 0 _ rfl))) ?_
    refine ev0 (rn_neB rfl rfl rfl Tryz.underlying4) ?_
    refine sel_of (fun hc => ?_) (fun hc => ?_)
    ·
      have q_f := cond_t q_f hc
      obtain rfl := Option.some.inj q_f
      exact ⟨true, (.c rfl (.c rfl (.c rfl .n))), rfl, rfl⟩
    ·
      have q_f := cond_f q_f hc
      refine ev0 (rn_field rfl rfl FO24_1) ?_
      refine ev (rn_load rfl rfl (run_loadVar1 T22 (a_9.2 1 _ rfl))) ?_
      refine ev0 (rn_len rfl rfl Tryz.underlying22 r_2) ?_
      refine ev0 (rn_field rfl rfl FO24_1) ?_
      refine ev (rn_load rfl rfl (run_loadVar1 T22 (a_d.2 1 _ rfl))) ?_
      refine ev0 (rn_len rfl rfl Tryz.underlying22 r_5) ?_
      obtain rfl := Option.some.inj q_f
      exact ⟨((x_0.Mag.length : Int) != (x_3.Mag.length : Int)), (.c rfl (.c rfl (.c rfl .n))), rfl, rfl⟩
  ·
    rintro x_g _ ⟨hy, rfl⟩
    replace hy := hy.symm
    subst hy
    apply go
    refine sel_of (fun hc => ?_) (fun hc => ?_)
    ·
      have h := cond_t h hc
      apply go
      apply go
      apply go
      obtain rfl := Option.some.inj h
      exact ⟨rfl, hp.ch⟩
    ·
      have h := cond_f h hc
      apply go
      obtain ⟨y_h, q_i, h⟩ := bind_some h
      refine W.cut (γ := Unit) (fun _ => []) (fun _ w' => y_h = .go () ∧ Hp ⟨w0, I0, []⟩ I_b [] w') ?_ ?_
      ·
        apply go
        apply go
        apply go
        refine W.loop q_i (γ := Unit) (fun s _ => [(2, (.pointer (some (p_6)))), (3, (.pointer (some (p_a)))), (5, (.int .i64 (s)))]) (fun s _ w' => Hp ⟨w0, I0, []⟩ I_b [] w' ∧ RepS (dI .u32) w' I_b v_1 x_0.Mag ∧ At w' I_b p_6 [(.bool x_0.Neg), v_1] ∧ RepS (dI .u32) w' I_b v_4 x_3.Mag ∧ At w' I_b p_a [(.bool x_3.Neg), v_4]) () (.c rfl (.c rfl (.c rfl .n))) ⟨hp, r_2, a_9, r_5, a_d⟩ ?_
        rintro x_j ⟨⟩ w_k y_l ⟨hp, r_2, a_9, r_5, a_d⟩ q_m q_n
        unfold ref01_Same_L1 at q_m
        apply go
        apply go
        apply go
        refine ev0 (rn_field rfl rfl FO24_1) ?_
        refine ev (rn_load rfl rfl (run_loadVar1 T22 (a_9.2 1 _ rfl))) ?_
        refine ev0 (rn_len rfl rfl Tryz.underlying22 r_2) ?_
        apply go
        refine sel_of (fun hc => ?_) (fun hc => ?_)
        ·
          have q_m := cond_t q_m hc
          apply go
          apply go
          apply go
          apply go
          refine W.quiet (fun w' => Ch [] w_k w') MX (by kernel_rfl) (Ch.drew [] w_k) ?_
          refine evq0 (rn_field rfl rfl FO24_1) ?_
          refine evq (fun w' hw => rn_load rfl rfl (run_loadVar1 T22 ((a_9.step (hp.stp hw)).2 1 _ rfl))) ?_
          obtain ⟨x_o, q_p, q_m⟩ := bind_some q_m
          refine evq_index rfl rfl rfl Tryz.underlying22 T45 r_2 q_p ?_
          intro p_q c_r d_s a_t
          obtain rfl : c_r = [(.int .u32 x_o)] := d_s
          refine evq (fun w' hw => rn_load rfl rfl (run_loadVar1 T45 ((a_t.step (hp.stp hw)).2 0 _ rfl))) ?_
          refine evq0 (rn_field rfl rfl FO24_1) ?_
          refine evq (fun w' hw => rn_load rfl rfl (run_loadVar1 T22 ((a_d.step (hp.stp hw)).2 1 _ rfl))) ?_
          obtain ⟨x_u, q_v, q_m⟩ := bind_some q_m
          refine evq_index rfl rfl rfl Tryz.underlying22 T45 r_5 q_v ?_
          intro p_w c_x d_y a_z
          obtain rfl : c_x = [(.int .u32 x_u)] := d_y
          refine evq (fun w' hw => rn_load rfl rfl (run_loadVar1 T45 ((a_z.step (hp.stp hw)).2 0 _ rfl))) ?_
          intro w_10 hc
          have hs := hp.stp hc
          replace hp := hp.ext hc
          replace a_9 := a_9.step hs
          replace r_2 := r_2.step hs
          replace a_d := a_d.step hs
          replace r_5 := r_5.step hs
          apply go
          refine sel_of (fun hc => ?_) (fun hc => ?_)
          ·
            have q_m := cond_t q_m hc
            apply go
            apply go
            apply go
            have q_11 := congrArg some (q_n _ (Option.some.inj q_m).symm)
            obtain rfl := Option.some.inj q_11
            obtain rfl := Option.some.inj h
            exact ⟨rfl, hp.ch⟩
          ·
            have q_m := cond_f q_m hc
            apply go
            apply go
            exact ⟨_, (Option.some.inj q_m).symm, (), (.c rfl (.c rfl (.c rfl .n))), ⟨hp, r_2, a_9, r_5, a_d⟩⟩
        ·
          have q_m := cond_f q_m hc
          apply go
          have q_12 := congrArg some (q_n _ (Option.some.inj q_m).symm)
          obtain rfl := Option.some.inj q_12
          exact ⟨(), .n, rfl, hp⟩
      ·
        rintro ⟨⟩ w_13 ⟨hy, hp⟩
        replace hy := hy.symm
        subst hy
        apply go
        apply go
        apply go
        obtain rfl := Option.some.inj h
        exact ⟨rfl, hp.ch⟩

end Go.Proofs.YthhghkcopfnbiaaGreatDoor

namespace Go.Proofs.YthhghkcopfnbiaaGreatDoor
open Go Go.Proofs.YthhghkcopfnbiaaGreatDoor.Gw Go.RowKit
set_option linter.unusedVariables false
attribute [local irreducible] Ev EvQ EvS EvH
def strconv_FormatUint_S (f : Int → Int → Option ByteArray) : Prop := ∀ (w0 : World) (I0 : Nat → Prop) (tb : Tb w0 I0 1 .u64 pow10) (x_0 : Int) (x_1 : Int) (hI : ∀ g, I0 g → g < w0.heap.size) (r : ByteArray), f x_0 x_1 = some r →
    Ret Tryz.prog 58 #[(.int .u64 x_0), (.int .i64 x_1)] w0 fun v w1 => v = (.string r) ∧ Ch [] w0 w1

open Go.Sort in
theorem fmt_zero (w : World) (nd : Nat) (hs : nd ≤ 24) : Holds (fun (b : UInt8) => Value.int .u8 (b.toNat : Int)) (w.alloc (.cells Lib.zeros24 95)) w.heap.size 0 (Array.replicate nd (0 : UInt8)) := fun j hj => by
  have hj' : j < nd := by simpa using hj
  refine ⟨?_, World.frozen?_alloc_new _ _ _ _⟩
  rw [World.cell?_alloc_new, Lib.zeros24_at _ (by omega), getElem!_pos _ j hj]
  simp
open Go.Sort in
theorem fmt_below (w : World) (o : Obj) (dk : Array UInt8) (k : Nat) : Below w.heap.size w ((putRow (fun (b : UInt8) => Value.int .u8 (b.toNat : Int)) (w.alloc o) w.heap.size 0 dk).drewN k) := by
  have h1 : Below w.heap.size w (putRow (fun (b : UInt8) => Value.int .u8 (b.toNat : Int)) (w.alloc o) w.heap.size 0 dk) := by
    refine ⟨rfl, rfl, rfl, by rw [size_putRow]; exact (Below.alloc (Below.refl w.heap.size w) (Nat.le_refl _) o).size, fun g hg => ?_⟩
    rw [← Below.heap_alloc w o g hg]
    unfold putRow mapBlock
    dsimp only
    rw [Array.getElem?_modify, if_neg (by omega)]
  refine ⟨?_, ?_, ?_, ?_, ?_⟩
  · exact h1.os
  · exact h1.tape
  · exact h1.output
  · exact h1.size
  · exact h1.block
set_option maxHeartbeats 6400000 in
set_option maxRecDepth 100000 in
theorem fmt_big (u : Nat) (h100 : 100 ≤ u) (hu64 : u < 18446744073709551616) (w : World) (htab : Lib.TabIs Tryz.prog w "internal/strconv.uint64pow10" .u64 Lib.pow10Tab) :
    Calls Tryz.prog 74 #[.int .u64 u, .int .i64 10] w fun e w' => e = .returned (.string ⟨(Lib.decDigits u).toArray⟩) ∧ Below w.heap.size w w' := by
  have hu1 : 1 ≤ u := by omega
  have hnd20 : Lib.nDigits u ≤ 20 := by have := Lib.numDigits_eq u hu1 hu64; split at this <;> omega
  have hb3 : Lib.nDigits u ≤ 24 := by omega
  have hal : Tryz.prog.arrayLen 95 = 24 := by simp [Program.arrayLen, Tryz.underlying95]
  have hsl : ∀ W, (Instr.sliceAt 95 (.pointer (some ⟨w.heap.size, 0, none⟩)) none (some (.int .i64 (Lib.nDigits u : Int))) none).run Tryz.prog W = .ok (.slice (some ⟨w.heap.size, 0, none⟩) (Lib.nDigits u) 24) W := fun W => by
    rw [run_sliceAt_array_h W 95 ⟨w.heap.size, 0, none⟩ (by simp [Program.arrayLen, Program.elem, Tryz.underlying95]) .i64 (Lib.nDigits u : Int) (by omega) (by rw [hal]; omega)]
    go_simp
  have hH0 := fmt_zero w (Lib.nDigits u) (by omega)
  have hfmt := sh_internal_strconv_formatBase10 w.heap.size 0 24 u (Array.replicate (Lib.nDigits u) 0) (w.alloc (.cells Lib.zeros24 95)) hH0 (by rw [Array.size_replicate]; exact Lib.lt_pow_nDigits u) hu64 (by rw [Array.size_replicate]; omega)
  rw [Array.size_replicate] at hfmt
  have HH0 := Lib.hid hH0
  clear hH0 hal
  go_enter Tryz.func74, Tryz.ntmps74
  go_wp2_with (first
    | (go_at_call 92; refine (sh_internal_strconv_numDigits u hu1 hu64 _ (Lib.tabIs_alloc htab _)).mono ?_; rintro e w' ⟨rfl, rfl⟩))
  go_at_call 93
  refine hfmt.mono ?_
  rintro e w' ⟨rfl, k, v', dk, rfl, hF⟩
  have hcv : (convert 70 9 (.slice (some ⟨w.heap.size, 0, none⟩) (Lib.nDigits u) 24)).run Tryz.prog ((Go.Sort.putRow (fun (b : UInt8) => Value.int .u8 (b.toNat : Int)) (w.alloc (.cells Lib.zeros24 95)) w.heap.size 0 dk).drewN k) = .ok (.string ⟨(Lib.decDigits u).toArray⟩) ((Go.Sort.putRow (fun (b : UInt8) => Value.int .u8 (b.toNat : Int)) (w.alloc (.cells Lib.zeros24 95)) w.heap.size 0 dk).drewN k) := by
    have h := run_convert_bytes_back (P := Tryz.prog) ((Go.Sort.putRow (fun (b : UInt8) => Value.int .u8 (b.toNat : Int)) (w.alloc (.cells Lib.zeros24 95)) w.heap.size 0 dk).drewN k) 70 9 5 ⟨w.heap.size, 0, none⟩ 24 (Lib.decDigits u) Tryz.underlying70 Tryz.underlying5 Tryz.underlying9 (fun j hj => by
      rw [Lib.row_is_numeral hF j hj, Lib.add_plain, World.cell?_drewN]
      exact Go.Sort.cell?_putRow (fun (b : UInt8) => Value.int .u8 (b.toNat : Int)) _ w.heap.size 0 _ dk HH0.out (by rw [hF.size, Array.size_replicate]) j (by rw [hF.size]; rw [Lib.decDigits_length] at hj; exact hj))
    rw [Lib.decDigits_length] at h
    exact h
  go_wp2
  go_ret
  exact ⟨rfl, fmt_below w _ dk k⟩
theorem fmt_inner (u : Nat) (hu64 : u < 18446744073709551616) (w : World) (htab : Lib.TabIs Tryz.prog w "internal/strconv.uint64pow10" .u64 Lib.pow10Tab) :
    Calls Tryz.prog 74 #[.int .u64 u, .int .i64 10] w fun e w' => e = .returned (.string ⟨(Lib.decDigits u).toArray⟩) ∧ Below w.heap.size w w' := by
  by_cases h100 : u < 100
  · go_enter Tryz.func74, Tryz.ntmps74
    go_wp2_with (first
      | (go_at_call 91; refine (sh_internal_strconv_small u h100 _).mono ?_; rintro e w' ⟨rfl, rfl⟩))
    go_ret
    exact ⟨rfl, Below.refl _ _⟩
  · exact fmt_big u (by omega) hu64 w htab
theorem strconv_FormatUint_ok (n : Nat) : strconv_FormatUint_S (strconv_FormatUint n) := by
  intro w0 I0 tb x b hI r h
  obtain ⟨rfl, ⟨u, rfl, hu⟩, rfl⟩ := fmtU_some h
  have htab : Lib.TabIs Tryz.prog w0 "internal/strconv.uint64pow10" .u64 Lib.pow10Tab := tb.tab (zs := Lib.pow10Tab) (by kernel_rfl)
  apply ret_below
  go_enter Tryz.func58, Tryz.ntmps58
  go_wp2_with (first
    | (go_at_call 74; refine (fmt_inner u hu _ htab).mono ?_; rintro e w' ⟨rfl, hb⟩))
  go_ret
  exact ⟨rfl, hb⟩

end Go.Proofs.YthhghkcopfnbiaaGreatDoor

namespace Go.Proofs.YthhghkcopfnbiaaGreatDoor
open Go Go.Proofs.YthhghkcopfnbiaaGreatDoor.Gw Go.RowKit
set_option linter.unusedVariables false
attribute [local irreducible] Ev EvQ EvS EvH
end Go.Proofs.YthhghkcopfnbiaaGreatDoor

namespace Go.Proofs.YthhghkcopfnbiaaGreatDoor
open Go Go.Proofs.YthhghkcopfnbiaaGreatDoor.Gw Go.RowKit
set_option linter.unusedVariables false
attribute [local irreducible] Ev EvQ EvS EvH
end Go.Proofs.YthhghkcopfnbiaaGreatDoor

namespace Go.Proofs.YthhghkcopfnbiaaGreatDoor
open Go Go.Proofs.YthhghkcopfnbiaaGreatDoor.Gw Go.RowKit
set_option linter.unusedVariables false
attribute [local irreducible] Ev EvQ EvS EvH
end Go.Proofs.YthhghkcopfnbiaaGreatDoor

namespace Go.Proofs.YthhghkcopfnbiaaGreatDoor
open Go Go.Proofs.YthhghkcopfnbiaaGreatDoor.Gw Go.RowKit
set_option linter.unusedVariables false
attribute [local irreducible] Ev EvQ EvS EvH
def stringslite_HasPrefix_S (f : ByteArray → ByteArray → Option Bool) : Prop := ∀ (w0 : World) (I0 : Nat → Prop) (x_0 : ByteArray) (x_1 : ByteArray) (hI : ∀ g, I0 g → g < w0.heap.size) (r : Bool), f x_0 x_1 = some r →
    Ret Tryz.prog 97 #[(.string x_0), (.string x_1)] w0 fun v w1 => v = (.bool r) ∧ Ch [] w0 w1
theorem stringslite_HasPrefix_ok (n : Nat) : stringslite_HasPrefix_S (stringslite_HasPrefix n) := by
  intro w0 I0 x_0 x_1 hI r h
  unfold stringslite_HasPrefix at h
  refine enter Tryz.func97 rfl (Nat.le_of_ble_eq_true rfl) ?_
  have hp : Hp ⟨w0, I0, []⟩ I0 [] w0 := Hp.start hI
  apply go
  apply go
  obtain ⟨y_2, q_3, h⟩ := bind_some h
  refine W.cut (γ := Bool) (fun g => [(4, (.bool (g)))]) (fun g w' => y_2 = (g) ∧ w0 = w') ?_ ?_
  ·
    apply go
    refine ev0 (rn_lenS rfl rfl Tryz.underlying9) ?_
    refine ev0 (rn_lenS rfl rfl Tryz.underlying9) ?_
    refine sel_of (fun hc => ?_) (fun hc => ?_)
    ·
      have q_3 := cond_t q_3 hc
      refine ev0 (rn_lenS rfl rfl Tryz.underlying9) ?_
      obtain ⟨x_4, q_5, q_3⟩ := bind_some q_3
      refine ev0 (rn_sliceStr (kl := .i64) (kh := .i64) rfl rfl rfl rfl Tryz.underlying9 q_5) ?_
      obtain rfl := Option.some.inj q_3
      exact ⟨(x_4.toList == x_1.toList), (.c rfl .n), rfl, rfl⟩
    ·
      have q_3 := cond_f q_3 hc
      obtain rfl := Option.some.inj q_3
      exact ⟨false, (.c rfl .n), rfl, rfl⟩
  ·
    rintro x_6 _ ⟨hy, rfl⟩
    replace hy := hy.symm
    subst hy
    apply go
    obtain rfl := Option.some.inj h
    exact ⟨rfl, hp.ch⟩

end Go.Proofs.YthhghkcopfnbiaaGreatDoor

namespace Go.Proofs.YthhghkcopfnbiaaGreatDoor
open Go Go.Proofs.YthhghkcopfnbiaaGreatDoor.Gw Go.RowKit
set_option linter.unusedVariables false
attribute [local irreducible] Ev EvQ EvS EvH
end Go.Proofs.YthhghkcopfnbiaaGreatDoor

namespace Go.Proofs.YthhghkcopfnbiaaGreatDoor
open Go Go.Proofs.YthhghkcopfnbiaaGreatDoor.Gw Go.RowKit
set_option linter.unusedVariables false
attribute [local irreducible] Ev EvQ EvS EvH
def strings_Repeat_S (f : ByteArray → Int → Option ByteArray) : Prop := ∀ (w0 : World) (I0 : Nat → Prop) (x_0 : ByteArray) (x_1 : Int) (hI : ∀ g, I0 g → g < w0.heap.size) (r : ByteArray), f x_0 x_1 = some r →
    Ret Tryz.prog 59 #[(.string x_0), (.int .i64 x_1)] w0 fun v w1 => v = (.string r) ∧ Ch [] w0 w1

theorem strings_Repeat_ok (n : Nat) : strings_Repeat_S (strings_Repeat n) := by
  intro w0 I0 s c hI r h
  obtain ⟨⟨k, rfl, hk⟩, hs, rfl⟩ := repS_some h
  have hm : s.size * k ≤ 1000000 * 1000000 := Nat.mul_le_mul hs hk
  exact ret_below (sh_strings_Repeat s k w0 (by omega) (by omega))

end Go.Proofs.YthhghkcopfnbiaaGreatDoor

namespace Go.Proofs.YthhghkcopfnbiaaGreatDoor
open Go Go.Proofs.YthhghkcopfnbiaaGreatDoor.Gw Go.RowKit
set_option linter.unusedVariables false
attribute [local irreducible] Ev EvQ EvS EvH vch
def slices_Reversestring_string__S (f : (List ByteArray) → Option (List ByteArray)) : Prop := ∀ (w0 : World) (I0 : Nat → Prop) (x_0 : (List ByteArray)) (v_1 : Value) (e_2 : Ent) (o_3 : OwnS dS 9 w0 I0 v_1 e_2 x_0) (hp : Hp ⟨w0, I0, (blk e_2)⟩ I0 [e_2] w0) (r : (List ByteArray)), f x_0 = some r →
    Ret Tryz.prog 60 #[v_1] w0 fun v w1 => ∃ (I1 : Nat → Prop) (u_4 : Ent), v = (.tuple #[]) ∧ Hp ⟨w0, I0, (blk e_2)⟩ I1 [u_4] w1 ∧ OwnS dS 9 w1 I1 v_1 u_4 r ∧ blk u_4 = blk e_2
theorem slices_Reversestring_string__ok (n : Nat) : slices_Reversestring_string__S (slices_Reversestring_string_ n) := by
  intro w0 I0 x_0 v_1 e_2 o_3 hp r h
  unfold slices_Reversestring_string_ at h
  refine enter Tryz.func60 rfl (Nat.le_of_ble_eq_true rfl) ?_
  have o20320z := o_3
  apply go
  apply go
  refine ev0 (x_lenO rfl rfl Tryz.underlying56 o_3) ?_
  apply go
  refine W.loop h (γ := Ent) (fun s g => [(0, v_1), (2, (.int .i64 (s.2.1))), (3, (.int .i64 (s.2.2)))]) (fun s g w' => Hp ⟨w0, I0, (blk e_2)⟩ I0 [(g)] w' ∧ OwnS dS 9 w' I0 v_1 (g) (s.1)) e_2 (.c rfl (.c rfl (.c rfl .n))) ⟨hp, o_3⟩ ?_
  rintro ⟨x_4, x_5, x_6⟩ e_7 w_8 y_9 ⟨hp, o_a⟩ q_b q_c
  unfold slices_Reversestring_string__L0 at q_b
  apply go
  apply go
  apply go
  apply go
  refine sel_of (fun hc => ?_) (fun hc => ?_)
  ·
    have q_b := cond_t q_b hc
    apply go
    obtain ⟨y_d, q_e, q_b⟩ := bind_some q_b
    refine W.cut (γ := ((List ByteArray) × Ent)) (fun g => [(0, v_1), (2, (.int .i64 x_5)), (3, (.int .i64 x_6))]) (fun g w' => y_d = (g.1) ∧ Hp ⟨w0, I0, (blk e_2)⟩ I0 [(g.2)] w' ∧ OwnS dS 9 w' I0 v_1 (g.2) (g.1)) ?_ ?_
    ·
      apply go
      have hs := hp.stp (Ch.drew [] w_8)
      have hp := hp.drew
      replace o_a := o_a.step hs
      refine W.heldG (.q 0 (.q 1 (.q 2 (.q 3 (.q 4 (.q 5 (.q 6 (.q 8 (.q 9 (.q 10 (.l 7 (.l 11 (.q 12 (.l 13 (.q 14 (.l 15 .done .no)) .no)) .no) (.l 11 (.l 7 (.q 12 (.l 13 (.q 14 (.l 15 .done .no)) .no)) .no) .no)))))))))))) (SK (Stp I0 w_8.drew I0) [] []) MX (by kernel_rfl) ⟨Stp.refl _ _, kp_nil⟩ ?_
      have hz := Stp.refl I0 w_8.drew
      refine ⟨SK.same (by kernel_rfl), ?_⟩
      refine ⟨SK.same (by kernel_rfl), ?_⟩
      refine ⟨SK.same (by kernel_rfl), ?_⟩
      refine ⟨SK.same (by kernel_rfl), ?_⟩
      refine ⟨SK.same (by kernel_rfl), ?_⟩
      refine ⟨SK.same (by kernel_rfl), ?_⟩
      refine ⟨SK.same (by kernel_rfl), ?_⟩
      obtain ⟨x_f, q_g, q_e⟩ := bind_some q_e
      refine evh_indexO rfl rfl rfl Tryz.underlying56 T9 o_a q_g ?_
      intro g_h c_i h_j d_k l_l
      refine ⟨SK.same (by kernel_rfl), ?_⟩
      refine ⟨SK.same (by kernel_rfl), ?_⟩
      refine ⟨SK.same (by kernel_rfl), ?_⟩
      obtain ⟨x_m, q_n, q_e⟩ := bind_some q_e
      refine evh_indexO rfl rfl rfl Tryz.underlying56 T9 o_a q_n ?_
      intro g_o c_p h_q d_r l_s
      refine ⟨?_, ?_⟩
      ·
        refine ev (rn_load rfl rfl (run_loadVar1 T9 (hp.cellE (i := 0) rfl h_j d_k (j := 0) rfl))) ?_
        refine ⟨SK (Stp I0 w_8.drew I0) [] [], ⟨Stp.refl _ _, kp_nil⟩, fun L x h => ⟨hz.held h.1, h.2⟩, ?_⟩
        have hz := Stp.refl I0 w_8.drew
        refine ⟨?_, trivial⟩
        refine ev (rn_load rfl rfl (run_loadVar1 T9 (hp.cellE (i := 0) rfl h_q d_r (j := 0) rfl))) ?_
        refine ⟨SK (Stp I0 w_8.drew I0) [] [], ⟨Stp.refl _ _, kp_nil⟩, fun L x h => ⟨hz.held h.1, h.2⟩, ?_⟩
        have hz := Stp.refl I0 w_8.drew
        refine ⟨SK.same (by kernel_rfl), ?_⟩
        obtain ⟨x_t, q_u, q_e⟩ := bind_some q_e
        refine evh_indexO rfl rfl rfl Tryz.underlying56 T9 o_a q_u ?_
        intro g_v c_w h_x d_y l_z
        refine ⟨?_, trivial⟩
        refine ev_storeE hp (i := 0) rfl h_x rfl rfl rfl T9 o_a q_u (x0 := x_f) rfl ?_
        intro e_10 w_11 hp hs o_12
        replace hz := hz.trans hs
        refine ⟨SK (Stp I0 w_11 I0) [] [], ⟨Stp.refl _ _, kp_nil⟩, fun L x h => ⟨hz.held h.1, h.2⟩, ?_⟩
        have hz := Stp.refl I0 w_11
        refine ⟨SK.same (by kernel_rfl), ?_⟩
        obtain ⟨x_13, q_14, q_e⟩ := bind_some q_e
        refine evh_indexO rfl rfl rfl Tryz.underlying56 T9 o_12 q_14 ?_
        intro g_15 c_16 h_17 d_18 l_19
        refine ⟨?_, trivial⟩
        refine ev_storeE hp (i := 0) rfl h_17 rfl rfl rfl T9 o_12 q_14 (x0 := x_m) rfl ?_
        intro e_1a w_1b hp hs o_1c
        replace hz := hz.trans hs
        refine ⟨SK (Stp I0 w_1b I0) [] [], ⟨Stp.refl _ _, kp_nil⟩, fun L x h => ⟨hz.held h.1, h.2⟩, ?_⟩
        have hz := Stp.refl I0 w_1b
        obtain rfl := Option.some.inj q_e
        exact ⟨((upd (upd x_4 x_5 x_f) x_6 x_m), e_1a), (.c rfl (.c rfl (.c rfl .n))), rfl, hp, o_1c⟩
      refine ⟨?_, trivial⟩
      refine ev (rn_load rfl rfl (run_loadVar1 T9 (hp.cellE (i := 0) rfl h_q d_r (j := 0) rfl))) ?_
      refine ⟨SK (Stp I0 w_8.drew I0) [] [], ⟨Stp.refl _ _, kp_nil⟩, fun L x h => ⟨hz.held h.1, h.2⟩, ?_⟩
      have hz := Stp.refl I0 w_8.drew
      refine ⟨?_, trivial⟩
      refine ev (rn_load rfl rfl (run_loadVar1 T9 (hp.cellE (i := 0) rfl h_j d_k (j := 0) rfl))) ?_
      refine ⟨SK (Stp I0 w_8.drew I0) [] [], ⟨Stp.refl _ _, kp_nil⟩, fun L x h => ⟨hz.held h.1, h.2⟩, ?_⟩
      have hz := Stp.refl I0 w_8.drew
      refine ⟨SK.same (by kernel_rfl), ?_⟩
      obtain ⟨x_1d, q_1e, q_e⟩ := bind_some q_e
      refine evh_indexO rfl rfl rfl Tryz.underlying56 T9 o_a q_1e ?_
      intro g_1f c_1g h_1h d_1i l_1j
      refine ⟨?_, trivial⟩
      refine ev_storeE hp (i := 0) rfl h_1h rfl rfl rfl T9 o_a q_1e (x0 := x_f) rfl ?_
      intro e_1k w_1l hp hs o_1m
      replace hz := hz.trans hs
      refine ⟨SK (Stp I0 w_1l I0) [] [], ⟨Stp.refl _ _, kp_nil⟩, fun L x h => ⟨hz.held h.1, h.2⟩, ?_⟩
      have hz := Stp.refl I0 w_1l
      refine ⟨SK.same (by kernel_rfl), ?_⟩
      obtain ⟨x_1n, q_1o, q_e⟩ := bind_some q_e
      refine evh_indexO rfl rfl rfl Tryz.underlying56 T9 o_1m q_1o ?_
      intro g_1p c_1q h_1r d_1s l_1t
      refine ⟨?_, trivial⟩
      refine ev_storeE hp (i := 0) rfl h_1r rfl rfl rfl T9 o_1m q_1o (x0 := x_m) rfl ?_
      intro e_1u w_1v hp hs o_1w
      replace hz := hz.trans hs
      refine ⟨SK (Stp I0 w_1v I0) [] [], ⟨Stp.refl _ _, kp_nil⟩, fun L x h => ⟨hz.held h.1, h.2⟩, ?_⟩
      have hz := Stp.refl I0 w_1v
      obtain rfl := Option.some.inj q_e
      exact ⟨((upd (upd x_4 x_5 x_f) x_6 x_m), e_1u), (.c rfl (.c rfl (.c rfl .n))), rfl, hp, o_1w⟩
    ·
      rintro ⟨x_1x, e_1y⟩ w_1z ⟨hy, hp, o_20⟩
      replace hy := hy.symm
      subst hy
      apply go
      exact ⟨_, (Option.some.inj q_b).symm, e_1y, (.c rfl (.c rfl (.c rfl .n))), ⟨hp, o_20⟩⟩
  ·
    have q_b := cond_f q_b hc
    apply go
    have q_21 := congrArg some (q_c _ (Option.some.inj q_b).symm)
    obtain rfl := Option.some.inj q_21
    exact ⟨I0, e_7, rfl, hp, o_a, (OwnS.blk o20320z o_a)⟩

end Go.Proofs.YthhghkcopfnbiaaGreatDoor

namespace Go.Proofs.YthhghkcopfnbiaaGreatDoor
open Go Go.Proofs.YthhghkcopfnbiaaGreatDoor.Gw Go.RowKit
set_option linter.unusedVariables false
attribute [local irreducible] Ev EvQ EvS EvH
def strings_Join_S (f : (List ByteArray) → ByteArray → Option ByteArray) : Prop := ∀ (w0 : World) (I0 : Nat → Prop) (x_0 : (List ByteArray)) (v_1 : Value) (r_2 : RepS dS w0 I0 v_1 x_0) (x_3 : ByteArray) (hI : ∀ g, I0 g → g < w0.heap.size) (r : ByteArray), f x_0 x_3 = some r →
    Ret Tryz.prog 61 #[v_1, (.string x_3)] w0 fun v w1 => v = (.string r) ∧ Ch [] w0 w1

theorem strings_Join_ok (n : Nat) : strings_Join_S (strings_Join n) := by
  intro w0 I0 xs v hr sep hI r h
  obtain ⟨hN, hL, rfl⟩ := joinS_some h
  rcases Nat.eq_zero_or_pos xs.length with h0 | h0
  · obtain rfl := List.eq_nil_of_length_eq_zero h0
    obtain ⟨a, c, rfl, _, _⟩ := hr
    exact ret_same (sh_strings_Join_none a c sep w0)
  · obtain ⟨b, o, c, rfl, hc, hb, hcells⟩ := hr.strs h0
    exact ret_below (sh_strings_Join b o c xs sep w0 hcells (hI b hb) hN hc hL)

end Go.Proofs.YthhghkcopfnbiaaGreatDoor

namespace Go.Proofs.YthhghkcopfnbiaaGreatDoor
open Go Go.Proofs.YthhghkcopfnbiaaGreatDoor.Gw Go.RowKit
set_option linter.unusedVariables false
attribute [local irreducible] Ev EvQ EvS EvH
def integer_Text_S (f : Int_2 → Option ByteArray) : Prop := ∀ (w0 : World) (I0 : Nat → Prop) (tb : Tb w0 I0 1 .u64 pow10) (x_0 : Int_2) (v_1 : Value) (r_2 : RepS (dI .u32) w0 I0 v_1 x_0.Mag) (hI : ∀ g, I0 g → g < w0.heap.size) (r : ByteArray), f x_0 = some r →
    Ret Tryz.prog 25 #[(.agg #[(.bool x_0.Neg), v_1])] w0 fun v w1 => v = (.string r) ∧ Ch [] w0 w1
theorem integer_Text_ok (n : Nat) : integer_Text_S (integer_Text n) := by
  intro w0 I0 tb x_0 v_1 r_2 hI r h
  unfold integer_Text at h
  refine enter Tryz.func25 rfl (Nat.le_of_ble_eq_true rfl) ?_
  have hp : Hp ⟨w0, I0, []⟩ I0 [] w0 := Hp.start hI
  apply go
  apply go
  refine ev_boxI hp rfl rfl ?_
  intro p_3 I_4 w_5 hp hs a_6
  replace r_2 := r_2.step hs
  replace tb := tb.step hs
  apply go
  apply go
  refine ev0 (rn_field rfl rfl FO24_1) ?_
  refine ev (rn_load rfl rfl (run_loadVar1 T22 (a_6.2 1 _ rfl))) ?_
  obtain ⟨x_7, q_8, h⟩ := bind_some h
  refine ev_call rfl rfl C46 (((integer_trim_ok n) _ _  x_0.Mag v_1 r_2 hp.imm _ q_8).mono ?_)
  rintro _ w_9 ⟨I_a, v_b, hv, hq, r_c⟩
  replace hv := hv.symm
  subst hv
  have hs := hq.st
  have hp := hp.join0 hq
  replace a_6 := a_6.step hs
  replace r_2 := r_2.step hs
  replace tb := tb.step hs
  obtain ⟨x_d, q_e, h⟩ := bind_some h
  refine ev_call rfl rfl C56 (((slices_Cloneuint32_uint32__ok n) _ _  x_7 v_b r_c hp.imm _ q_e).mono ?_)
  rintro _ w_f ⟨I_g, v_h, hv, hq, r_i⟩
  replace hv := hv.symm
  subst hv
  have hs := hq.st
  have hp := hp.join0 hq
  replace a_6 := a_6.step hs
  replace r_2 := r_2.step hs
  replace tb := tb.step hs
  apply go
  apply go
  apply go
  refine ev0 (rn_len rfl rfl Tryz.underlying22 r_i) ?_
  apply go
  refine sel_of (fun hc => ?_) (fun hc => ?_)
  ·
    have h := cond_t h hc
    apply go
    apply go
    apply go
    obtain rfl := Option.some.inj h
    exact ⟨rfl, hp.ch⟩
  ·
    have h := cond_f h hc
    apply go
    apply go
    apply go
    obtain ⟨y_j, q_k, h⟩ := bind_some h
    refine W.cut (γ := ((List ByteArray) × Value × Ent × (Nat → Prop))) (fun g => [(1, (.pointer (some (p_3)))), (4, (g.2.1))]) (fun g w' => y_j = (g.1) ∧ Hp ⟨w0, I0, []⟩ (g.2.2.2) [(g.2.2.1)] w' ∧ RepS (dI .u32) w' (g.2.2.2) v_1 x_0.Mag ∧ At w' (g.2.2.2) p_3 [(.bool x_0.Neg), v_1] ∧ OwnS dS 9 w' (g.2.2.2) (g.2.1) (g.2.2.1) (g.1) ∧ Tb w' (g.2.2.2) 1 .u64 pow10) ?_ ?_
    ·
      apply go
      have hp := hp.none_
      have o_l := OwnS.nil dS 9 w_f I_g
      refine W.loop q_k (γ := (Value × Value × Ent × (Nat → Prop))) (fun s g => [(1, (.pointer (some (p_3)))), (3, (g.1)), (4, (g.2.1))]) (fun s g w' => Hp ⟨w0, I0, []⟩ (g.2.2.2) [(g.2.2.1)] w' ∧ RepS (dI .u32) w' (g.2.2.2) v_1 x_0.Mag ∧ At w' (g.2.2.2) p_3 [(.bool x_0.Neg), v_1] ∧ RepS (dI .u32) w' (g.2.2.2) (g.1) (s.1) ∧ OwnS dS 9 w' (g.2.2.2) (g.2.1) (g.2.2.1) (s.2) ∧ Tb w' (g.2.2.2) 1 .u64 pow10) (v_h, (.slice none 0 0), none, I_g) (.c rfl (.c rfl (.c rfl .n))) ⟨hp, r_2, a_6, r_i, o_l, tb⟩ ?_
      rintro ⟨x_m, x_n⟩ ⟨v_o, v_p, e_q, I_r⟩ w_s y_t ⟨hp, r_2, a_6, r_u, o_v, tb⟩ q_w q_x
      unfold integer_Text_L1 at q_w
      apply go
      apply go
      apply go
      refine ev0 (rn_len rfl rfl Tryz.underlying22 r_u) ?_
      apply go
      refine sel_of (fun hc => ?_) (fun hc => ?_)
      ·
        have q_w := cond_t q_w hc
        apply go
        apply go
        apply go
        apply go
        apply go
        apply go
        obtain ⟨⟨x_y, x_z⟩, q_10, q_w⟩ := bind_some q_w
        refine ev_call rfl rfl C57 (((integer_short_ok n) _ _  x_m v_o r_u 1000000000 hp.imm _ q_10).mono ?_)
        rintro _ w_11 ⟨I_12, v_13, hv, hq, r_14⟩
        replace hv := hv.symm
        subst hv
        have hs := hq.st
        have hp := hp.join0 hq
        replace a_6 := a_6.step hs
        replace r_2 := r_2.step hs
        replace o_v := o_v.step hs
        replace tb := tb.step hs
        apply go
        apply go
        obtain ⟨x_15, q_16, q_w⟩ := bind_some q_w
        refine ev_call rfl rfl C46 (((integer_trim_ok n) _ _  x_y v_13 r_14 hp.imm _ q_16).mono ?_)
        rintro _ w_17 ⟨I_18, v_19, hv, hq, r_1a⟩
        replace hv := hv.symm
        subst hv
        have hs := hq.st
        have hp := hp.join0 hq
        replace a_6 := a_6.step hs
        replace r_2 := r_2.step hs
        replace o_v := o_v.step hs
        replace tb := tb.step hs
        apply go
        apply go
        refine ev0 (rn_conv rfl rfl U45 Tryz.underlying49) ?_
        obtain ⟨x_1b, q_1c, q_w⟩ := bind_some q_w
        refine ev_call rfl rfl C58 (((strconv_FormatUint_ok n) _ _ tb (IntKind.u64.wrap x_z) 10 hp.imm _ q_1c).mono ?_)
        rintro _ w_1d ⟨rfl, hc⟩
        have hs := hp.stp hc
        replace hp := hp.ext hc
        replace a_6 := a_6.step hs
        replace r_2 := r_2.step hs
        replace o_v := o_v.step hs
        replace r_1a := r_1a.step hs
        replace tb := tb.step hs
        obtain ⟨y_1e, q_1f, q_w⟩ := bind_some q_w
        refine W.cut (γ := ByteArray) (fun g => [(1, (.pointer (some (p_3)))), (3, v_19), (4, v_p), (6, (.string (g)))]) (fun g w' => y_1e = (g) ∧ Hp ⟨w0, I0, []⟩ I_18 [e_q] w' ∧ RepS (dI .u32) w' I_18 v_1 x_0.Mag ∧ At w' I_18 p_3 [(.bool x_0.Neg), v_1] ∧ RepS (dI .u32) w' I_18 v_19 x_15 ∧ OwnS dS 9 w' I_18 v_p e_q x_n ∧ Tb w' I_18 1 .u64 pow10) ?_ ?_
        ·
          apply go
          apply go
          refine ev0 (rn_len rfl rfl Tryz.underlying22 r_1a) ?_
          apply go
          refine sel_of (fun hc => ?_) (fun hc => ?_)
          ·
            have q_1f := cond_t q_1f hc
            apply go
            refine ev0 (rn_lenS rfl rfl Tryz.underlying9) ?_
            obtain ⟨x_1g, q_1h, q_1f⟩ := bind_some q_1f
            refine ev_call rfl rfl C59 (((strings_Repeat_ok n) _ _  (ByteArray.mk #[48]) (IntKind.i64.wrap (9 - (x_1b.size : Int))) hp.imm _ q_1h).mono ?_)
            rintro _ w_1i ⟨rfl, hc⟩
            have hs := hp.stp hc
            replace hp := hp.ext hc
            replace a_6 := a_6.step hs
            replace r_2 := r_2.step hs
            replace o_v := o_v.step hs
            replace r_1a := r_1a.step hs
            replace tb := tb.step hs
            obtain ⟨q_1j, _, q_1f⟩ := need_some q_1f
            refine ⟨q_1j, ?_⟩
            obtain rfl := Option.some.inj q_1f
            exact ⟨(x_1g ++ x_1b), (.c rfl (.c rfl (.c rfl (.c rfl .n)))), rfl, hp, r_2, a_6, r_1a, o_v, tb⟩
          ·
            have q_1f := cond_f q_1f hc
            apply go
            obtain rfl := Option.some.inj q_1f
            exact ⟨x_1b, (.c rfl (.c rfl (.c rfl (.c rfl .n)))), rfl, hp, r_2, a_6, r_1a, o_v, tb⟩
        ·
          rintro x_1k w_1l ⟨hy, hp, r_2, a_6, r_1a, o_v, tb⟩
          replace hy := hy.symm
          subst hy
          apply go
          refine ev_litN (d := dS) (xs := [x_1k]) (cs := [(.string x_1k)]) hp rfl rfl Tryz.underlying56 T9 (by decide) rfl rfl (Elems.cons (d := dS) (xs := _) rfl (Elems.nil _ _ _ _)) ?_
          intro v_1m I_1n w_1o hp hs r_1p
          replace a_6 := a_6.step hs
          replace r_2 := r_2.step hs
          replace r_1a := r_1a.step hs
          replace o_v := o_v.step hs
          replace tb := tb.step hs
          obtain ⟨x_1q, q_1r, q_w⟩ := bind_some q_w
          refine ev_append hp (i := 0) rfl rfl rfl rfl Tryz.underlying56 T9 rfl rfl o_v r_1p q_1r ?_
          rintro v_1s e_1t w_1u hp hs o_1v
          replace a_6 := a_6.step hs
          replace r_2 := r_2.step hs
          replace r_1a := r_1a.step hs
          replace tb := tb.step hs
          exact ⟨_, (Option.some.inj q_w).symm, (v_19, v_1s, e_1t, I_1n), (.c rfl (.c rfl (.c rfl .n))), ⟨hp, r_2, a_6, r_1a, o_1v, tb⟩⟩
      ·
        have q_w := cond_f q_w hc
        apply go
        have q_1w := congrArg some (q_x _ (Option.some.inj q_w).symm)
        obtain rfl := Option.some.inj q_1w
        exact ⟨(x_n, v_p, e_q, I_r), (.c rfl (.c rfl .n)), rfl, hp, r_2, a_6, o_v, tb⟩
    ·
      rintro ⟨x_1x, v_1y, e_1z, I_20⟩ w_21 ⟨hy, hp, r_2, a_6, o_22, tb⟩
      replace hy := hy.symm
      subst hy
      obtain ⟨y_23, q_24, h⟩ := bind_some h
      refine W.cut (γ := ((List ByteArray) × Value × Ent × (Nat → Prop))) (fun g => [(4, (g.2.1))]) (fun g w' => y_23 = (g.1) ∧ Hp ⟨w0, I0, []⟩ (g.2.2.2) [(g.2.2.1)] w' ∧ OwnS dS 9 w' (g.2.2.2) (g.2.1) (g.2.2.1) (g.1) ∧ Tb w' (g.2.2.2) 1 .u64 pow10) ?_ ?_
      ·
        apply go
        apply go
        refine ev0 (rn_field rfl rfl FO24_0) ?_
        refine ev (rn_load rfl rfl (run_loadVar1 T4 (a_6.2 0 _ rfl))) ?_
        apply go
        refine sel_of (fun hc => ?_) (fun hc => ?_)
        ·
          have q_24 := cond_t q_24 hc
          apply go
          refine ev_litN (d := dS) (xs := [(ByteArray.mk #[45])]) (cs := [(.string (ByteArray.mk #[45]))]) hp rfl rfl Tryz.underlying56 T9 (by decide) rfl rfl (Elems.cons (d := dS) (xs := _) rfl (Elems.nil _ _ _ _)) ?_
          intro v_25 I_26 w_27 hp hs r_28
          replace o_22 := o_22.step hs
          replace tb := tb.step hs
          obtain ⟨x_29, q_2a, q_24⟩ := bind_some q_24
          refine ev_append hp (i := 0) rfl rfl rfl rfl Tryz.underlying56 T9 rfl rfl o_22 r_28 q_2a ?_
          rintro v_2b e_2c w_2d hp hs o_2e
          replace tb := tb.step hs
          obtain rfl := Option.some.inj q_24
          exact ⟨(x_29, v_2b, e_2c, I_26), (.c rfl .n), rfl, hp, o_2e, tb⟩
        ·
          have q_24 := cond_f q_24 hc
          apply go
          obtain rfl := Option.some.inj q_24
          exact ⟨(x_1x, v_1y, e_1z, I_20), (.c rfl .n), rfl, hp, o_22, tb⟩
      ·
        rintro ⟨x_2f, v_2g, e_2h, I_2i⟩ w_2j ⟨hy, hp, o_2k, tb⟩
        replace hy := hy.symm
        subst hy
        apply go
        apply go
        obtain ⟨x_2l, q_2m, h⟩ := bind_some h
        refine ev_call rfl rfl C60 (((slices_Reversestring_string__ok n) _ _  x_2f v_2g e_2h o_2k (hp.lend (i := 0) rfl) _ q_2m).mono ?_)
        rintro _ w_2n ⟨I_2o, e_2p, hv, hq, o_2q, hsame⟩
        replace hv := hv.symm
        subst hv
        have hs := hq.st
        have hp := hp.backO (i := 0) rfl hq hsame
        replace tb := tb.step hs
        apply go
        apply go
        have r_2r := o_2q.frz hp (i := 0) rfl
        obtain ⟨hp, hs⟩ := freeze_hp hp (i := 0) rfl
        replace tb := tb.step hs
        have hp := hp.sel [] (by decide)
        obtain ⟨x_2s, q_2t, h⟩ := bind_some h
        refine ev_call rfl rfl C61 (((strings_Join_ok n) _ _  x_2l v_2g r_2r (ByteArray.mk #[]) hp.imm _ q_2t).mono ?_)
        rintro _ w_2u ⟨rfl, hc⟩
        have hs := hp.stp hc
        replace hp := hp.ext hc
        replace tb := tb.step hs
        apply go
        obtain rfl := Option.some.inj h
        exact ⟨rfl, hp.ch⟩

end Go.Proofs.YthhghkcopfnbiaaGreatDoor

namespace Go.Proofs.YthhghkcopfnbiaaGreatDoor
open Go Go.Proofs.YthhghkcopfnbiaaGreatDoor.Gw Go.RowKit
set_option linter.unusedVariables false
attribute [local irreducible] Ev EvQ EvS EvH
def stringslite_CutPrefix_S (f : ByteArray → ByteArray → Option (ByteArray × Bool)) : Prop := ∀ (w0 : World) (I0 : Nat → Prop) (x_0 : ByteArray) (x_1 : ByteArray) (hI : ∀ g, I0 g → g < w0.heap.size) (r : (ByteArray × Bool)), f x_0 x_1 = some r →
    Ret Tryz.prog 81 #[(.string x_0), (.string x_1)] w0 fun v w1 => v = (.tuple #[(.string r.1), (.bool r.2)]) ∧ Ch [] w0 w1
theorem stringslite_CutPrefix_ok (n : Nat) : stringslite_CutPrefix_S (stringslite_CutPrefix n) := by
  intro w0 I0 x_0 x_1 hI r h
  unfold stringslite_CutPrefix at h
  refine enter Tryz.func81 rfl (Nat.le_of_ble_eq_true rfl) ?_
  have hp : Hp ⟨w0, I0, []⟩ I0 [] w0 := Hp.start hI
  apply go
  apply go
  apply go
  apply go
  apply go
  obtain ⟨x_2, q_3, h⟩ := bind_some h
  refine ev_call rfl rfl C97 (((stringslite_HasPrefix_ok n) _ _  x_0 x_1 hp.imm _ q_3).mono ?_)
  rintro _ w_4 ⟨rfl, hc⟩
  have hs := hp.stp hc
  replace hp := hp.ext hc
  apply go
  refine sel_of (fun hc => ?_) (fun hc => ?_)
  ·
    have h := cond_t h hc
    apply go
    apply go
    apply go
    obtain rfl := Option.some.inj h
    exact ⟨rfl, hp.ch⟩
  ·
    have h := cond_f h hc
    apply go
    apply go
    apply go
    refine ev0 (rn_lenS rfl rfl Tryz.underlying9) ?_
    obtain ⟨x_5, q_6, h⟩ := bind_some h
    refine ev0 (rn_sliceStr (kl := .i64) (kh := .i64) rfl rfl rfl rfl Tryz.underlying9 q_6) ?_
    apply go
    obtain rfl := Option.some.inj h
    exact ⟨rfl, hp.ch⟩

end Go.Proofs.YthhghkcopfnbiaaGreatDoor

namespace Go.Proofs.YthhghkcopfnbiaaGreatDoor
open Go Go.Proofs.YthhghkcopfnbiaaGreatDoor.Gw Go.RowKit
set_option linter.unusedVariables false
attribute [local irreducible] Ev EvQ EvS EvH
def strings_CutPrefix_S (f : ByteArray → ByteArray → Option (ByteArray × Bool)) : Prop := ∀ (w0 : World) (I0 : Nat → Prop) (x_0 : ByteArray) (x_1 : ByteArray) (hI : ∀ g, I0 g → g < w0.heap.size) (r : (ByteArray × Bool)), f x_0 x_1 = some r →
    Ret Tryz.prog 62 #[(.string x_0), (.string x_1)] w0 fun v w1 => v = (.tuple #[(.string r.1), (.bool r.2)]) ∧ Ch [] w0 w1
theorem strings_CutPrefix_ok (n : Nat) : strings_CutPrefix_S (strings_CutPrefix n) := by
  intro w0 I0 x_0 x_1 hI r h
  unfold strings_CutPrefix at h
  refine enter Tryz.func62 rfl (Nat.le_of_ble_eq_true rfl) ?_
  have hp : Hp ⟨w0, I0, []⟩ I0 [] w0 := Hp.start hI
  apply go
  apply go
  apply go
  apply go
  obtain ⟨⟨x_2, x_3⟩, q_4, h⟩ := bind_some h
  refine ev_call rfl rfl C81 (((stringslite_CutPrefix_ok n) _ _  x_0 x_1 hp.imm _ q_4).mono ?_)
  rintro _ w_5 ⟨rfl, hc⟩
  have hs := hp.stp hc
  replace hp := hp.ext hc
  apply go
  obtain rfl := Option.some.inj h
  exact ⟨rfl, hp.ch⟩

end Go.Proofs.YthhghkcopfnbiaaGreatDoor

namespace Go.Proofs.YthhghkcopfnbiaaGreatDoor
open Go Go.Proofs.YthhghkcopfnbiaaGreatDoor.Gw Go.RowKit
set_option linter.unusedVariables false
attribute [local irreducible] Ev EvQ EvS EvH
def strings_makeASCIISet_S (f : ByteArray → Option ((List Bool) × Bool)) : Prop := ∀ (w0 : World) (I0 : Nat → Prop) (x_0 : ByteArray) (hI : ∀ g, I0 g → g < w0.heap.size) (r : ((List Bool) × Bool)), f x_0 = some r →
    Ret Tryz.prog 84 #[(.string x_0)] w0 fun v w1 => ∃ (I1 : Nat → Prop) (u_1 : List Value), v = (.tuple #[(.agg u_1.toArray), (.bool r.2)]) ∧ Hp ⟨w0, I0, []⟩ I1 [] w1 ∧ (dA 256 dB).rep w1 I1 u_1 r.1
theorem strings_makeASCIISet_ok (n : Nat) : strings_makeASCIISet_S (strings_makeASCIISet n) := by
  intro w0 I0 x_0 hI r h
  unfold strings_makeASCIISet at h
  refine enter Tryz.func84 rfl (Nat.le_of_ble_eq_true rfl) ?_
  have hp : Hp ⟨w0, I0, []⟩ I0 [] w0 := Hp.start hI
  apply go
  apply go
  refine ev_allocA (d := (dA 256 dB)) (x0 := (List.replicate 256 false)) hp rfl T88 (fun _ _ => (rep_zero 256 rfl)) ?_
  intro g_1 c_2 w_3 hp hs r_4
  obtain ⟨y_5, q_6, h⟩ := bind_some h
  refine W.cut (γ := ((List Bool) × (List Value))) (fun g => [(2, (.pointer (some ⟨g_1, 0, none⟩)))]) (fun g w' => y_5 = .go (g.1) ∧ Hp ⟨w0, I0, []⟩ I0 [some (g_1, (g.2), 88)] w' ∧ (dA 256 dB).rep w' I0 (g.2) (g.1)) ?_ ?_
  ·
    apply go
    apply go
    apply go
    refine W.loop q_6 (γ := (List Value)) (fun s g => [(0, (.string x_0)), (2, (.pointer (some ⟨g_1, 0, none⟩))), (4, (.int .i64 (s.2)))]) (fun s g w' => Hp ⟨w0, I0, []⟩ I0 [some (g_1, (g), 88)] w' ∧ (dA 256 dB).rep w' I0 (g) (s.1)) c_2 (.c rfl (.c rfl (.c rfl .n))) ⟨hp, r_4⟩ ?_
    rintro ⟨x_7, x_8⟩ c_9 w_a y_b ⟨hp, r_c⟩ q_d q_e
    unfold strings_makeASCIISet_L1 at q_d
    apply go
    apply go
    apply go
    refine ev0 (rn_lenS rfl rfl Tryz.underlying9) ?_
    apply go
    refine sel_of (fun hc => ?_) (fun hc => ?_)
    ·
      have q_d := cond_t q_d hc
      apply go
      apply go
      apply go
      apply go
      apply go
      obtain ⟨x_f, q_g, q_d⟩ := bind_some q_d
      refine ev0 (rn_indexS rfl rfl rfl Tryz.underlying9 q_g) ?_
      apply go
      apply go
      apply go
      apply go
      refine sel_of (fun hc => ?_) (fun hc => ?_)
      ·
        have q_d := cond_t q_d hc
        apply go
        apply go
        refine ev (rn_load rfl rfl (run_loadVarA T88 (Desc.len _ r_c) (hp.at_ (i := 0) rfl))) ?_
        have r_h := r_c
        refine ev_storeW (d := (dA 256 dB)) hp (i := 0) rfl rfl rfl rfl T88 rfl r_c r_h ?_
        intro w_i hp hs r_j
        apply go
        have q_k := congrArg some (q_e _ (Option.some.inj q_d).symm)
        obtain rfl := Option.some.inj q_k
        obtain rfl := Option.some.inj h
        refine ⟨_, run_loadVarA T88 (Desc.len _ r_j) (hp.at_ (i := 0) rfl), ?_⟩
        have hp := hp.sel [] (by decide)
        exact ⟨I0, c_9, rfl, hp, r_j⟩
      ·
        have q_d := cond_f q_d hc
        apply go
        apply go
        obtain ⟨x_l, q_m, q_d⟩ := bind_some q_d
        refine ev_indexA rfl rfl rfl Tryz.underlying88 T4 (SubA.top r_c) q_m ?_
        refine ev_store1A hp (i := 0) rfl rfl rfl rfl T4 rfl ((SubA.top r_c).el q_m).1 ?_
        intro c_n w_o q_p hp hs
        have r_q : ((dA 256 dB)).rep w_o I0 c_n (upd x_7 x_f true) := by subst q_p; exact PutA.rep (Desc.len _ r_c) (PutA.up (SubA.top (r_c.step hs)) q_m (PutA.leaf ((SubA.top r_c).el q_m).1 rfl rfl))
        clear q_p
        apply go
        exact ⟨_, (Option.some.inj q_d).symm, c_n, (.c rfl (.c rfl (.c rfl .n))), ⟨hp, r_q⟩⟩
    ·
      have q_d := cond_f q_d hc
      apply go
      have q_r := congrArg some (q_e _ (Option.some.inj q_d).symm)
      obtain rfl := Option.some.inj q_r
      exact ⟨(x_7, c_9), (.c rfl .n), rfl, hp, r_c⟩
  ·
    rintro ⟨x_s, c_t⟩ w_u ⟨hy, hp, r_v⟩
    replace hy := hy.symm
    subst hy
    apply go
    apply go
    refine ev (rn_load rfl rfl (run_loadVarA T88 (Desc.len _ r_v) (hp.at_ (i := 0) rfl))) ?_
    have r_w := r_v
    refine ev_storeW (d := (dA 256 dB)) hp (i := 0) rfl rfl rfl rfl T88 rfl r_v r_w ?_
    intro w_x hp hs r_y
    apply go
    obtain rfl := Option.some.inj h
    refine ⟨_, run_loadVarA T88 (Desc.len _ r_y) (hp.at_ (i := 0) rfl), ?_⟩
    have hp := hp.sel [] (by decide)
    exact ⟨I0, c_t, rfl, hp, r_y⟩

end Go.Proofs.YthhghkcopfnbiaaGreatDoor

namespace Go.Proofs.YthhghkcopfnbiaaGreatDoor
open Go Go.Proofs.YthhghkcopfnbiaaGreatDoor.Gw Go.RowKit
set_option linter.unusedVariables false
attribute [local irreducible] Ev EvQ EvS EvH
def strings_asciiSet_contains_S (f : (List Bool) → Int → Option (Bool × (List Bool))) : Prop := ∀ (w0 : World) (I0 : Nat → Prop) (x_0 : (List Bool)) (g_1 : Nat) (c_2 : List Value) (r_3 : (dA 256 dB).rep w0 I0 c_2 x_0) (x_4 : Int) (hp : Hp ⟨w0, I0, [g_1]⟩ I0 [some (g_1, c_2, 88)] w0) (r : (Bool × (List Bool))), f x_0 x_4 = some r →
    Ret Tryz.prog 100 #[(.pointer (some ⟨g_1, 0, none⟩)), (.int .u8 x_4)] w0 fun v w1 => ∃ (I1 : Nat → Prop) (u_5 : List Value), v = (.bool r.1) ∧ Hp ⟨w0, I0, [g_1]⟩ I1 [some (g_1, u_5, 88)] w1 ∧ (dA 256 dB).rep w1 I1 u_5 r.2
theorem strings_asciiSet_contains_ok (n : Nat) : strings_asciiSet_contains_S (strings_asciiSet_contains n) := by
  intro w0 I0 x_0 g_1 c_2 r_3 x_4 hp r h
  unfold strings_asciiSet_contains at h
  refine enter Tryz.func100 rfl (Nat.le_of_ble_eq_true rfl) ?_
  apply go
  apply go
  apply go
  apply go
  obtain ⟨x_5, q_6, h⟩ := bind_some h
  refine ev_indexA rfl rfl rfl Tryz.underlying88 T4 (SubA.top r_3) q_6 ?_
  refine ev (rn_load rfl rfl (run_loadVar1 T4 (hp.cell (i := 0) rfl ((SubA.top r_3).el q_6).bool))) ?_
  apply go
  obtain rfl := Option.some.inj h
  exact ⟨I0, c_2, rfl, hp, r_3⟩

end Go.Proofs.YthhghkcopfnbiaaGreatDoor
