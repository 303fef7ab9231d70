/-
  Each function of the program computes the plain function of its name.
-/
import Derived.Test.YthhghkcopfnbiaaGreatDoorFactsA
import Derived.Test.YthhghkcopfnbiaaGreatDoorWalkA
import Derived.Lib.AtoiErrMem
import Derived.Test.YthhghkcopfnbiaaGreatDoorCoreA
import Derived.Test.YthhghkcopfnbiaaGreatDoorCoreB
namespace Go.Proofs.YthhghkcopfnbiaaGreatDoor
open Go Go.Proofs.YthhghkcopfnbiaaGreatDoor.Gw Go.RowKit
set_option linter.unusedVariables false
attribute [local irreducible] Ev EvQ EvS EvH
def strings_trimLeftASCII_S (f : ByteArray → (List Bool) → Option (ByteArray × (List Bool))) : Prop := ∀ (w0 : World) (I0 : Nat → Prop) (x_0 : ByteArray) (x_1 : (List Bool)) (g_2 : Nat) (c_3 : List Value) (r_4 : (dA 256 dB).rep w0 I0 c_3 x_1) (hp : Hp ⟨w0, I0, [g_2]⟩ I0 [some (g_2, c_3, 88)] w0) (r : (ByteArray × (List Bool))), f x_0 x_1 = some r →
    Ret Tryz.prog 85 #[(.string x_0), (.pointer (some ⟨g_2, 0, none⟩))] w0 fun v w1 => ∃ (I1 : Nat → Prop) (u_5 : List Value), v = (.string r.1) ∧ Hp ⟨w0, I0, [g_2]⟩ I1 [some (g_2, u_5, 88)] w1 ∧ (dA 256 dB).rep w1 I1 u_5 r.2
theorem strings_trimLeftASCII_ok (n : Nat) : strings_trimLeftASCII_S (strings_trimLeftASCII n) := by
  intro w0 I0 x_0 x_1 g_2 c_3 r_4 hp r h
  unfold strings_trimLeftASCII at h
  refine enter Tryz.func85 rfl (Nat.le_of_ble_eq_true rfl) ?_
  apply go
  apply go
  obtain ⟨y_5, q_6, h⟩ := bind_some h
  refine W.cut (γ := (ByteArray × (List Bool) × (List Value) × (Nat → Prop))) (fun g => [(0, (.string (g.1)))]) (fun g w' => y_5 = ((g.1), (g.2.1)) ∧ Hp ⟨w0, I0, [g_2]⟩ (g.2.2.2) [some (g_2, (g.2.2.1), 88)] w' ∧ (dA 256 dB).rep w' (g.2.2.2) (g.2.2.1) (g.2.1)) ?_ ?_
  ·
    apply go
    refine W.loop q_6 (γ := ((List Value) × (Nat → Prop))) (fun s g => [(0, (.string (s.1))), (1, (.pointer (some ⟨g_2, 0, none⟩)))]) (fun s g w' => Hp ⟨w0, I0, [g_2]⟩ (g.2) [some (g_2, (g.1), 88)] w' ∧ (dA 256 dB).rep w' (g.2) (g.1) (s.2)) (c_3, I0) (.c rfl (.c rfl .n)) ⟨hp, r_4⟩ ?_
    rintro ⟨x_7, x_8⟩ ⟨c_9, I_a⟩ w_b y_c ⟨hp, r_d⟩ q_e q_f
    unfold strings_trimLeftASCII_L1 at q_e
    apply go
    apply go
    apply go
    refine ev0 (rn_lenS rfl rfl Tryz.underlying9) ?_
    apply go
    refine sel_of (fun hc => ?_) (fun hc => ?_)
    ·
      have q_e := cond_t q_e hc
      apply go
      apply go
      apply go
      apply go
      apply go
      obtain ⟨x_g, q_h, q_e⟩ := bind_some q_e
      refine ev0 (rn_indexS rfl rfl rfl Tryz.underlying9 q_h) ?_
      obtain ⟨⟨x_i, x_j⟩, q_k, q_e⟩ := bind_some q_e
      refine ev_call rfl rfl C100 (((strings_asciiSet_contains_ok n) _ _  x_8 g_2 c_9 r_d x_g (hp.lend (i := 0) rfl) _ q_k).mono ?_)
      rintro _ w_l ⟨I_m, c_n, hv, hq, r_o⟩
      replace hv := hv.symm
      subst hv
      have hs := hq.st
      have hp := hp.back (i := 0) rfl hq
      apply go
      refine sel_of (fun hc => ?_) (fun hc => ?_)
      ·
        have q_e := cond_t q_e hc
        apply go
        have q_p := congrArg some (q_f _ (Option.some.inj q_e).symm)
        obtain rfl := Option.some.inj q_p
        exact ⟨(x_7, x_j, c_n, I_m), (.c rfl .n), rfl, hp, r_o⟩
      ·
        have q_e := cond_f q_e hc
        apply go
        apply go
        obtain ⟨x_q, q_r, q_e⟩ := bind_some q_e
        refine ev0 (rn_sliceStr (kl := .i64) (kh := .i64) rfl rfl rfl rfl Tryz.underlying9 q_r) ?_
        exact ⟨_, (Option.some.inj q_e).symm, (c_n, I_m), (.c rfl (.c rfl .n)), ⟨hp, r_o⟩⟩
    ·
      have q_e := cond_f q_e hc
      apply go
      have q_s := congrArg some (q_f _ (Option.some.inj q_e).symm)
      obtain rfl := Option.some.inj q_s
      exact ⟨(x_7, x_8, c_9, I_a), (.c rfl .n), rfl, hp, r_d⟩
  ·
    rintro ⟨x_t, x_u, c_v, I_w⟩ w_x ⟨hy, hp, r_y⟩
    replace hy := hy.symm
    subst hy
    apply go
    apply go
    apply go
    obtain rfl := Option.some.inj h
    exact ⟨I_w, c_v, rfl, hp, r_y⟩

end Go.Proofs.YthhghkcopfnbiaaGreatDoor

namespace Go.Proofs.YthhghkcopfnbiaaGreatDoor
open Go Go.Proofs.YthhghkcopfnbiaaGreatDoor.Gw Go.RowKit
set_option linter.unusedVariables false
attribute [local irreducible] Ev EvQ EvS EvH
def strings_trimRightASCII_S (f : ByteArray → (List Bool) → Option (ByteArray × (List Bool))) : Prop := ∀ (w0 : World) (I0 : Nat → Prop) (x_0 : ByteArray) (x_1 : (List Bool)) (g_2 : Nat) (c_3 : List Value) (r_4 : (dA 256 dB).rep w0 I0 c_3 x_1) (hp : Hp ⟨w0, I0, [g_2]⟩ I0 [some (g_2, c_3, 88)] w0) (r : (ByteArray × (List Bool))), f x_0 x_1 = some r →
    Ret Tryz.prog 86 #[(.string x_0), (.pointer (some ⟨g_2, 0, none⟩))] w0 fun v w1 => ∃ (I1 : Nat → Prop) (u_5 : List Value), v = (.string r.1) ∧ Hp ⟨w0, I0, [g_2]⟩ I1 [some (g_2, u_5, 88)] w1 ∧ (dA 256 dB).rep w1 I1 u_5 r.2
theorem strings_trimRightASCII_ok (n : Nat) : strings_trimRightASCII_S (strings_trimRightASCII n) := by
  intro w0 I0 x_0 x_1 g_2 c_3 r_4 hp r h
  unfold strings_trimRightASCII at h
  refine enter Tryz.func86 rfl (Nat.le_of_ble_eq_true rfl) ?_
  apply go
  apply go
  obtain ⟨y_5, q_6, h⟩ := bind_some h
  refine W.cut (γ := (ByteArray × (List Bool) × (List Value) × (Nat → Prop))) (fun g => [(0, (.string (g.1)))]) (fun g w' => y_5 = ((g.1), (g.2.1)) ∧ Hp ⟨w0, I0, [g_2]⟩ (g.2.2.2) [some (g_2, (g.2.2.1), 88)] w' ∧ (dA 256 dB).rep w' (g.2.2.2) (g.2.2.1) (g.2.1)) ?_ ?_
  ·
    apply go
    refine W.loop q_6 (γ := ((List Value) × (Nat → Prop))) (fun s g => [(0, (.string (s.1))), (1, (.pointer (some ⟨g_2, 0, none⟩)))]) (fun s g w' => Hp ⟨w0, I0, [g_2]⟩ (g.2) [some (g_2, (g.1), 88)] w' ∧ (dA 256 dB).rep w' (g.2) (g.1) (s.2)) (c_3, I0) (.c rfl (.c rfl .n)) ⟨hp, r_4⟩ ?_
    rintro ⟨x_7, x_8⟩ ⟨c_9, I_a⟩ w_b y_c ⟨hp, r_d⟩ q_e q_f
    unfold strings_trimRightASCII_L1 at q_e
    apply go
    apply go
    apply go
    refine ev0 (rn_lenS rfl rfl Tryz.underlying9) ?_
    apply go
    refine sel_of (fun hc => ?_) (fun hc => ?_)
    ·
      have q_e := cond_t q_e hc
      apply go
      apply go
      apply go
      apply go
      apply go
      refine ev0 (rn_lenS rfl rfl Tryz.underlying9) ?_
      obtain ⟨x_g, q_h, q_e⟩ := bind_some q_e
      refine ev0 (rn_indexS rfl rfl rfl Tryz.underlying9 q_h) ?_
      obtain ⟨⟨x_i, x_j⟩, q_k, q_e⟩ := bind_some q_e
      refine ev_call rfl rfl C100 (((strings_asciiSet_contains_ok n) _ _  x_8 g_2 c_9 r_d x_g (hp.lend (i := 0) rfl) _ q_k).mono ?_)
      rintro _ w_l ⟨I_m, c_n, hv, hq, r_o⟩
      replace hv := hv.symm
      subst hv
      have hs := hq.st
      have hp := hp.back (i := 0) rfl hq
      apply go
      refine sel_of (fun hc => ?_) (fun hc => ?_)
      ·
        have q_e := cond_t q_e hc
        apply go
        have q_p := congrArg some (q_f _ (Option.some.inj q_e).symm)
        obtain rfl := Option.some.inj q_p
        exact ⟨(x_7, x_j, c_n, I_m), (.c rfl .n), rfl, hp, r_o⟩
      ·
        have q_e := cond_f q_e hc
        apply go
        apply go
        refine ev0 (rn_lenS rfl rfl Tryz.underlying9) ?_
        obtain ⟨x_q, q_r, q_e⟩ := bind_some q_e
        refine ev0 (rn_sliceStr (kl := .i64) (kh := .i64) rfl rfl rfl rfl Tryz.underlying9 q_r) ?_
        exact ⟨_, (Option.some.inj q_e).symm, (c_n, I_m), (.c rfl (.c rfl .n)), ⟨hp, r_o⟩⟩
    ·
      have q_e := cond_f q_e hc
      apply go
      have q_s := congrArg some (q_f _ (Option.some.inj q_e).symm)
      obtain rfl := Option.some.inj q_s
      exact ⟨(x_7, x_8, c_9, I_a), (.c rfl .n), rfl, hp, r_d⟩
  ·
    rintro ⟨x_t, x_u, c_v, I_w⟩ w_x ⟨hy, hp, r_y⟩
    replace hy := hy.symm
    subst hy
    apply go
    apply go
    apply go
    obtain rfl := Option.some.inj h
    exact ⟨I_w, c_v, rfl, hp, r_y⟩

end Go.Proofs.YthhghkcopfnbiaaGreatDoor

namespace Go.Proofs.YthhghkcopfnbiaaGreatDoor
open Go Go.Proofs.YthhghkcopfnbiaaGreatDoor.Gw Go.RowKit
set_option linter.unusedVariables false
attribute [local irreducible] Ev EvQ EvS EvH
def strings_Trim_S (f : ByteArray → ByteArray → Option ByteArray) : Prop := ∀ (w0 : World) (I0 : Nat → Prop) (x_0 : ByteArray) (x_1 : ByteArray) (hI : ∀ g, I0 g → g < w0.heap.size) (r : ByteArray), f x_0 x_1 = some r →
    Ret Tryz.prog 63 #[(.string x_0), (.string x_1)] w0 fun v w1 => v = (.string r) ∧ Ch [] w0 w1
theorem strings_Trim_ok (n : Nat) : strings_Trim_S (strings_Trim n) := by
  intro w0 I0 x_0 x_1 hI r h
  unfold strings_Trim at h
  refine enter Tryz.func63 rfl (Nat.le_of_ble_eq_true rfl) ?_
  have hp : Hp ⟨w0, I0, []⟩ I0 [] w0 := Hp.start hI
  apply go
  apply go
  apply go
  obtain ⟨y_2, q_3, h⟩ := bind_some h
  refine W.cut (γ := Bool) (fun g => [(0, (.string x_0)), (1, (.string x_1)), (12, (.bool (g)))]) (fun g w' => y_2 = (g) ∧ w0 = w') ?_ ?_
  ·
    apply go
    refine sel_of (fun hc => ?_) (fun hc => ?_)
    ·
      have q_3 := cond_t q_3 hc
      obtain rfl := Option.some.inj q_3
      exact ⟨true, (.c rfl (.c rfl (.c rfl .n))), rfl, rfl⟩
    ·
      have q_3 := cond_f q_3 hc
      obtain rfl := Option.some.inj q_3
      exact ⟨(x_1.toList == (ByteArray.mk #[]).toList), (.c rfl (.c rfl (.c rfl .n))), rfl, rfl⟩
  ·
    rintro x_4 _ ⟨hy, rfl⟩
    replace hy := hy.symm
    subst hy
    apply go
    refine sel_of (fun hc => ?_) (fun hc => ?_)
    ·
      have h := cond_t h hc
      apply go
      apply go
      apply go
      obtain rfl := Option.some.inj h
      exact ⟨rfl, hp.ch⟩
    ·
      have h := cond_f h hc
      apply go
      apply go
      obtain ⟨y_5, q_6, h⟩ := bind_some h
      refine W.cut (γ := Bool) (fun g => [(0, (.string x_0)), (1, (.string x_1)), (21, (.bool (g)))]) (fun g w' => y_5 = (g) ∧ w0 = w') ?_ ?_
      ·
        apply go
        refine ev0 (rn_lenS rfl rfl Tryz.underlying9) ?_
        refine sel_of (fun hc => ?_) (fun hc => ?_)
        ·
          have q_6 := cond_t q_6 hc
          obtain ⟨x_7, q_8, q_6⟩ := bind_some q_6
          refine ev0 (rn_indexS rfl rfl rfl Tryz.underlying9 q_8) ?_
          obtain rfl := Option.some.inj q_6
          exact ⟨(decide (x_7 < 128)), (.c rfl (.c rfl (.c rfl .n))), rfl, rfl⟩
        ·
          have q_6 := cond_f q_6 hc
          obtain rfl := Option.some.inj q_6
          exact ⟨false, (.c rfl (.c rfl (.c rfl .n))), rfl, rfl⟩
      ·
        rintro x_9 _ ⟨hy, rfl⟩
        replace hy := hy.symm
        subst hy
        apply go
        refine sel_of (fun hc => ?_) (fun hc => ?_)
        ·
          have h := cond_t h hc
          apply go
          cases h
        ·
          have h := cond_f h hc
          apply go
          apply go
          apply go
          apply go
          obtain ⟨⟨x_a, x_b⟩, q_c, h⟩ := bind_some h
          refine ev_call rfl rfl C84 (((strings_makeASCIISet_ok n) _ _  x_1 hp.imm _ q_c).mono ?_)
          rintro _ w_d ⟨I_e, v_f, hv, hq, r_g⟩
          replace hv := hv.symm
          subst hv
          have hs := hq.st
          have hp := hp.join0 hq
          refine ev_allocA (d := (dA 256 dB)) (x0 := (List.replicate 256 false)) hp rfl T88 (fun _ _ => (rep_zero 256 rfl)) ?_
          intro g_h c_i w_j hp hs r_k
          replace r_g := r_g.step hs
          refine ev_storeW (d := (dA 256 dB)) hp (i := 0) rfl rfl rfl rfl T88 rfl r_k r_g ?_
          intro w_l hp hs r_m
          apply go
          apply go
          apply go
          refine sel_of (fun hc => ?_) (fun hc => ?_)
          ·
            have h := cond_t h hc
            apply go
            apply go
            obtain ⟨⟨x_n, x_o⟩, q_p, h⟩ := bind_some h
            refine ev_call rfl rfl C86 (((strings_trimRightASCII_ok n) _ _  x_0 x_a g_h v_f r_m (hp.lend (i := 0) rfl) _ q_p).mono ?_)
            rintro _ w_q ⟨I_r, c_s, hv, hq, r_t⟩
            replace hv := hv.symm
            subst hv
            have hs := hq.st
            have hp := hp.back (i := 0) rfl hq
            obtain ⟨⟨x_u, x_v⟩, q_w, h⟩ := bind_some h
            refine ev_call rfl rfl C85 (((strings_trimLeftASCII_ok n) _ _  x_n x_o g_h c_s r_t (hp.lend (i := 0) rfl) _ q_w).mono ?_)
            rintro _ w_x ⟨I_y, c_z, hv, hq, r_10⟩
            replace hv := hv.symm
            subst hv
            have hs := hq.st
            have hp := hp.back (i := 0) rfl hq
            apply go
            obtain rfl := Option.some.inj h
            exact ⟨rfl, hp.ch⟩
          ·
            have h := cond_f h hc
            apply go
            apply go
            apply go
            cases h

end Go.Proofs.YthhghkcopfnbiaaGreatDoor

namespace Go.Proofs.YthhghkcopfnbiaaGreatDoor
open Go Go.Proofs.YthhghkcopfnbiaaGreatDoor.Gw Go.RowKit
set_option linter.unusedVariables false
attribute [local irreducible] Ev EvQ EvS EvH
def strconv_ParseUint_S (f : ByteArray → Int → Int → Option (Int × Unit)) : Prop := ∀ (w0 : World) (I0 : Nat → Prop) (tb : Tb w0 I0 1 .u64 pow10) (x_0 : ByteArray) (x_1 : Int) (x_2 : Int) (hI : ∀ g, I0 g → g < w0.heap.size) (r : (Int × Unit)), f x_0 x_1 x_2 = some r →
    Ret Tryz.prog 64 #[(.string x_0), (.int .i64 x_1), (.int .i64 x_2)] w0 fun v w1 => v = (.tuple #[(.int .u64 r.1), .nilIface]) ∧ Ch [] w0 w1

theorem strconv_ParseUint_ok (n : Nat) : strconv_ParseUint_S (strconv_ParseUint n) := by
  intro w0 I0 tb s b k hI r h
  obtain ⟨rfl, rfl, hs, u, hu, rfl⟩ := parU_some h
  apply ret_below
  refine Calls.mono (sh_strconv_ParseUint_10_at32_ok s (by omega) u hu w0) ?_
  rintro e w' ⟨he, hw | hw⟩
  · exact ⟨he, hw ▸ Below.refl _ _⟩
  · exact ⟨he, hw ▸ Lib.bytesWorld_below _ _ _⟩

end Go.Proofs.YthhghkcopfnbiaaGreatDoor

namespace Go.Proofs.YthhghkcopfnbiaaGreatDoor
open Go Go.Proofs.YthhghkcopfnbiaaGreatDoor.Gw Go.RowKit
set_option linter.unusedVariables false
attribute [local irreducible] Ev EvQ EvS EvH
def integer_times_S (f : (List Int) → (List Int) → Option (List Int)) : Prop := ∀ (w0 : World) (I0 : Nat → Prop) (x_0 : (List Int)) (v_1 : Value) (r_2 : RepS (dI .u32) w0 I0 v_1 x_0) (x_3 : (List Int)) (v_4 : Value) (r_5 : RepS (dI .u32) w0 I0 v_4 x_3) (hI : ∀ g, I0 g → g < w0.heap.size) (r : (List Int)), f x_0 x_3 = some r →
    Ret Tryz.prog 66 #[v_1, v_4] w0 fun v w1 => ∃ (I1 : Nat → Prop) (u_6 : Value), v = u_6 ∧ Hp ⟨w0, I0, []⟩ I1 [] w1 ∧ RepS (dI .u32) w1 I1 u_6 r
theorem integer_times_ok (n : Nat) : integer_times_S (integer_times n) := by
  intro w0 I0 x_0 v_1 r_2 x_3 v_4 r_5 hI r h
  unfold integer_times at h
  refine enter Tryz.func66 rfl (Nat.le_of_ble_eq_true rfl) ?_
  have hp : Hp ⟨w0, I0, []⟩ I0 [] w0 := Hp.start hI
  apply go
  apply go
  apply go
  apply go
  refine ev0 (rn_len rfl rfl Tryz.underlying22 r_2) ?_
  refine ev0 (rn_len rfl rfl Tryz.underlying22 r_5) ?_
  obtain ⟨x_6, q_7, h⟩ := bind_some h
  refine ev_make (d := (dI .u32)) (x0 := 0) hp rfl rfl rfl Tryz.underlying22 T45 (fun _ _ => rfl) (Nat.le_of_ble_eq_true rfl) q_7 ?_
  intro v_8 e_9 w_a hp hs o_b
  replace r_2 := r_2.step hs
  replace r_5 := r_5.step hs
  obtain ⟨y_c, q_d, h⟩ := bind_some h
  refine W.cut (γ := ((List Int) × Ent)) (fun g => [(5, v_8)]) (fun g w' => y_c = (g.1) ∧ Hp ⟨w0, I0, []⟩ I0 [(g.2)] w' ∧ OwnS (dI .u32) 45 w' I0 v_8 (g.2) (g.1)) ?_ ?_
  ·
    apply go
    apply go
    refine ev0 (rn_len rfl rfl Tryz.underlying22 r_2) ?_
    apply go
    refine W.loop q_d (γ := Ent) (fun s g => [(1, v_4), (5, v_8), (18, v_1), (19, (.int .i64 (x_0.length : Int))), (20, (.int .i64 (s.2)))]) (fun s g w' => Hp ⟨w0, I0, []⟩ I0 [(g)] w' ∧ RepS (dI .u32) w' I0 v_4 x_3 ∧ OwnS (dI .u32) 45 w' I0 v_8 (g) (s.1) ∧ RepS (dI .u32) w' I0 v_1 x_0) e_9 (.c rfl (.c rfl (.c rfl (.c rfl (.c rfl .n))))) ⟨hp, r_5, o_b, r_2⟩ ?_
    rintro ⟨x_e, x_f⟩ e_g w_h y_i ⟨hp, r_5, o_j, r_2⟩ q_k q_l
    unfold integer_times_L21 at q_k
    apply go
    apply go
    apply go
    apply go
    refine sel_of (fun hc => ?_) (fun hc => ?_)
    ·
      have q_k := cond_t q_k hc
      apply go
      obtain ⟨y_m, q_n, q_k⟩ := bind_some q_k
      refine W.cut (γ := ((List Int) × Ent)) (fun g => [(1, v_4), (5, v_8), (18, v_1), (19, (.int .i64 (x_0.length : Int))), (20, (.int .i64 x_f))]) (fun g w' => y_m = (g.1) ∧ Hp ⟨w0, I0, []⟩ I0 [(g.2)] w' ∧ RepS (dI .u32) w' I0 v_4 x_3 ∧ OwnS (dI .u32) 45 w' I0 v_8 (g.2) (g.1) ∧ RepS (dI .u32) w' I0 v_1 x_0) ?_ ?_
      ·
        apply go
        apply go
        apply go
        obtain ⟨x_o, q_p, q_n⟩ := bind_some q_n
        refine ev_index rfl rfl rfl Tryz.underlying22 T45 r_2 q_p ?_
        intro p_q c_r d_s a_t
        obtain rfl : c_r = [(.int .u32 x_o)] := d_s
        refine ev (rn_load rfl rfl (run_loadVar1 T45 (a_t.2 0 _ rfl))) ?_
        apply go
        apply go
        obtain ⟨y_u, q_v, q_n⟩ := bind_some q_n
        refine W.cut (γ := ((List Int) × Int × Ent)) (fun g => [(1, v_4), (5, v_8), (6, (.int .i64 x_f)), (8, (.int .u64 (g.2.1))), (18, v_1), (19, (.int .i64 (x_0.length : Int))), (20, (.int .i64 x_f))]) (fun g w' => y_u = ((g.1), (g.2.1)) ∧ Hp ⟨w0, I0, []⟩ I0 [(g.2.2)] w' ∧ RepS (dI .u32) w' I0 v_4 x_3 ∧ OwnS (dI .u32) 45 w' I0 v_8 (g.2.2) (g.1) ∧ RepS (dI .u32) w' I0 v_1 x_0) ?_ ?_
        ·
          apply go
          apply go
          refine ev0 (rn_len rfl rfl Tryz.underlying22 r_5) ?_
          apply go
          refine W.loop q_v (γ := Ent) (fun s g => [(1, v_4), (5, v_8), (6, (.int .i64 x_f)), (7, (.int .u32 x_o)), (8, (.int .u64 (s.2.1))), (18, v_1), (19, (.int .i64 (x_0.length : Int))), (20, (.int .i64 x_f)), (25, v_4), (26, (.int .i64 (x_3.length : Int))), (27, (.int .i64 (s.2.2)))]) (fun s g w' => Hp ⟨w0, I0, []⟩ I0 [(g)] w' ∧ RepS (dI .u32) w' I0 v_4 x_3 ∧ OwnS (dI .u32) 45 w' I0 v_8 (g) (s.1) ∧ RepS (dI .u32) w' I0 v_1 x_0) e_g (.c rfl (.c rfl (.c rfl (.c rfl (.c rfl (.c rfl (.c rfl (.c rfl (.c rfl (.c rfl (.c rfl .n))))))))))) ⟨hp, r_5, o_j, r_2⟩ ?_
          rintro ⟨x_w, x_x, x_y⟩ e_z w_10 y_11 ⟨hp, r_5, o_12, r_2⟩ q_13 q_14
          unfold integer_times_L25 at q_13
          apply go
          apply go
          apply go
          apply go
          refine sel_of (fun hc => ?_) (fun hc => ?_)
          ·
            have q_13 := cond_t q_13 hc
            apply go
            apply go
            apply go
            apply go
            apply go
            obtain ⟨x_15, q_16, q_13⟩ := bind_some q_13
            refine ev_index rfl rfl rfl Tryz.underlying22 T45 r_5 q_16 ?_
            intro p_17 c_18 d_19 a_1a
            obtain rfl : c_18 = [(.int .u32 x_15)] := d_19
            refine ev (rn_load rfl rfl (run_loadVar1 T45 (a_1a.2 0 _ rfl))) ?_
            apply go
            apply go
            refine ev0 (rn_conv rfl rfl U45 Tryz.underlying49) ?_
            refine ev0 (rn_conv rfl rfl U45 Tryz.underlying49) ?_
            obtain ⟨x_1b, q_1c, q_13⟩ := bind_some q_13
            refine ev_indexO rfl rfl rfl Tryz.underlying22 T45 o_12 q_1c ?_
            intro g_1d c_1e h_1f d_1g l_1h
            refine ev (rn_load rfl rfl (run_loadVar1 T45 (hp.cellE (i := 0) rfl h_1f d_1g (j := 0) rfl))) ?_
            refine ev0 (rn_conv rfl rfl U45 Tryz.underlying49) ?_
            apply go
            apply go
            refine ev0 (rn_conv rfl rfl U49 Tryz.underlying45) ?_
            obtain ⟨x_1i, q_1j, q_13⟩ := bind_some q_13
            refine ev_indexO rfl rfl rfl Tryz.underlying22 T45 o_12 q_1j ?_
            intro g_1k c_1l h_1m d_1n l_1o
            refine ev_storeE hp (i := 0) rfl h_1m rfl rfl rfl T45 o_12 q_1j (x0 := (IntKind.u32.wrap (IntKind.u64.wrap ((IntKind.u64.wrap ((IntKind.u64.wrap ((IntKind.u64.wrap x_o) * (IntKind.u64.wrap x_15))) + (IntKind.u64.wrap x_1b))) + x_x)))) rfl ?_
            intro e_1p w_1q hp hs o_1r
            replace r_5 := r_5.step hs
            replace r_2 := r_2.step hs
            apply go
            refine ⟨by decide, ?_⟩
            apply go
            exact ⟨_, (Option.some.inj q_13).symm, e_1p, (.c rfl (.c rfl (.c rfl (.c rfl (.c rfl (.c rfl (.c rfl (.c rfl (.c rfl (.c rfl (.c rfl .n))))))))))), ⟨hp, r_5, o_1r, r_2⟩⟩
          ·
            have q_13 := cond_f q_13 hc
            apply go
            have q_1s := congrArg some (q_14 _ (Option.some.inj q_13).symm)
            obtain rfl := Option.some.inj q_1s
            exact ⟨(x_w, x_x, e_z), (.c rfl (.c rfl (.c rfl (.c rfl (.c rfl (.c rfl (.c rfl .n))))))), rfl, hp, r_5, o_12, r_2⟩
        ·
          rintro ⟨x_1t, x_1u, e_1v⟩ w_1w ⟨hy, hp, r_5, o_1x, r_2⟩
          replace hy := hy.symm
          subst hy
          apply go
          refine ev0 (rn_len rfl rfl Tryz.underlying22 r_5) ?_
          refine ev0 (rn_conv rfl rfl U49 Tryz.underlying45) ?_
          obtain ⟨x_1y, q_1z, q_n⟩ := bind_some q_n
          refine ev_indexO rfl rfl rfl Tryz.underlying22 T45 o_1x q_1z ?_
          intro g_20 c_21 h_22 d_23 l_24
          refine ev_storeE hp (i := 0) rfl h_22 rfl rfl rfl T45 o_1x q_1z (x0 := (IntKind.u32.wrap x_1u)) rfl ?_
          intro e_25 w_26 hp hs o_27
          replace r_5 := r_5.step hs
          replace r_2 := r_2.step hs
          obtain rfl := Option.some.inj q_n
          exact ⟨((upd x_1t (IntKind.i64.wrap (x_f + (x_3.length : Int))) (IntKind.u32.wrap x_1u)), e_25), (.c rfl (.c rfl (.c rfl (.c rfl (.c rfl .n))))), rfl, hp, r_5, o_27, r_2⟩
      ·
        rintro ⟨x_28, e_29⟩ w_2a ⟨hy, hp, r_5, o_2b, r_2⟩
        replace hy := hy.symm
        subst hy
        apply go
        exact ⟨_, (Option.some.inj q_k).symm, e_29, (.c rfl (.c rfl (.c rfl (.c rfl (.c rfl .n))))), ⟨hp, r_5, o_2b, r_2⟩⟩
    ·
      have q_k := cond_f q_k hc
      apply go
      have q_2c := congrArg some (q_l _ (Option.some.inj q_k).symm)
      obtain rfl := Option.some.inj q_2c
      exact ⟨(x_e, e_g), (.c rfl .n), rfl, hp, o_j⟩
  ·
    rintro ⟨x_2d, e_2e⟩ w_2f ⟨hy, hp, o_2g⟩
    replace hy := hy.symm
    subst hy
    apply go
    apply go
    apply go
    obtain rfl := Option.some.inj h
    have r_2h := o_2g.frz hp (i := 0) rfl
    obtain ⟨hp, hs⟩ := freeze_hp hp (i := 0) rfl
    have hp := hp.sel [] (by decide)
    exact ⟨(Ad I0 e_2e), v_8, rfl, hp, r_2h⟩

end Go.Proofs.YthhghkcopfnbiaaGreatDoor

namespace Go.Proofs.YthhghkcopfnbiaaGreatDoor
open Go Go.Proofs.YthhghkcopfnbiaaGreatDoor.Gw Go.RowKit
set_option linter.unusedVariables false
attribute [local irreducible] Ev EvQ EvS EvH
def integer_Parse_S (f : ByteArray → Option (Int_2 × Int)) : Prop := ∀ (w0 : World) (I0 : Nat → Prop) (tb : Tb w0 I0 1 .u64 pow10) (x_0 : ByteArray) (hI : ∀ g, I0 g → g < w0.heap.size) (r : (Int_2 × Int)), f x_0 = some r →
    Ret Tryz.prog 26 #[(.string x_0)] w0 fun v w1 => ∃ (I1 : Nat → Prop) (u_1 : Value), v = (.tuple #[(.agg #[(.bool r.1.Neg), u_1]), (.int .i64 r.2)]) ∧ Hp ⟨w0, I0, []⟩ I1 [] w1 ∧ RepS (dI .u32) w1 I1 u_1 r.1.Mag
theorem integer_Parse_ok (n : Nat) : integer_Parse_S (integer_Parse n) := by
  intro w0 I0 tb x_0 hI r h
  unfold integer_Parse at h
  refine enter Tryz.func26 rfl (Nat.le_of_ble_eq_true rfl) ?_
  have hp : Hp ⟨w0, I0, []⟩ I0 [] w0 := Hp.start hI
  apply go
  apply go
  refine ev_alloc hp rfl T24 ?_
  intro g_1 w_2 hp hs
  replace tb := tb.step hs
  apply go
  apply go
  apply go
  refine ev0 (rn_lenS rfl rfl Tryz.underlying9) ?_
  apply go
  refine sel_of (fun hc => ?_) (fun hc => ?_)
  ·
    have h := cond_t h hc
    apply go
    apply go
    refine ev0 (fun w => rn_build (cs := [(.bool false), (.slice none 0 0)]) rfl rfl T24 PL24 rfl) ?_
    refine ev_storeA hp (i := 0) (off := 0) (vs := [(.bool false), (.slice none 0 0)]) rfl rfl rfl rfl T24 rfl (Nat.le_of_ble_eq_true rfl) (ones_of rfl) ?_
    intro w_3 hp hs
    replace tb := tb.step hs
    apply go
    obtain rfl := Option.some.inj h
    refine ⟨_, run_loadVarA T24 rfl (hp.at_ (i := 0) rfl), ?_⟩
    have hp := hp.sel [] (by decide)
    exact ⟨I0, .slice none 0 0, rfl, hp, RepS.nil _ _ _⟩
  ·
    have h := cond_f h hc
    apply go
    apply go
    apply go
    obtain ⟨⟨x_4, x_5⟩, q_6, h⟩ := bind_some h
    refine ev_call rfl rfl C62 (((strings_CutPrefix_ok n) _ _  x_0 (ByteArray.mk #[45]) hp.imm _ q_6).mono ?_)
    rintro _ w_7 ⟨rfl, hc⟩
    have hs := hp.stp hc
    replace hp := hp.ext hc
    replace tb := tb.step hs
    apply go
    obtain ⟨y_8, q_9, h⟩ := bind_some h
    refine W.cut (γ := Bool) (fun g => [(2, (.pointer (some ⟨g_1, 0, none⟩))), (4, (.string x_4)), (5, (.bool x_5)), (34, (.bool (g)))]) (fun g w' => y_8 = (g) ∧ Hp ⟨w0, I0, []⟩ I0 [some (g_1, [(.bool false), (.slice none 0 0)], 24)] w' ∧ Tb w' I0 1 .u64 pow10) ?_ ?_
    ·
      apply go
      refine sel_of (fun hc => ?_) (fun hc => ?_)
      ·
        have q_9 := cond_t q_9 hc
        obtain rfl := Option.some.inj q_9
        exact ⟨true, (.c rfl (.c rfl (.c rfl (.c rfl .n)))), rfl, hp, tb⟩
      ·
        have q_9 := cond_f q_9 hc
        obtain ⟨x_a, q_b, q_9⟩ := bind_some q_9
        refine ev0 (rn_indexS rfl rfl rfl Tryz.underlying9 q_b) ?_
        refine sel_of (fun hc => ?_) (fun hc => ?_)
        ·
          have q_9 := cond_t q_9 hc
          refine sel_of (fun hc => ?_) (fun hc => ?_)
          ·
            have q_9 := cond_t q_9 hc
            obtain rfl := Option.some.inj q_9
            exact ⟨true, (.c rfl (.c rfl (.c rfl (.c rfl .n)))), rfl, hp, tb⟩
          ·
            have q_9 := cond_f q_9 hc
            obtain ⟨x_c, q_d, q_9⟩ := bind_some q_9
            refine ev_call rfl rfl C63 (((strings_Trim_ok n) _ _  x_4 (ByteArray.mk #[48, 49, 50, 51, 52, 53, 54, 55, 56, 57]) hp.imm _ q_d).mono ?_)
            rintro _ w_e ⟨rfl, hc⟩
            have hs := hp.stp hc
            replace hp := hp.ext hc
            replace tb := tb.step hs
            obtain rfl := Option.some.inj q_9
            exact ⟨(!(x_c.toList == (ByteArray.mk #[]).toList)), (.c rfl (.c rfl (.c rfl (.c rfl .n)))), rfl, hp, tb⟩
        ·
          have q_9 := cond_f q_9 hc
          obtain ⟨x_f, q_g, q_9⟩ := bind_some q_9
          refine ev_call rfl rfl C63 (((strings_Trim_ok n) _ _  x_4 (ByteArray.mk #[48, 49, 50, 51, 52, 53, 54, 55, 56, 57]) hp.imm _ q_g).mono ?_)
          rintro _ w_h ⟨rfl, hc⟩
          have hs := hp.stp hc
          replace hp := hp.ext hc
          replace tb := tb.step hs
          obtain rfl := Option.some.inj q_9
          exact ⟨(!(x_f.toList == (ByteArray.mk #[]).toList)), (.c rfl (.c rfl (.c rfl (.c rfl .n)))), rfl, hp, tb⟩
    ·
      rintro x_i w_j ⟨hy, hp, tb⟩
      replace hy := hy.symm
      subst hy
      apply go
      refine sel_of (fun hc => ?_) (fun hc => ?_)
      ·
        have h := cond_t h hc
        apply go
        apply go
        refine ev0 (fun w => rn_build (cs := [(.bool false), (.slice none 0 0)]) rfl rfl T24 PL24 rfl) ?_
        refine ev_storeA hp (i := 0) (off := 0) (vs := [(.bool false), (.slice none 0 0)]) rfl rfl rfl rfl T24 rfl (Nat.le_of_ble_eq_true rfl) (ones_of rfl) ?_
        intro w_k hp hs
        replace tb := tb.step hs
        apply go
        obtain rfl := Option.some.inj h
        refine ⟨_, run_loadVarA T24 rfl (hp.at_ (i := 0) rfl), ?_⟩
        have hp := hp.sel [] (by decide)
        exact ⟨I0, .slice none 0 0, rfl, hp, RepS.nil _ _ _⟩
      ·
        have h := cond_f h hc
        apply go
        apply go
        apply go
        obtain ⟨y_l, q_m, h⟩ := bind_some h
        refine W.cut (γ := ((List Int) × Value × (Nat → Prop))) (fun g => [(2, (.pointer (some ⟨g_1, 0, none⟩))), (5, (.bool x_5)), (6, (g.2.1))]) (fun g w' => y_l = (g.1) ∧ Hp ⟨w0, I0, []⟩ (g.2.2) [some (g_1, [(.bool false), (.slice none 0 0)], 24)] w' ∧ RepS (dI .u32) w' (g.2.2) (g.2.1) (g.1) ∧ Tb w' (g.2.2) 1 .u64 pow10) ?_ ?_
        ·
          apply go
          refine W.loop q_m (γ := (Value × (Nat → Prop))) (fun s g => [(2, (.pointer (some ⟨g_1, 0, none⟩))), (4, (.string (s.1))), (5, (.bool x_5)), (6, (g.1))]) (fun s g w' => Hp ⟨w0, I0, []⟩ (g.2) [some (g_1, [(.bool false), (.slice none 0 0)], 24)] w' ∧ RepS (dI .u32) w' (g.2) (g.1) (s.2) ∧ Tb w' (g.2) 1 .u64 pow10) ((.slice none 0 0), I0) (.c rfl (.c rfl (.c rfl (.c rfl .n)))) ⟨hp, RepS.nil _ _ _, tb⟩ ?_
          rintro ⟨x_n, x_o⟩ ⟨v_p, I_q⟩ w_r y_s ⟨hp, r_t, tb⟩ q_u q_v
          unfold integer_Parse_L1 at q_u
          apply go
          apply go
          apply go
          refine ev0 (rn_lenS rfl rfl Tryz.underlying9) ?_
          apply go
          refine sel_of (fun hc => ?_) (fun hc => ?_)
          ·
            have q_u := cond_t q_u hc
            apply go
            apply go
            apply go
            apply go
            refine ev0 (rn_lenS rfl rfl Tryz.underlying9) ?_
            refine ⟨by decide, ?_⟩
            apply go
            apply go
            obtain ⟨x_w, q_x, q_u⟩ := bind_some q_u
            refine ev0 (rn_sliceStr (kl := .i64) (kh := .i64) rfl rfl rfl rfl Tryz.underlying9 q_x) ?_
            obtain ⟨⟨x_y, x_z⟩, q_10, q_u⟩ := bind_some q_u
            refine ev_call rfl rfl C64 (((strconv_ParseUint_ok n) _ _ tb x_w 10 32 hp.imm _ q_10).mono ?_)
            rintro _ w_11 ⟨rfl, hc⟩
            have hs := hp.stp hc
            replace hp := hp.ext hc
            replace r_t := r_t.step hs
            replace tb := tb.step hs
            apply go
            apply go
            refine ev_litN (d := (dI .u32)) (xs := [1000000000]) (cs := [(.int .u32 1000000000)]) hp rfl rfl Tryz.underlying22 T45 (by decide) rfl rfl (Elems.cons (d := (dI .u32)) (xs := _) rfl (Elems.nil _ _ _ _)) ?_
            intro v_12 I_13 w_14 hp hs r_15
            replace r_t := r_t.step hs
            replace tb := tb.step hs
            obtain ⟨x_16, q_17, q_u⟩ := bind_some q_u
            refine ev_call rfl rfl C66 (((integer_times_ok n) _ _  x_o v_p r_t [1000000000] v_12 r_15 hp.imm _ q_17).mono ?_)
            rintro _ w_18 ⟨I_19, v_1a, hv, hq, r_1b⟩
            replace hv := hv.symm
            subst hv
            have hs := hq.st
            have hp := hp.join0 hq
            replace tb := tb.step hs
            refine ev0 (rn_conv rfl rfl U49 Tryz.underlying45) ?_
            refine ev_litN (d := (dI .u32)) (xs := [(IntKind.u32.wrap x_y)]) (cs := [(.int .u32 (IntKind.u32.wrap x_y))]) hp rfl rfl Tryz.underlying22 T45 (by decide) rfl rfl (Elems.cons (d := (dI .u32)) (xs := _) rfl (Elems.nil _ _ _ _)) ?_
            intro v_1c I_1d w_1e hp hs r_1f
            replace r_1b := r_1b.step hs
            replace tb := tb.step hs
            obtain ⟨x_1g, q_1h, q_u⟩ := bind_some q_u
            refine ev_call rfl rfl C65 (((integer_plus_ok n) _ _  x_16 v_1a r_1b [(IntKind.u32.wrap x_y)] v_1c r_1f hp.imm _ q_1h).mono ?_)
            rintro _ w_1i ⟨I_1j, v_1k, hv, hq, r_1l⟩
            replace hv := hv.symm
            subst hv
            have hs := hq.st
            have hp := hp.join0 hq
            replace tb := tb.step hs
            obtain ⟨x_1m, q_1n, q_u⟩ := bind_some q_u
            refine ev_call rfl rfl C46 (((integer_trim_ok n) _ _  x_1g v_1k r_1l hp.imm _ q_1n).mono ?_)
            rintro _ w_1o ⟨I_1p, v_1q, hv, hq, r_1r⟩
            replace hv := hv.symm
            subst hv
            have hs := hq.st
            have hp := hp.join0 hq
            replace tb := tb.step hs
            apply go
            obtain ⟨x_1s, q_1t, q_u⟩ := bind_some q_u
            refine ev0 (rn_sliceStr (kl := .i64) (kh := .i64) rfl rfl rfl rfl Tryz.underlying9 q_1t) ?_
            exact ⟨_, (Option.some.inj q_u).symm, (v_1q, I_1p), (.c rfl (.c rfl (.c rfl (.c rfl .n)))), ⟨hp, r_1r, tb⟩⟩
          ·
            have q_u := cond_f q_u hc
            apply go
            have q_1u := congrArg some (q_v _ (Option.some.inj q_u).symm)
            obtain rfl := Option.some.inj q_1u
            exact ⟨(x_o, v_p, I_q), (.c rfl (.c rfl (.c rfl .n))), rfl, hp, r_t, tb⟩
        ·
          rintro ⟨x_1v, v_1w, I_1x⟩ w_1y ⟨hy, hp, r_1z, tb⟩
          replace hy := hy.symm
          subst hy
          apply go
          apply go
          obtain ⟨x_20, q_21, h⟩ := bind_some h
          refine ev_call rfl rfl C49 (((integer_made_ok n) _ _  x_5 x_1v v_1w r_1z hp.imm _ q_21).mono ?_)
          rintro _ w_22 ⟨I_23, v_24, hv, hq, r_25⟩
          replace hv := hv.symm
          subst hv
          have hs := hq.st
          have hp := hp.join0 hq
          replace tb := tb.step hs
          refine ev_storeA hp (i := 0) (off := 0) (vs := [(.bool x_20.Neg), v_24]) rfl rfl rfl rfl T24 rfl (Nat.le_of_ble_eq_true rfl) (ones_cons rfl (ones_cons r_25.one ones_nil)) ?_
          intro w_26 hp hs
          replace r_25 := r_25.step hs
          replace tb := tb.step hs
          apply go
          obtain rfl := Option.some.inj h
          refine ⟨_, run_loadVarA T24 rfl (hp.at_ (i := 0) rfl), ?_⟩
          have hp := hp.sel [] (by decide)
          exact ⟨I_23, v_24, rfl, hp, r_25⟩

end Go.Proofs.YthhghkcopfnbiaaGreatDoor

namespace Go.Proofs.YthhghkcopfnbiaaGreatDoor
open Go Go.Proofs.YthhghkcopfnbiaaGreatDoor.Gw Go.RowKit
set_option linter.unusedVariables false
attribute [local irreducible] Ev EvQ EvS EvH
def integer_Sign_S (f : Int_2 → Option Int) : Prop := ∀ (w0 : World) (I0 : Nat → Prop) (x_0 : Int_2) (v_1 : Value) (r_2 : RepS (dI .u32) w0 I0 v_1 x_0.Mag) (hI : ∀ g, I0 g → g < w0.heap.size) (r : Int), f x_0 = some r →
    Ret Tryz.prog 23 #[(.agg #[(.bool x_0.Neg), v_1])] w0 fun v w1 => v = (.int .i64 r) ∧ Ch [] w0 w1
theorem integer_Sign_ok (n : Nat) : integer_Sign_S (integer_Sign n) := by
  intro w0 I0 x_0 v_1 r_2 hI r h
  unfold integer_Sign at h
  refine enter Tryz.func23 rfl (Nat.le_of_ble_eq_true rfl) ?_
  have hp : Hp ⟨w0, I0, []⟩ I0 [] w0 := Hp.start hI
  apply go
  apply go
  refine ev_boxI hp rfl rfl ?_
  intro p_3 I_4 w_5 hp hs a_6
  replace r_2 := r_2.step hs
  apply go
  apply go
  apply go
  apply go
  refine ev0 (rn_field rfl rfl FO24_1) ?_
  refine ev (rn_load rfl rfl (run_loadVar1 T22 (a_6.2 1 _ rfl))) ?_
  obtain ⟨x_7, q_8, h⟩ := bind_some h
  refine ev_call rfl rfl C46 (((integer_trim_ok n) _ _  x_0.Mag v_1 r_2 hp.imm _ q_8).mono ?_)
  rintro _ w_9 ⟨I_a, v_b, hv, hq, r_c⟩
  replace hv := hv.symm
  subst hv
  have hs := hq.st
  have hp := hp.join0 hq
  replace a_6 := a_6.step hs
  replace r_2 := r_2.step hs
  refine ev0 (rn_len rfl rfl Tryz.underlying22 r_c) ?_
  apply go
  refine sel_of (fun hc => ?_) (fun hc => ?_)
  ·
    have h := cond_t h hc
    apply go
    apply go
    apply go
    obtain rfl := Option.some.inj h
    exact ⟨rfl, hp.ch⟩
  ·
    have h := cond_f h hc
    apply go
    apply go
    refine ev0 (rn_field rfl rfl FO24_0) ?_
    refine ev (rn_load rfl rfl (run_loadVar1 T4 (a_6.2 0 _ rfl))) ?_
    apply go
    refine sel_of (fun hc => ?_) (fun hc => ?_)
    ·
      have h := cond_t h hc
      apply go
      apply go
      apply go
      obtain rfl := Option.some.inj h
      exact ⟨rfl, hp.ch⟩
    ·
      have h := cond_f h hc
      apply go
      apply go
      apply go
      apply go
      obtain rfl := Option.some.inj h
      exact ⟨rfl, hp.ch⟩

end Go.Proofs.YthhghkcopfnbiaaGreatDoor

namespace Go.Proofs.YthhghkcopfnbiaaGreatDoor
open Go Go.Proofs.YthhghkcopfnbiaaGreatDoor.Gw Go.RowKit
set_option linter.unusedVariables false
attribute [local irreducible] Ev EvQ EvS EvH
def integer_Cmp_S (f : Int_2 → Int_2 → Option Int) : Prop := ∀ (w0 : World) (I0 : Nat → Prop) (x_0 : Int_2) (v_1 : Value) (r_2 : RepS (dI .u32) w0 I0 v_1 x_0.Mag) (x_3 : Int_2) (v_4 : Value) (r_5 : RepS (dI .u32) w0 I0 v_4 x_3.Mag) (hI : ∀ g, I0 g → g < w0.heap.size) (r : Int), f x_0 x_3 = some r →
    Ret Tryz.prog 17 #[(.agg #[(.bool x_0.Neg), v_1]), (.agg #[(.bool x_3.Neg), v_4])] w0 fun v w1 => v = (.int .i64 r) ∧ Ch [] w0 w1
theorem integer_Cmp_ok (n : Nat) : integer_Cmp_S (integer_Cmp n) := by
  intro w0 I0 x_0 v_1 r_2 x_3 v_4 r_5 hI r h
  unfold integer_Cmp at h
  refine enter Tryz.func17 rfl (Nat.le_of_ble_eq_true rfl) ?_
  have hp : Hp ⟨w0, I0, []⟩ I0 [] w0 := Hp.start hI
  apply go
  apply go
  refine ev_boxI hp rfl rfl ?_
  intro p_6 I_7 w_8 hp hs a_9
  replace r_5 := r_5.step hs
  replace r_2 := r_2.step hs
  refine ev_boxI hp rfl rfl ?_
  intro p_a I_b w_c hp hs a_d
  replace a_9 := a_9.step hs
  replace r_2 := r_2.step hs
  replace r_5 := r_5.step hs
  apply go
  refine W.quiet (fun w' => Ch [] w_c w') MX (by kernel_rfl) (Ch.drew [] w_c) ?_
  refine evq (fun w' hw => rn_load rfl rfl (run_loadVarA T24 rfl (a_9.step (hp.stp hw)))) ?_
  obtain ⟨x_e, q_f, h⟩ := bind_some h
  refine evq_call rfl rfl C23 (fun w' hw => ((integer_Sign_ok n) _ _  (Int_2.mk x_0.Neg x_0.Mag) v_1 (r_2.step (hp.stp hw)) (hp.ext hw).imm _ q_f).mono fun _ _ ⟨e, hc⟩ => ⟨e, hw.trans hc⟩) ?_
  refine evq (fun w' hw => rn_load rfl rfl (run_loadVarA T24 rfl (a_d.step (hp.stp hw)))) ?_
  obtain ⟨x_g, q_h, h⟩ := bind_some h
  refine evq_call rfl rfl C23 (fun w' hw => ((integer_Sign_ok n) _ _  (Int_2.mk x_3.Neg x_3.Mag) v_4 (r_5.step (hp.stp hw)) (hp.ext hw).imm _ q_h).mono fun _ _ ⟨e, hc⟩ => ⟨e, hw.trans hc⟩) ?_
  intro w_i hc
  have hs := hp.stp hc
  replace hp := hp.ext hc
  replace a_9 := a_9.step hs
  replace r_2 := r_2.step hs
  replace a_d := a_d.step hs
  replace r_5 := r_5.step hs
  apply go
  apply go
  apply go
  apply go
  apply go
  refine sel_of (fun hc => ?_) (fun hc => ?_)
  ·
    have h := cond_t h hc
    apply go
    apply go
    apply go
    obtain rfl := Option.some.inj h
    exact ⟨rfl, hp.ch⟩
  ·
    have h := cond_f h hc
    apply go
    apply go
    apply go
    refine sel_of (fun hc => ?_) (fun hc => ?_)
    ·
      have h := cond_t h hc
      apply go
      apply go
      apply go
      obtain rfl := Option.some.inj h
      exact ⟨rfl, hp.ch⟩
    ·
      have h := cond_f h hc
      apply go
      apply go
      have hs := hp.stp (Ch.drew [] w_i)
      have hp := hp.drew
      replace a_9 := a_9.step hs
      replace r_2 := r_2.step hs
      replace a_d := a_d.step hs
      replace r_5 := r_5.step hs
      refine W.held [(0, true), (1, true), (2, true), (4, true), (5, true), (3, false), (6, false), (7, false), (8, true), (9, true)] (Stp I_b w_i.drew I_b) MX (by kernel_rfl) (Stp.refl _ _) ?_
      have hz := Stp.refl I_b w_i.drew
      refine evh0 (rn_field rfl rfl FO24_1) ?_
      refine evh (fun w' hw => rn_load rfl rfl (run_loadVar1 T22 ((a_9.step hw).2 1 _ rfl))) ?_
      refine evh0 (rn_field rfl rfl FO24_1) ?_
      refine evh (fun w' hw => rn_load rfl rfl (run_loadVar1 T22 ((a_d.step hw).2 1 _ rfl))) ?_
      obtain ⟨x_j, q_k, h⟩ := bind_some h
      refine ev_call rfl rfl C46 (((integer_trim_ok n) _ _  x_0.Mag v_1 r_2 hp.imm _ q_k).mono ?_)
      rintro _ w_l ⟨I_m, v_n, hv, hq, r_o⟩
      replace hv := hv.symm
      subst hv
      have hs := hq.st
      have hp := hp.join0 hq
      replace hz := hz.trans hs
      replace r_5 := r_5.step hs
      refine ⟨Stp I_m w_l I_m, Stp.refl _ _, fun x hx => hz.held hx, ?_⟩
      have hz := Stp.refl I_m w_l
      obtain ⟨x_p, q_q, h⟩ := bind_some h
      refine ev_call rfl rfl C46 (((integer_trim_ok n) _ _  x_3.Mag v_4 r_5 hp.imm _ q_q).mono ?_)
      rintro _ w_r ⟨I_s, v_t, hv, hq, r_u⟩
      replace hv := hv.symm
      subst hv
      have hs := hq.st
      have hp := hp.join0 hq
      replace hz := hz.trans hs
      replace r_o := r_o.step hs
      refine ⟨Stp I_s w_r I_s, Stp.refl _ _, fun x hx => hz.held hx, ?_⟩
      have hz := Stp.refl I_s w_r
      obtain ⟨x_v, q_w, h⟩ := bind_some h
      refine ev_call rfl rfl C48 (((integer_compare_ok n) _ _  x_j v_n r_o x_p v_t r_u hp.imm _ q_w).mono ?_)
      rintro _ w_x ⟨rfl, hc⟩
      have hs := hp.stp hc
      replace hp := hp.ext hc
      replace hz := hz.trans hs
      refine ⟨Stp I_s w_x I_s, Stp.refl _ _, fun x hx => hz.held hx, ?_⟩
      have hz := Stp.refl I_s w_x
      apply go
      obtain rfl := Option.some.inj h
      exact ⟨rfl, hp.ch⟩

end Go.Proofs.YthhghkcopfnbiaaGreatDoor

namespace Go.Proofs.YthhghkcopfnbiaaGreatDoor
open Go Go.Proofs.YthhghkcopfnbiaaGreatDoor.Gw Go.RowKit
set_option linter.unusedVariables false
attribute [local irreducible] Ev EvQ EvS EvH
def integer_Sqrt_S (f : Int_2 → Option (Int_2 × Int)) : Prop := ∀ (w0 : World) (I0 : Nat → Prop) (x_0 : Int_2) (v_1 : Value) (r_2 : RepS (dI .u32) w0 I0 v_1 x_0.Mag) (hI : ∀ g, I0 g → g < w0.heap.size) (r : (Int_2 × Int)), f x_0 = some r →
    Ret Tryz.prog 33 #[(.agg #[(.bool x_0.Neg), v_1])] w0 fun v w1 => ∃ (I1 : Nat → Prop) (u_3 : Value), v = (.tuple #[(.agg #[(.bool r.1.Neg), u_3]), (.int .i64 r.2)]) ∧ Hp ⟨w0, I0, []⟩ I1 [] w1 ∧ RepS (dI .u32) w1 I1 u_3 r.1.Mag
theorem integer_Sqrt_ok (n : Nat) : integer_Sqrt_S (integer_Sqrt n) := by
  intro w0 I0 x_0 v_1 r_2 hI r h
  unfold integer_Sqrt at h
  refine enter Tryz.func33 rfl (Nat.le_of_ble_eq_true rfl) ?_
  have hp : Hp ⟨w0, I0, []⟩ I0 [] w0 := Hp.start hI
  apply go
  apply go
  refine ev_boxI hp rfl rfl ?_
  intro p_3 I_4 w_5 hp hs a_6
  replace r_2 := r_2.step hs
  refine ev_alloc hp rfl T24 ?_
  intro g_7 w_8 hp hs
  replace a_6 := a_6.step hs
  replace r_2 := r_2.step hs
  apply go
  apply go
  apply go
  refine ev (rn_load rfl rfl (run_loadVarA T24 rfl a_6)) ?_
  obtain ⟨x_9, q_a, h⟩ := bind_some h
  refine ev_call rfl rfl C23 (((integer_Sign_ok n) _ _  (Int_2.mk x_0.Neg x_0.Mag) v_1 r_2 hp.imm _ q_a).mono ?_)
  rintro _ w_b ⟨rfl, hc⟩
  have hs := hp.stp hc
  replace hp := hp.ext hc
  replace a_6 := a_6.step hs
  replace r_2 := r_2.step hs
  apply go
  apply go
  apply go
  apply go
  refine sel_of (fun hc => ?_) (fun hc => ?_)
  ·
    have h := cond_t h hc
    apply go
    apply go
    refine ev0 (fun w => rn_build (cs := [(.bool false), (.slice none 0 0)]) rfl rfl T24 PL24 rfl) ?_
    refine ev_storeA hp (i := 0) (off := 0) (vs := [(.bool false), (.slice none 0 0)]) rfl rfl rfl rfl T24 rfl (Nat.le_of_ble_eq_true rfl) (ones_of rfl) ?_
    intro w_c hp hs
    apply go
    obtain rfl := Option.some.inj h
    refine ⟨_, run_loadVarA T24 rfl (hp.at_ (i := 0) rfl), ?_⟩
    have hp := hp.sel [] (by decide)
    exact ⟨I_4, .slice none 0 0, rfl, hp, RepS.nil _ _ _⟩
  ·
    have h := cond_f h hc
    apply go
    apply go
    apply go
    refine sel_of (fun hc => ?_) (fun hc => ?_)
    ·
      have h := cond_t h hc
      apply go
      apply go
      refine ev0 (fun w => rn_build (cs := [(.bool false), (.slice none 0 0)]) rfl rfl T24 PL24 rfl) ?_
      refine ev_storeA hp (i := 0) (off := 0) (vs := [(.bool false), (.slice none 0 0)]) rfl rfl rfl rfl T24 rfl (Nat.le_of_ble_eq_true rfl) (ones_of rfl) ?_
      intro w_d hp hs
      apply go
      obtain rfl := Option.some.inj h
      refine ⟨_, run_loadVarA T24 rfl (hp.at_ (i := 0) rfl), ?_⟩
      have hp := hp.sel [] (by decide)
      exact ⟨I_4, .slice none 0 0, rfl, hp, RepS.nil _ _ _⟩
    ·
      have h := cond_f h hc
      apply go
      apply go
      apply go
      refine ev (rn_load rfl rfl (run_loadVarA T24 rfl a_6)) ?_
      obtain ⟨x_e, q_f, h⟩ := bind_some h
      refine ev_call rfl rfl C19 (((integer_Bits_ok n) _ _  (Int_2.mk x_0.Neg x_0.Mag) v_1 r_2 hp.imm _ q_f).mono ?_)
      rintro _ w_g ⟨rfl, hc⟩
      have hs := hp.stp hc
      replace hp := hp.ext hc
      replace a_6 := a_6.step hs
      replace r_2 := r_2.step hs
      refine ⟨by decide, ?_⟩
      apply go
      apply go
      refine ⟨by decide, ?_⟩
      obtain ⟨x_h, q_i, h⟩ := bind_some h
      refine ev_make (d := (dI .u32)) (x0 := 0) hp rfl rfl rfl Tryz.underlying22 T45 (fun _ _ => rfl) (Nat.le_of_ble_eq_true rfl) q_i ?_
      intro v_j e_k w_l hp hs o_m
      replace a_6 := a_6.step hs
      replace r_2 := r_2.step hs
      apply go
      apply go
      refine ⟨by decide, ?_⟩
      refine ⟨by decide, ?_⟩
      obtain ⟨q_n, _, h⟩ := need_some h
      refine ⟨q_n, ?_⟩
      obtain ⟨x_o, q_p, h⟩ := bind_some h
      refine ev_indexO rfl rfl rfl Tryz.underlying22 T45 o_m q_p ?_
      intro g_q c_r h_s d_t l_u
      refine ev_storeE hp (i := 0) rfl h_s rfl rfl rfl T45 o_m q_p (x0 := (IntKind.u32.wrap ((1 : Int) * 2 ^ min ((IntKind.i64.wrap ((IntKind.i64.wrap (x_e + 1)).tdiv 2)).tmod 32).toNat (IntKind.u32).bits))) rfl ?_
      intro e_v w_w hp hs o_x
      replace a_6 := a_6.step hs
      replace r_2 := r_2.step hs
      apply go
      apply go
      have r_y := o_x.frz hp (i := 0) rfl
      obtain ⟨hp, hs⟩ := freeze_hp hp (i := 0) rfl
      replace a_6 := a_6.step hs
      replace r_2 := r_2.step hs
      have hp := hp.sel [1] (by decide)
      obtain ⟨x_z, q_10, h⟩ := bind_some h
      refine ev_call rfl rfl C49 (((integer_made_ok n) _ _  false (upd x_h (IntKind.i64.wrap ((IntKind.i64.wrap ((IntKind.i64.wrap (x_e + 1)).tdiv 2)).tdiv 32)) (IntKind.u32.wrap ((1 : Int) * 2 ^ min ((IntKind.i64.wrap ((IntKind.i64.wrap (x_e + 1)).tdiv 2)).tmod 32).toNat (IntKind.u32).bits))) v_j r_y hp.imm _ q_10).mono ?_)
      rintro _ w_11 ⟨I_12, v_13, hv, hq, r_14⟩
      replace hv := hv.symm
      subst hv
      have hs := hq.st
      have hp := hp.join0 hq
      replace a_6 := a_6.step hs
      replace r_2 := r_2.step hs
      refine ev_alloc hp rfl T24 ?_
      intro g_15 w_16 hp hs
      replace a_6 := a_6.step hs
      replace r_2 := r_2.step hs
      replace r_14 := r_14.step hs
      refine ev_storeA hp (i := 0) (off := 0) (vs := [(.bool x_z.Neg), v_13]) rfl rfl rfl rfl T24 rfl (Nat.le_of_ble_eq_true rfl) (ones_cons rfl (ones_cons r_14.one ones_nil)) ?_
      intro w_17 hp hs
      replace a_6 := a_6.step hs
      replace r_2 := r_2.step hs
      replace r_14 := r_14.step hs
      apply go
      have hp := hp.perm [1, 0] (by decide)
      refine W.loop h (γ := (Value × (Nat → Prop))) (fun s g => [(1, (.pointer (some (p_3)))), (2, (.pointer (some ⟨g_7, 0, none⟩))), (6, (.pointer (some ⟨g_15, 0, none⟩)))]) (fun s g w' => Hp ⟨w0, I0, []⟩ (g.2) [some (g_7, [(.bool false), (.slice none 0 0)], 24), some (g_15, [(.bool (s.1)), (g.1)], 24)] w' ∧ RepS (dI .u32) w' (g.2) v_1 x_0.Mag ∧ At w' (g.2) p_3 [(.bool x_0.Neg), v_1] ∧ RepS (dI .u32) w' (g.2) (g.1) (s.2)) (v_13, I_12) (.c rfl (.c rfl (.c rfl .n))) ⟨hp, r_2, a_6, r_14⟩ ?_
      rintro ⟨x_18, x_19⟩ ⟨v_1a, I_1b⟩ w_1c y_1d ⟨hp, r_2, a_6, r_1e⟩ q_1f q_1g
      unfold integer_Sqrt_L0 at q_1f
      apply go
      apply go
      apply go
      refine ev (rn_load rfl rfl (run_loadVarA T24 rfl a_6)) ?_
      refine ev (rn_load rfl rfl (run_loadVarA T24 rfl (hp.at_ (i := 1) rfl))) ?_
      obtain ⟨⟨x_1h, x_1i, x_1j⟩, q_1k, q_1f⟩ := bind_some q_1f
      refine ev_call rfl rfl C24 (((integer_DivMod_ok n) _ _  (Int_2.mk x_0.Neg x_0.Mag) v_1 r_2 (Int_2.mk x_18 x_19) v_1a r_1e hp.imm _ q_1k).mono ?_)
      rintro _ w_1l ⟨I_1m, v_1n, v_1o, hv, hq, r_1p, r_1q⟩
      replace hv := hv.symm
      subst hv
      have hs := hq.st
      have hp := hp.join0 hq
      replace a_6 := a_6.step hs
      replace r_2 := r_2.step hs
      replace r_1e := r_1e.step hs
      refine ev_alloc hp rfl T24 ?_
      intro g_1r w_1s hp hs
      replace a_6 := a_6.step hs
      replace r_2 := r_2.step hs
      replace r_1p := r_1p.step hs
      replace r_1q := r_1q.step hs
      replace r_1e := r_1e.step hs
      refine ev_alloc hp rfl T24 ?_
      intro g_1t w_1u hp hs
      replace a_6 := a_6.step hs
      replace r_2 := r_2.step hs
      replace r_1p := r_1p.step hs
      replace r_1q := r_1q.step hs
      replace r_1e := r_1e.step hs
      refine ev_storeA hp (i := 1) (off := 0) (vs := [(.bool x_1h.Neg), v_1n]) rfl rfl rfl rfl T24 rfl (Nat.le_of_ble_eq_true rfl) (ones_cons rfl (ones_cons r_1p.one ones_nil)) ?_
      intro w_1v hp hs
      replace a_6 := a_6.step hs
      replace r_2 := r_2.step hs
      replace r_1q := r_1q.step hs
      replace r_1p := r_1p.step hs
      replace r_1e := r_1e.step hs
      refine ev_storeA hp (i := 0) (off := 0) (vs := [(.bool x_1i.Neg), v_1o]) rfl rfl rfl rfl T24 rfl (Nat.le_of_ble_eq_true rfl) (ones_cons rfl (ones_cons r_1q.one ones_nil)) ?_
      intro w_1w hp hs
      replace a_6 := a_6.step hs
      replace r_2 := r_2.step hs
      replace r_1q := r_1q.step hs
      replace r_1p := r_1p.step hs
      replace r_1e := r_1e.step hs
      apply go
      apply go
      refine ev (rn_load rfl rfl (run_loadVarA T24 rfl (hp.at_ (i := 3) rfl))) ?_
      refine ev (rn_load rfl rfl (run_loadVarA T24 rfl (hp.at_ (i := 1) rfl))) ?_
      obtain ⟨x_1x, q_1y, q_1f⟩ := bind_some q_1f
      refine ev_call rfl rfl C30 (((integer_Add_ok n) _ _  (Int_2.mk x_18 x_19) v_1a r_1e (Int_2.mk x_1h.Neg x_1h.Mag) v_1n r_1p hp.imm _ q_1y).mono ?_)
      rintro _ w_1z ⟨I_20, v_21, hv, hq, r_22⟩
      replace hv := hv.symm
      subst hv
      have hs := hq.st
      have hp := hp.join0 hq
      replace a_6 := a_6.step hs
      replace r_2 := r_2.step hs
      replace r_1q := r_1q.step hs
      replace r_1p := r_1p.step hs
      replace r_1e := r_1e.step hs
      obtain ⟨x_23, q_24, q_1f⟩ := bind_some q_1f
      refine ev_call rfl rfl C18 (((integer_Of_ok n) _ _  2 hp.imm _ q_24).mono ?_)
      rintro _ w_25 ⟨I_26, v_27, hv, hq, r_28⟩
      replace hv := hv.symm
      subst hv
      have hs := hq.st
      have hp := hp.join0 hq
      replace a_6 := a_6.step hs
      replace r_2 := r_2.step hs
      replace r_22 := r_22.step hs
      replace r_1q := r_1q.step hs
      replace r_1p := r_1p.step hs
      replace r_1e := r_1e.step hs
      obtain ⟨⟨x_29, x_2a, x_2b⟩, q_2c, q_1f⟩ := bind_some q_1f
      refine ev_call rfl rfl C24 (((integer_DivMod_ok n) _ _  x_1x v_21 r_22 x_23 v_27 r_28 hp.imm _ q_2c).mono ?_)
      rintro _ w_2d ⟨I_2e, v_2f, v_2g, hv, hq, r_2h, r_2i⟩
      replace hv := hv.symm
      subst hv
      have hs := hq.st
      have hp := hp.join0 hq
      replace a_6 := a_6.step hs
      replace r_2 := r_2.step hs
      replace r_1q := r_1q.step hs
      replace r_1p := r_1p.step hs
      replace r_1e := r_1e.step hs
      refine ev_alloc hp rfl T24 ?_
      intro g_2j w_2k hp hs
      replace a_6 := a_6.step hs
      replace r_2 := r_2.step hs
      replace r_2h := r_2h.step hs
      replace r_2i := r_2i.step hs
      replace r_1q := r_1q.step hs
      replace r_1p := r_1p.step hs
      replace r_1e := r_1e.step hs
      refine ev_alloc hp rfl T24 ?_
      intro g_2l w_2m hp hs
      replace a_6 := a_6.step hs
      replace r_2 := r_2.step hs
      replace r_2h := r_2h.step hs
      replace r_2i := r_2i.step hs
      replace r_1q := r_1q.step hs
      replace r_1p := r_1p.step hs
      replace r_1e := r_1e.step hs
      refine ev_storeA hp (i := 1) (off := 0) (vs := [(.bool x_29.Neg), v_2f]) rfl rfl rfl rfl T24 rfl (Nat.le_of_ble_eq_true rfl) (ones_cons rfl (ones_cons r_2h.one ones_nil)) ?_
      intro w_2n hp hs
      replace a_6 := a_6.step hs
      replace r_2 := r_2.step hs
      replace r_2i := r_2i.step hs
      replace r_2h := r_2h.step hs
      replace r_1q := r_1q.step hs
      replace r_1p := r_1p.step hs
      replace r_1e := r_1e.step hs
      refine ev_storeA hp (i := 0) (off := 0) (vs := [(.bool x_2a.Neg), v_2g]) rfl rfl rfl rfl T24 rfl (Nat.le_of_ble_eq_true rfl) (ones_cons rfl (ones_cons r_2i.one ones_nil)) ?_
      intro w_2o hp hs
      replace a_6 := a_6.step hs
      replace r_2 := r_2.step hs
      replace r_2i := r_2i.step hs
      replace r_2h := r_2h.step hs
      replace r_1q := r_1q.step hs
      replace r_1p := r_1p.step hs
      replace r_1e := r_1e.step hs
      apply go
      apply go
      apply go
      refine ev (rn_load rfl rfl (run_loadVarA T24 rfl (hp.at_ (i := 1) rfl))) ?_
      refine ev (rn_load rfl rfl (run_loadVarA T24 rfl (hp.at_ (i := 5) rfl))) ?_
      obtain ⟨x_2p, q_2q, q_1f⟩ := bind_some q_1f
      refine ev_call rfl rfl C17 (((integer_Cmp_ok n) _ _  (Int_2.mk x_29.Neg x_29.Mag) v_2f r_2h (Int_2.mk x_18 x_19) v_1a r_1e hp.imm _ q_2q).mono ?_)
      rintro _ w_2r ⟨rfl, hc⟩
      have hs := hp.stp hc
      replace hp := hp.ext hc
      replace a_6 := a_6.step hs
      replace r_2 := r_2.step hs
      replace r_2i := r_2i.step hs
      replace r_2h := r_2h.step hs
      replace r_1q := r_1q.step hs
      replace r_1p := r_1p.step hs
      replace r_1e := r_1e.step hs
      apply go
      refine sel_of (fun hc => ?_) (fun hc => ?_)
      ·
        have q_1f := cond_t q_1f hc
        apply go
        apply go
        refine ev (rn_load rfl rfl (run_loadVarA T24 rfl (hp.at_ (i := 5) rfl))) ?_
        refine ev_storeA hp (i := 4) (off := 0) (vs := [(.bool x_18), v_1a]) rfl rfl rfl rfl T24 rfl (Nat.le_of_ble_eq_true rfl) (ones_cons rfl (ones_cons r_1e.one ones_nil)) ?_
        intro w_2s hp hs
        replace r_2i := r_2i.step hs
        replace r_2h := r_2h.step hs
        replace r_1q := r_1q.step hs
        replace r_1p := r_1p.step hs
        replace r_1e := r_1e.step hs
        apply go
        have q_2t := congrArg some (q_1g _ (Option.some.inj q_1f).symm)
        obtain rfl := Option.some.inj q_2t
        refine ⟨_, run_loadVarA T24 rfl (hp.at_ (i := 4) rfl), ?_⟩
        have hp := hp.sel [] (by decide)
        exact ⟨I_2e, v_1a, rfl, hp, r_1e⟩
      ·
        have q_1f := cond_f q_1f hc
        apply go
        apply go
        refine ev (rn_load rfl rfl (run_loadVarA T24 rfl (hp.at_ (i := 1) rfl))) ?_
        refine ev_storeA hp (i := 5) (off := 0) (vs := [(.bool x_29.Neg), v_2f]) rfl rfl rfl rfl T24 rfl (Nat.le_of_ble_eq_true rfl) (ones_cons rfl (ones_cons r_2h.one ones_nil)) ?_
        intro w_2u hp hs
        replace a_6 := a_6.step hs
        replace r_2 := r_2.step hs
        replace r_2i := r_2i.step hs
        replace r_2h := r_2h.step hs
        replace r_1q := r_1q.step hs
        replace r_1p := r_1p.step hs
        have hp := hp.sel [4, 5] (by decide)
        exact ⟨_, (Option.some.inj q_1f).symm, (v_2f, I_2e), (.c rfl (.c rfl (.c rfl .n))), ⟨hp, r_2, a_6, r_2h⟩⟩

end Go.Proofs.YthhghkcopfnbiaaGreatDoor

namespace Go.Proofs.YthhghkcopfnbiaaGreatDoor
open Go Go.Proofs.YthhghkcopfnbiaaGreatDoor.Gw Go.RowKit
set_option linter.unusedVariables false
attribute [local irreducible] Ev EvQ EvS EvH
def ref01_trim_S (f : (List Int) → Option (List Int)) : Prop := ∀ (w0 : World) (I0 : Nat → Prop) (x_0 : (List Int)) (v_1 : Value) (r_2 : RepS (dI .u32) w0 I0 v_1 x_0) (hI : ∀ g, I0 g → g < w0.heap.size) (r : (List Int)), f x_0 = some r →
    Ret Tryz.prog 47 #[v_1] w0 fun v w1 => ∃ (I1 : Nat → Prop) (u_3 : Value) (u_4 : Ent), v = u_3 ∧ Hp ⟨w0, I0, []⟩ I1 [u_4] w1 ∧ OwnS (dI .u32) 45 w1 I1 u_3 u_4 r
theorem ref01_trim_ok (n : Nat) : ref01_trim_S (ref01_trim n) := by
  intro w0 I0 x_0 v_1 r_2 hI r h
  unfold ref01_trim at h
  refine enter Tryz.func47 rfl (Nat.le_of_ble_eq_true rfl) ?_
  have hp : Hp ⟨w0, I0, []⟩ I0 [] w0 := Hp.start hI
  apply go
  apply go
  obtain ⟨y_3, q_4, h⟩ := bind_some h
  refine W.cut (γ := ((List Int) × Value)) (fun g => [(0, (g.2))]) (fun g w' => y_3 = (g.1) ∧ w0 = w' ∧ RepS (dI .u32) w' I0 (g.2) (g.1)) ?_ ?_
  ·
    apply go
    refine W.loop q_4 (γ := Value) (fun s g => [(0, (g))]) (fun s g w' => w0 = w' ∧ RepS (dI .u32) w' I0 (g) (s)) v_1 (.c rfl .n) ⟨rfl, r_2⟩ ?_
    rintro x_5 v_6 _ y_7 ⟨rfl, r_8⟩ q_9 q_a
    unfold ref01_trim_L1 at q_9
    apply go
    obtain ⟨y_b, q_c, q_9⟩ := bind_some q_9
    refine W.cut (γ := Bool) (fun g => [(0, v_6), (14, (.bool (g)))]) (fun g w' => y_b = (g) ∧ w0 = w') ?_ ?_
    ·
      apply go
      refine ev0 (rn_len rfl rfl Tryz.underlying22 r_8) ?_
      refine sel_of (fun hc => ?_) (fun hc => ?_)
      ·
        have q_c := cond_t q_c hc
        refine ev0 (rn_len rfl rfl Tryz.underlying22 r_8) ?_
        obtain ⟨x_d, q_e, q_c⟩ := bind_some q_c
        refine ev_index rfl rfl rfl Tryz.underlying22 T45 r_8 q_e ?_
        intro p_f c_g d_h a_i
        obtain rfl : c_g = [(.int .u32 x_d)] := d_h
        refine ev (rn_load rfl rfl (run_loadVar1 T45 (a_i.2 0 _ rfl))) ?_
        obtain rfl := Option.some.inj q_c
        exact ⟨(x_d == 0), (.c rfl (.c rfl .n)), rfl, rfl⟩
      ·
        have q_c := cond_f q_c hc
        obtain rfl := Option.some.inj q_c
        exact ⟨false, (.c rfl (.c rfl .n)), rfl, rfl⟩
    ·
      rintro x_j _ ⟨hy, rfl⟩
      replace hy := hy.symm
      subst hy
      apply go
      refine sel_of (fun hc => ?_) (fun hc => ?_)
      ·
        have q_9 := cond_t q_9 hc
        apply go
        apply go
        apply go
        refine ev0 (rn_len rfl rfl Tryz.underlying22 r_8) ?_
        obtain ⟨x_k, q_l, q_9⟩ := bind_some q_9
        refine ev_slice (kl := .i64) (kh := .i64) rfl rfl rfl rfl Tryz.underlying22 T45 r_8 q_l ?_
        intro v_m r_n
        exact ⟨_, (Option.some.inj q_9).symm, v_m, (.c rfl .n), ⟨rfl, r_n⟩⟩
      ·
        have q_9 := cond_f q_9 hc
        apply go
        have q_o := congrArg some (q_a _ (Option.some.inj q_9).symm)
        obtain rfl := Option.some.inj q_o
        exact ⟨(x_5, v_6), (.c rfl .n), rfl, rfl, r_8⟩
  ·
    rintro ⟨x_p, v_q⟩ _ ⟨hy, rfl, r_r⟩
    replace hy := hy.symm
    subst hy
    apply go
    apply go
    refine ev_litON (d := (dI .u32)) (xs := ([] : List Int)) (cs := []) hp rfl rfl Tryz.underlying22 T45 (by decide) (by decide) rfl rfl (Elems.nil _ _ _ _) ?_
    intro v_s e_t w_u hp hs o_v
    replace r_r := r_r.step hs
    obtain ⟨x_w, q_x, h⟩ := bind_some h
    refine ev_append hp (i := 0) rfl rfl rfl rfl Tryz.underlying22 T45 rfl rfl o_v r_r q_x ?_
    rintro v_y e_z w_10 hp hs o_11
    apply go
    obtain rfl := Option.some.inj h
    exact ⟨I0, v_y, e_z, rfl, hp, o_11⟩

end Go.Proofs.YthhghkcopfnbiaaGreatDoor

namespace Go.Proofs.YthhghkcopfnbiaaGreatDoor
open Go Go.Proofs.YthhghkcopfnbiaaGreatDoor.Gw Go.RowKit
set_option linter.unusedVariables false
attribute [local irreducible] Ev EvQ EvS EvH
def ref01_Norm_S (f : Int_2 → Option Int_2) : Prop := ∀ (w0 : World) (I0 : Nat → Prop) (x_0 : Int_2) (v_1 : Value) (r_2 : RepS (dI .u32) w0 I0 v_1 x_0.Mag) (hI : ∀ g, I0 g → g < w0.heap.size) (r : Int_2), f x_0 = some r →
    Ret Tryz.prog 28 #[(.agg #[(.bool x_0.Neg), v_1])] w0 fun v w1 => ∃ (I1 : Nat → Prop) (u_3 : Value), v = (.agg #[(.bool r.Neg), u_3]) ∧ Hp ⟨w0, I0, []⟩ I1 [] w1 ∧ RepS (dI .u32) w1 I1 u_3 r.Mag
theorem ref01_Norm_ok (n : Nat) : ref01_Norm_S (ref01_Norm n) := by
  intro w0 I0 x_0 v_1 r_2 hI r h
  unfold ref01_Norm at h
  refine enter Tryz.func28 rfl (Nat.le_of_ble_eq_true rfl) ?_
  have hp : Hp ⟨w0, I0, []⟩ I0 [] w0 := Hp.start hI
  apply go
  apply go
  refine ev_boxI hp rfl rfl ?_
  intro p_3 I_4 w_5 hp hs a_6
  replace r_2 := r_2.step hs
  refine ev_alloc hp rfl T24 ?_
  intro g_7 w_8 hp hs
  replace a_6 := a_6.step hs
  replace r_2 := r_2.step hs
  apply go
  apply go
  refine ev0 (rn_field rfl rfl FO24_1) ?_
  refine ev (rn_load rfl rfl (run_loadVar1 T22 (a_6.2 1 _ rfl))) ?_
  obtain ⟨x_9, q_a, h⟩ := bind_some h
  refine ev_call rfl rfl C47 (((ref01_trim_ok n) _ _  x_0.Mag v_1 r_2 hp.imm _ q_a).mono ?_)
  rintro _ w_b ⟨I_c, v_d, e_e, hv, hq, o_f⟩
  replace hv := hv.symm
  subst hv
  have hs := hq.st
  have hp := hp.join0 hq
  replace a_6 := a_6.step hs
  replace r_2 := r_2.step hs
  obtain ⟨y_g, q_h, h⟩ := bind_some h
  refine W.cut (γ := (Bool × (List Int) × Value × Ent)) (fun g => [(2, (.pointer (some ⟨g_7, 0, none⟩)))]) (fun g w' => y_g = ((g.1), (g.2.1)) ∧ Hp ⟨w0, I0, []⟩ I_c [(g.2.2.2), some (g_7, [(.bool (g.1)), (g.2.2.1)], 24)] w' ∧ OwnS (dI .u32) 45 w' I_c (g.2.2.1) (g.2.2.2) (g.2.1)) ?_ ?_
  ·
    apply go
    refine ev0 (rn_field rfl rfl FO24_0) ?_
    refine ev (rn_load rfl rfl (run_loadVar1 T4 (a_6.2 0 _ rfl))) ?_
    refine sel_of (fun hc => ?_) (fun hc => ?_)
    ·
      have q_h := cond_t q_h hc
      refine ev0 (x_lenO rfl rfl Tryz.underlying22 o_f) ?_
      obtain ⟨A_i, m_j, m_k, rfl⟩ := o_f.isSl
      refine ev0 (fun w => rn_build (cs := [(.bool (decide ((x_9.length : Int) > 0))), (.slice A_i m_j m_k)]) rfl rfl T24 PL24 rfl) ?_
      refine ev_storeA hp (i := 1) (off := 0) (vs := [(.bool (decide ((x_9.length : Int) > 0))), (.slice A_i m_j m_k)]) rfl rfl rfl rfl T24 rfl (Nat.le_of_ble_eq_true rfl) (ones_cons rfl (ones_cons o_f.one ones_nil)) ?_
      intro w_l hp hs
      replace o_f := o_f.step hs
      obtain rfl := Option.some.inj q_h
      exact ⟨((decide ((x_9.length : Int) > 0)), x_9, (.slice A_i m_j m_k), e_e), (.c rfl .n), rfl, hp, o_f⟩
    ·
      have q_h := cond_f q_h hc
      obtain ⟨A_m, m_n, m_o, rfl⟩ := o_f.isSl
      refine ev0 (fun w => rn_build (cs := [(.bool false), (.slice A_m m_n m_o)]) rfl rfl T24 PL24 rfl) ?_
      refine ev_storeA hp (i := 1) (off := 0) (vs := [(.bool false), (.slice A_m m_n m_o)]) rfl rfl rfl rfl T24 rfl (Nat.le_of_ble_eq_true rfl) (ones_cons rfl (ones_cons o_f.one ones_nil)) ?_
      intro w_p hp hs
      replace o_f := o_f.step hs
      obtain rfl := Option.some.inj q_h
      exact ⟨(false, x_9, (.slice A_m m_n m_o), e_e), (.c rfl .n), rfl, hp, o_f⟩
  ·
    rintro ⟨x_q, x_r, v_s, e_t⟩ w_u ⟨hy, hp, o_v⟩
    replace hy := hy.symm
    subst hy
    apply go
    obtain rfl := Option.some.inj h
    have r_w := o_v.frz hp (i := 0) rfl
    obtain ⟨hp, hs⟩ := freeze_hp hp (i := 0) rfl
    have hp := hp.sel [1] (by decide)
    refine ⟨_, run_loadVarA T24 rfl (hp.at_ (i := 0) rfl), ?_⟩
    have hp := hp.sel [] (by decide)
    exact ⟨(Ad I_c e_t), v_s, rfl, hp, r_w⟩

end Go.Proofs.YthhghkcopfnbiaaGreatDoor

namespace Go.Proofs.YthhghkcopfnbiaaGreatDoor
open Go Go.Proofs.YthhghkcopfnbiaaGreatDoor.Gw Go.RowKit
set_option linter.unusedVariables false
attribute [local irreducible] Ev EvQ EvS EvH
def ref01_Of_S (f : Int → Option Int_2) : Prop := ∀ (w0 : World) (I0 : Nat → Prop) (x_0 : Int) (hI : ∀ g, I0 g → g < w0.heap.size) (r : Int_2), f x_0 = some r →
    Ret Tryz.prog 45 #[(.int .i64 x_0)] w0 fun v w1 => ∃ (I1 : Nat → Prop) (u_1 : Value), v = (.agg #[(.bool r.Neg), u_1]) ∧ Hp ⟨w0, I0, []⟩ I1 [] w1 ∧ RepS (dI .u32) w1 I1 u_1 r.Mag
theorem ref01_Of_ok (n : Nat) : ref01_Of_S (ref01_Of n) := by
  intro w0 I0 x_0 hI r h
  unfold ref01_Of at h
  refine enter Tryz.func45 rfl (Nat.le_of_ble_eq_true rfl) ?_
  have hp : Hp ⟨w0, I0, []⟩ I0 [] w0 := Hp.start hI
  apply go
  apply go
  refine ev_alloc hp rfl T24 ?_
  intro g_1 w_2 hp hs
  apply go
  apply go
  refine ev0 (rn_conv rfl rfl U3 Tryz.underlying49) ?_
  obtain ⟨y_3, q_4, h⟩ := bind_some h
  refine W.cut (γ := Int) (fun g => [(0, (.int .i64 x_0)), (2, (.pointer (some ⟨g_1, 0, none⟩))), (3, (.int .u64 (g)))]) (fun g w' => y_3 = (g) ∧ w_2 = w') ?_ ?_
  ·
    apply go
    apply go
    apply go
    refine sel_of (fun hc => ?_) (fun hc => ?_)
    ·
      have q_4 := cond_t q_4 hc
      apply go
      obtain rfl := Option.some.inj q_4
      exact ⟨(IntKind.u64.wrap (0 - (IntKind.u64.wrap x_0))), (.c rfl (.c rfl (.c rfl .n))), rfl, rfl⟩
    ·
      have q_4 := cond_f q_4 hc
      apply go
      obtain rfl := Option.some.inj q_4
      exact ⟨(IntKind.u64.wrap x_0), (.c rfl (.c rfl (.c rfl .n))), rfl, rfl⟩
  ·
    rintro x_5 _ ⟨hy, rfl⟩
    replace hy := hy.symm
    subst hy
    apply go
    apply go
    refine ev0 (rn_conv rfl rfl U49 Tryz.underlying45) ?_
    refine ⟨by decide, ?_⟩
    refine ev0 (rn_conv rfl rfl U49 Tryz.underlying45) ?_
    refine ev_litN (d := (dI .u32)) (xs := [(IntKind.u32.wrap x_5), (IntKind.u32.wrap (x_5.fdiv (2 ^ min (32 : Int).toNat (IntKind.u64).bits)))]) (cs := [(.int .u32 (IntKind.u32.wrap x_5)), (.int .u32 (IntKind.u32.wrap (x_5.fdiv (2 ^ min (32 : Int).toNat (IntKind.u64).bits))))]) hp rfl rfl Tryz.underlying22 T45 (by decide) rfl rfl (Elems.cons (d := (dI .u32)) (xs := _) rfl (Elems.cons (d := (dI .u32)) (xs := _) rfl (Elems.nil _ _ _ _))) ?_
    intro v_6 I_7 w_8 hp hs r_9
    obtain ⟨A_a, m_b, m_c, rfl⟩ := r_9.isSl
    refine ev0 (fun w => rn_build (cs := [(.bool (decide (x_0 < 0))), (.slice A_a m_b m_c)]) rfl rfl T24 PL24 rfl) ?_
    obtain ⟨x_d, q_e, h⟩ := bind_some h
    refine ev_call rfl rfl C28 (((ref01_Norm_ok n) _ _  (Int_2.mk (decide (x_0 < 0)) [(IntKind.u32.wrap x_5), (IntKind.u32.wrap (x_5.fdiv (2 ^ min (32 : Int).toNat (IntKind.u64).bits)))]) (.slice A_a m_b m_c) r_9 hp.imm _ q_e).mono ?_)
    rintro _ w_f ⟨I_g, v_h, hv, hq, r_i⟩
    replace hv := hv.symm
    subst hv
    have hs := hq.st
    have hp := hp.join0 hq
    refine ev_storeA hp (i := 0) (off := 0) (vs := [(.bool x_d.Neg), v_h]) rfl rfl rfl rfl T24 rfl (Nat.le_of_ble_eq_true rfl) (ones_cons rfl (ones_cons r_i.one ones_nil)) ?_
    intro w_j hp hs
    replace r_i := r_i.step hs
    apply go
    obtain rfl := Option.some.inj h
    refine ⟨_, run_loadVarA T24 rfl (hp.at_ (i := 0) rfl), ?_⟩
    have hp := hp.sel [] (by decide)
    exact ⟨I_g, v_h, rfl, hp, r_i⟩

end Go.Proofs.YthhghkcopfnbiaaGreatDoor

namespace Go.Proofs.YthhghkcopfnbiaaGreatDoor
open Go Go.Proofs.YthhghkcopfnbiaaGreatDoor.Gw Go.RowKit
set_option linter.unusedVariables false
attribute [local irreducible] Ev EvQ EvS EvH vch
def law01_awake_S (f : Option Bool) : Prop := ∀ (w0 : World) (I0 : Nat → Prop) (tb : Tb w0 I0 1 .u64 pow10)  (hI : ∀ g, I0 g → g < w0.heap.size) (r : Bool), f  = some r →
    Ret Tryz.prog 13 #[] w0 fun v w1 => v = (.bool r) ∧ Ch [] w0 w1
theorem law01_awake_ok (n : Nat) : law01_awake_S (law01_awake n) := by
  intro w0 I0 tb hI r h
  unfold law01_awake at h
  refine enter Tryz.func13 rfl (Nat.le_of_ble_eq_true rfl) ?_
  have hp : Hp ⟨w0, I0, []⟩ I0 [] w0 := Hp.start hI
  apply go
  apply go
  apply go
  apply go
  obtain ⟨x_0, q_1, h⟩ := bind_some h
  refine ev_call rfl rfl C18 (((integer_Of_ok n) _ _  (-7) hp.imm _ q_1).mono ?_)
  rintro _ w_2 ⟨I_3, v_4, hv, hq, r_5⟩
  replace hv := hv.symm
  subst hv
  have hs := hq.st
  have hp := hp.join0 hq
  replace tb := tb.step hs
  obtain ⟨x_6, q_7, h⟩ := bind_some h
  refine ev_call rfl rfl C18 (((integer_Of_ok n) _ _  2 hp.imm _ q_7).mono ?_)
  rintro _ w_8 ⟨I_9, v_a, hv, hq, r_b⟩
  replace hv := hv.symm
  subst hv
  have hs := hq.st
  have hp := hp.join0 hq
  replace r_5 := r_5.step hs
  replace tb := tb.step hs
  obtain ⟨⟨x_c, x_d, x_e⟩, q_f, h⟩ := bind_some h
  refine ev_call rfl rfl C24 (((integer_DivMod_ok n) _ _  x_0 v_4 r_5 x_6 v_a r_b hp.imm _ q_f).mono ?_)
  rintro _ w_g ⟨I_h, v_i, v_j, hv, hq, r_k, r_l⟩
  replace hv := hv.symm
  subst hv
  have hs := hq.st
  have hp := hp.join0 hq
  replace tb := tb.step hs
  refine ev_alloc hp rfl T24 ?_
  intro g_m w_n hp hs
  replace r_k := r_k.step hs
  replace r_l := r_l.step hs
  replace tb := tb.step hs
  refine ev_alloc hp rfl T24 ?_
  intro g_o w_p hp hs
  replace r_k := r_k.step hs
  replace r_l := r_l.step hs
  replace tb := tb.step hs
  refine ev_storeA hp (i := 1) (off := 0) (vs := [(.bool x_c.Neg), v_i]) rfl rfl rfl rfl T24 rfl (Nat.le_of_ble_eq_true rfl) (ones_cons rfl (ones_cons r_k.one ones_nil)) ?_
  intro w_q hp hs
  replace r_l := r_l.step hs
  replace r_k := r_k.step hs
  replace tb := tb.step hs
  refine ev_storeA hp (i := 0) (off := 0) (vs := [(.bool x_d.Neg), v_j]) rfl rfl rfl rfl T24 rfl (Nat.le_of_ble_eq_true rfl) (ones_cons rfl (ones_cons r_l.one ones_nil)) ?_
  intro w_r hp hs
  replace r_l := r_l.step hs
  replace r_k := r_k.step hs
  replace tb := tb.step hs
  apply go
  apply go
  refine ev (rn_load rfl rfl (run_loadVarA T24 rfl (hp.at_ (i := 1) rfl))) ?_
  refine ev_litN (d := (dI .u32)) (xs := [0]) (cs := [(.int .u32 0)]) hp rfl rfl Tryz.underlying22 T45 (by decide) rfl rfl (Elems.cons (d := (dI .u32)) (xs := _) rfl (Elems.nil _ _ _ _)) ?_
  intro v_s I_t w_u hp hs r_v
  replace r_k := r_k.step hs
  replace r_l := r_l.step hs
  replace tb := tb.step hs
  obtain ⟨A_w, m_x, m_y, rfl⟩ := r_v.isSl
  refine ev0 (fun w => rn_build (cs := [(.bool true), (.slice A_w m_x m_y)]) rfl rfl T24 PL24 rfl) ?_
  obtain ⟨⟨x_z, x_10, x_11⟩, q_12, h⟩ := bind_some h
  refine ev_call rfl rfl C24 (((integer_DivMod_ok n) _ _  (Int_2.mk x_c.Neg x_c.Mag) v_i r_k (Int_2.mk true [0]) (.slice A_w m_x m_y) r_v hp.imm _ q_12).mono ?_)
  rintro _ w_13 ⟨I_14, v_15, v_16, hv, hq, r_17, r_18⟩
  replace hv := hv.symm
  subst hv
  have hs := hq.st
  have hp := hp.join0 hq
  replace r_l := r_l.step hs
  replace r_k := r_k.step hs
  replace tb := tb.step hs
  refine ev_alloc hp rfl T24 ?_
  intro g_19 w_1a hp hs
  replace r_17 := r_17.step hs
  replace r_18 := r_18.step hs
  replace r_l := r_l.step hs
  replace r_k := r_k.step hs
  replace tb := tb.step hs
  refine ev_alloc hp rfl T24 ?_
  intro g_1b w_1c hp hs
  replace r_17 := r_17.step hs
  replace r_18 := r_18.step hs
  replace r_l := r_l.step hs
  replace r_k := r_k.step hs
  replace tb := tb.step hs
  refine ev_storeA hp (i := 1) (off := 0) (vs := [(.bool x_z.Neg), v_15]) rfl rfl rfl rfl T24 rfl (Nat.le_of_ble_eq_true rfl) (ones_cons rfl (ones_cons r_17.one ones_nil)) ?_
  intro w_1d hp hs
  replace r_18 := r_18.step hs
  replace r_17 := r_17.step hs
  replace r_l := r_l.step hs
  replace r_k := r_k.step hs
  replace tb := tb.step hs
  refine ev_storeA hp (i := 0) (off := 0) (vs := [(.bool x_10.Neg), v_16]) rfl rfl rfl rfl T24 rfl (Nat.le_of_ble_eq_true rfl) (ones_cons rfl (ones_cons r_18.one ones_nil)) ?_
  intro w_1e hp hs
  replace r_18 := r_18.step hs
  replace r_17 := r_17.step hs
  replace r_l := r_l.step hs
  replace r_k := r_k.step hs
  replace tb := tb.step hs
  apply go
  apply go
  refine ev_litN (d := (dI .u32)) (xs := [7, 0]) (cs := [(.int .u32 7), (.int .u32 0)]) hp rfl rfl Tryz.underlying22 T45 (by decide) rfl rfl (Elems.cons (d := (dI .u32)) (xs := _) rfl (Elems.cons (d := (dI .u32)) (xs := _) rfl (Elems.nil _ _ _ _))) ?_
  intro v_1f I_1g w_1h hp hs r_1i
  replace r_18 := r_18.step hs
  replace r_17 := r_17.step hs
  replace r_l := r_l.step hs
  replace r_k := r_k.step hs
  replace tb := tb.step hs
  obtain ⟨A_1j, m_1k, m_1l, rfl⟩ := r_1i.isSl
  refine ev0 (fun w => rn_build (cs := [(.bool true), (.slice A_1j m_1k m_1l)]) rfl rfl T24 PL24 rfl) ?_
  obtain ⟨⟨x_1m, x_1n⟩, q_1o, h⟩ := bind_some h
  refine ev_call rfl rfl C15 (((integer_Small_ok n) _ _  (Int_2.mk true [7, 0]) (.slice A_1j m_1k m_1l) r_1i hp.imm _ q_1o).mono ?_)
  rintro _ w_1p ⟨rfl, hc⟩
  have hs := hp.stp hc
  replace hp := hp.ext hc
  replace r_18 := r_18.step hs
  replace r_17 := r_17.step hs
  replace r_l := r_l.step hs
  replace r_k := r_k.step hs
  replace tb := tb.step hs
  apply go
  apply go
  obtain ⟨x_1q, q_1r, h⟩ := bind_some h
  refine ev_call rfl rfl C18 (((integer_Of_ok n) _ _  24 hp.imm _ q_1r).mono ?_)
  rintro _ w_1s ⟨I_1t, v_1u, hv, hq, r_1v⟩
  replace hv := hv.symm
  subst hv
  have hs := hq.st
  have hp := hp.join0 hq
  replace r_18 := r_18.step hs
  replace r_17 := r_17.step hs
  replace r_l := r_l.step hs
  replace r_k := r_k.step hs
  replace tb := tb.step hs
  obtain ⟨⟨x_1w, x_1x⟩, q_1y, h⟩ := bind_some h
  refine ev_call rfl rfl C33 (((integer_Sqrt_ok n) _ _  x_1q v_1u r_1v hp.imm _ q_1y).mono ?_)
  rintro _ w_1z ⟨I_20, v_21, hv, hq, r_22⟩
  replace hv := hv.symm
  subst hv
  have hs := hq.st
  have hp := hp.join0 hq
  replace r_18 := r_18.step hs
  replace r_17 := r_17.step hs
  replace r_l := r_l.step hs
  replace r_k := r_k.step hs
  replace tb := tb.step hs
  refine ev_alloc hp rfl T24 ?_
  intro g_23 w_24 hp hs
  replace r_22 := r_22.step hs
  replace r_18 := r_18.step hs
  replace r_17 := r_17.step hs
  replace r_l := r_l.step hs
  replace r_k := r_k.step hs
  replace tb := tb.step hs
  refine ev_storeA hp (i := 0) (off := 0) (vs := [(.bool x_1w.Neg), v_21]) rfl rfl rfl rfl T24 rfl (Nat.le_of_ble_eq_true rfl) (ones_cons rfl (ones_cons r_22.one ones_nil)) ?_
  intro w_25 hp hs
  replace r_22 := r_22.step hs
  replace r_18 := r_18.step hs
  replace r_17 := r_17.step hs
  replace r_l := r_l.step hs
  replace r_k := r_k.step hs
  replace tb := tb.step hs
  apply go
  apply go
  obtain ⟨⟨x_26, x_27⟩, q_28, h⟩ := bind_some h
  refine ev_call rfl rfl C26 (((integer_Parse_ok n) _ _ tb (ByteArray.mk #[45, 48]) hp.imm _ q_28).mono ?_)
  rintro _ w_29 ⟨I_2a, v_2b, hv, hq, r_2c⟩
  replace hv := hv.symm
  subst hv
  have hs := hq.st
  have hp := hp.join0 hq
  replace r_22 := r_22.step hs
  replace r_18 := r_18.step hs
  replace r_17 := r_17.step hs
  replace r_l := r_l.step hs
  replace r_k := r_k.step hs
  replace tb := tb.step hs
  refine ev_alloc hp rfl T24 ?_
  intro g_2d w_2e hp hs
  replace r_2c := r_2c.step hs
  replace r_22 := r_22.step hs
  replace r_18 := r_18.step hs
  replace r_17 := r_17.step hs
  replace r_l := r_l.step hs
  replace r_k := r_k.step hs
  replace tb := tb.step hs
  refine ev_storeA hp (i := 0) (off := 0) (vs := [(.bool x_26.Neg), v_2b]) rfl rfl rfl rfl T24 rfl (Nat.le_of_ble_eq_true rfl) (ones_cons rfl (ones_cons r_2c.one ones_nil)) ?_
  intro w_2f hp hs
  replace r_2c := r_2c.step hs
  replace r_22 := r_22.step hs
  replace r_18 := r_18.step hs
  replace r_17 := r_17.step hs
  replace r_l := r_l.step hs
  replace r_k := r_k.step hs
  replace tb := tb.step hs
  obtain ⟨y_2g, q_2h, h⟩ := bind_some h
  refine W.cut (γ := (Bool × (Nat → Prop))) (fun g => [(0, (.bool (g.1)))]) (fun g w' => y_2g = (g.1) ∧ Hp ⟨w0, I0, []⟩ (g.2) [] w' ∧ Tb w' (g.2) 1 .u64 pow10) ?_ ?_
  ·
    have hs := hp.stp (Ch.drew [] w_2f)
    have hp := hp.drew
    replace r_2c := r_2c.step hs
    replace r_22 := r_22.step hs
    replace r_18 := r_18.step hs
    replace r_17 := r_17.step hs
    replace r_l := r_l.step hs
    replace r_k := r_k.step hs
    replace tb := tb.step hs
    refine W.heldT [(0, true), (1, false), (2, false), (3, true), (4, true), (5, false), (6, false), (7, true), (8, true), (9, true), (10, true), (11, true), (12, true), (13, true), (14, true), (15, true), (16, true), (17, true), (18, true), (19, true), (20, true), (21, true), (22, true), (23, true), (24, true), (25, false), (26, false), (27, true), (28, true), (29, true), (30, true), (31, true), (32, true), (33, true), (34, true), (35, true), (36, true), (37, true), (38, true), (39, true), (40, true), (41, true), (42, true), (43, false), (44, true), (45, false), (46, true), (47, true), (48, true), (49, false), (50, false), (51, false), (52, false), (53, false), (54, true), (55, true), (56, false), (57, false), (58, true), (59, true), (60, true)] (fun x => Stp I_2a w_2f.drew I_2a x ∧ OwnK [(g_m, [(.bool x_c.Neg), v_i], 24), (g_o, [(.bool x_d.Neg), v_j], 24), (g_23, [(.bool x_1w.Neg), v_21], 24), (g_2d, [(.bool x_26.Neg), v_2b], 24)] x) MX (by kernel_rfl) ⟨Stp.refl _ _, (OwnK.cons (hp.own 5 _ _ _ rfl).1 (OwnK.cons (hp.own 4 _ _ _ rfl).1 (OwnK.cons (hp.own 1 _ _ _ rfl).1 (OwnK.cons (hp.own 0 _ _ _ rfl).1 OwnK.nil))))⟩ ?_
    have hz := Stp.refl I_2a w_2f.drew
    intro ops hops
    have e0 : nthO ops 0 = some _ := (hops 0).trans rfl
    have e1 : nthO ops 1 = some _ := (hops 1).trans rfl
    have e2 : nthO ops 2 = some _ := (hops 2).trans rfl
    have e3 : nthO ops 3 = some _ := (hops 3).trans rfl
    have e4 : nthO ops 4 = some _ := (hops 4).trans rfl
    have e5 : nthO ops 5 = some _ := (hops 5).trans rfl
    have e6 : nthO ops 6 = some _ := (hops 6).trans rfl
    have e7 : nthO ops 7 = some _ := (hops 7).trans rfl
    have e8 : nthO ops 8 = some _ := (hops 8).trans rfl
    have e9 : nthO ops 9 = some _ := (hops 9).trans rfl
    have e10 : nthO ops 10 = some _ := (hops 10).trans rfl
    have e11 : nthO ops 11 = some _ := (hops 11).trans rfl
    have e12 : nthO ops 12 = some _ := (hops 12).trans rfl
    have e13 : nthO ops 13 = some _ := (hops 13).trans rfl
    have e14 : nthO ops 14 = some _ := (hops 14).trans rfl
    have e15 : nthO ops 15 = some _ := (hops 15).trans rfl
    have e16 : nthO ops 16 = some _ := (hops 16).trans rfl
    have e17 : nthO ops 17 = some _ := (hops 17).trans rfl
    have e18 : nthO ops 18 = some _ := (hops 18).trans rfl
    have e19 : nthO ops 19 = some _ := (hops 19).trans rfl
    have e20 : nthO ops 20 = some _ := (hops 20).trans rfl
    have e21 : nthO ops 21 = some _ := (hops 21).trans rfl
    have e22 : nthO ops 22 = some _ := (hops 22).trans rfl
    have e23 : nthO ops 23 = some _ := (hops 23).trans rfl
    have e24 : nthO ops 24 = some _ := (hops 24).trans rfl
    have e25 : nthO ops 25 = some _ := (hops 25).trans rfl
    have e26 : nthO ops 26 = some _ := (hops 26).trans rfl
    have e27 : nthO ops 27 = some _ := (hops 27).trans rfl
    have e28 : nthO ops 28 = some _ := (hops 28).trans rfl
    have e29 : nthO ops 29 = some _ := (hops 29).trans rfl
    have e30 : nthO ops 30 = some _ := (hops 30).trans rfl
    have e31 : nthO ops 31 = some _ := (hops 31).trans rfl
    have e32 : nthO ops 32 = some _ := (hops 32).trans rfl
    have e33 : nthO ops 33 = some _ := (hops 33).trans rfl
    have e34 : nthO ops 34 = some _ := (hops 34).trans rfl
    have e35 : nthO ops 35 = some _ := (hops 35).trans rfl
    have e36 : nthO ops 36 = some _ := (hops 36).trans rfl
    have e37 : nthO ops 37 = some _ := (hops 37).trans rfl
    have e38 : nthO ops 38 = some _ := (hops 38).trans rfl
    have e39 : nthO ops 39 = some _ := (hops 39).trans rfl
    have e40 : nthO ops 40 = some _ := (hops 40).trans rfl
    have e41 : nthO ops 41 = some _ := (hops 41).trans rfl
    have e42 : nthO ops 42 = some _ := (hops 42).trans rfl
    have e43 : nthO ops 43 = some _ := (hops 43).trans rfl
    have e44 : nthO ops 44 = some _ := (hops 44).trans rfl
    have e45 : nthO ops 45 = some _ := (hops 45).trans rfl
    have e46 : nthO ops 46 = some _ := (hops 46).trans rfl
    have e47 : nthO ops 47 = some _ := (hops 47).trans rfl
    have e48 : nthO ops 48 = some _ := (hops 48).trans rfl
    have e49 : nthO ops 49 = some _ := (hops 49).trans rfl
    have e50 : nthO ops 50 = some _ := (hops 50).trans rfl
    have e51 : nthO ops 51 = some _ := (hops 51).trans rfl
    have e52 : nthO ops 52 = some _ := (hops 52).trans rfl
    have e53 : nthO ops 53 = some _ := (hops 53).trans rfl
    have e54 : nthO ops 54 = some _ := (hops 54).trans rfl
    have e55 : nthO ops 55 = some _ := (hops 55).trans rfl
    have e56 : nthO ops 56 = some _ := (hops 56).trans rfl
    have e57 : nthO ops 57 = some _ := (hops 57).trans rfl
    have e58 : nthO ops 58 = some _ := (hops 58).trans rfl
    have e59 : nthO ops 59 = some _ := (hops 59).trans rfl
    have e60 : nthO ops 60 = some _ := (hops 60).trans rfl
    clear hops
    refine vch_q e0 rfl ?_
    refine evh (fun w' hw => rn_load rfl rfl (run_loadVarA T24 rfl (hw.2.at_ (i := 0) rfl))) ?_
    refine vch_l e1 rfl ?_
    obtain ⟨x_2i, q_2j, q_2h⟩ := bind_some q_2h
    refine ev_call rfl rfl C45 (((ref01_Of_ok n) _ _  (-4) hp.imm _ q_2j).mono ?_)
    rintro _ w_2k ⟨I_2l, v_2m, hv, hq, r_2n⟩
    replace hv := hv.symm
    subst hv
    have hs := hq.st
    have hp := hp.join0 hq
    replace hz := hz.trans hs
    replace r_k := r_k.step hs
    replace r_2c := r_2c.step hs
    replace r_22 := r_22.step hs
    replace r_18 := r_18.step hs
    replace r_17 := r_17.step hs
    replace r_l := r_l.step hs
    replace tb := tb.step hs
    refine ⟨fun x => Stp I_2l w_2k I_2l x ∧ OwnK [(g_m, [(.bool x_c.Neg), v_i], 24), (g_o, [(.bool x_d.Neg), v_j], 24), (g_23, [(.bool x_1w.Neg), v_21], 24), (g_2d, [(.bool x_26.Neg), v_2b], 24)] x, ⟨Stp.refl _ _, (OwnK.cons (hp.own 5 _ _ _ rfl).1 (OwnK.cons (hp.own 4 _ _ _ rfl).1 (OwnK.cons (hp.own 1 _ _ _ rfl).1 (OwnK.cons (hp.own 0 _ _ _ rfl).1 OwnK.nil))))⟩, fun x hx => ⟨hz.held hx.1, hx.2⟩, ?_⟩
    have hz := Stp.refl I_2l w_2k
    refine vch_l e2 rfl ?_
    obtain ⟨x_2o, q_2p, q_2h⟩ := bind_some q_2h
    refine ev_call rfl rfl C21 (((ref01_Same_ok n) _ _  (Int_2.mk x_c.Neg x_c.Mag) v_i r_k x_2i v_2m r_2n hp.imm _ q_2p).mono ?_)
    rintro _ w_2q ⟨rfl, hc⟩
    have hs := hp.stp hc
    replace hp := hp.ext hc
    replace hz := hz.trans hs
    replace r_2c := r_2c.step hs
    replace r_22 := r_22.step hs
    replace r_18 := r_18.step hs
    replace r_17 := r_17.step hs
    replace r_l := r_l.step hs
    replace r_k := r_k.step hs
    replace tb := tb.step hs
    refine ⟨fun x => Stp I_2l w_2q I_2l x ∧ OwnK [(g_m, [(.bool x_c.Neg), v_i], 24), (g_o, [(.bool x_d.Neg), v_j], 24), (g_23, [(.bool x_1w.Neg), v_21], 24), (g_2d, [(.bool x_26.Neg), v_2b], 24)] x, ⟨Stp.refl _ _, (OwnK.cons (hp.own 5 _ _ _ rfl).1 (OwnK.cons (hp.own 4 _ _ _ rfl).1 (OwnK.cons (hp.own 1 _ _ _ rfl).1 (OwnK.cons (hp.own 0 _ _ _ rfl).1 OwnK.nil))))⟩, fun x hx => ⟨hz.held hx.1, hx.2⟩, ?_⟩
    have hz := Stp.refl I_2l w_2q
    refine vch_q e3 rfl ?_
    obtain ⟨q_2r, _, q_2h⟩ := need_some q_2h
    refine vch_qt e4 rfl e3 rfl rfl q_2r ?_
    refine evh (fun w' hw => rn_load rfl rfl (run_loadVarA T24 rfl (hw.2.at_ (i := 1) rfl))) ?_
    refine vch_lt e5 rfl e3 rfl rfl rfl ?_
    obtain ⟨x_2s, q_2t, q_2h⟩ := bind_some q_2h
    refine ev_call rfl rfl C45 (((ref01_Of_ok n) _ _  1 hp.imm _ q_2t).mono ?_)
    rintro _ w_2u ⟨I_2v, v_2w, hv, hq, r_2x⟩
    replace hv := hv.symm
    subst hv
    have hs := hq.st
    have hp := hp.join0 hq
    replace hz := hz.trans hs
    replace r_l := r_l.step hs
    replace r_2c := r_2c.step hs
    replace r_22 := r_22.step hs
    replace r_18 := r_18.step hs
    replace r_17 := r_17.step hs
    replace r_k := r_k.step hs
    replace tb := tb.step hs
    refine ⟨fun x => Stp I_2v w_2u I_2v x ∧ OwnK [(g_m, [(.bool x_c.Neg), v_i], 24), (g_o, [(.bool x_d.Neg), v_j], 24), (g_23, [(.bool x_1w.Neg), v_21], 24), (g_2d, [(.bool x_26.Neg), v_2b], 24)] x, ⟨Stp.refl _ _, (OwnK.cons (hp.own 5 _ _ _ rfl).1 (OwnK.cons (hp.own 4 _ _ _ rfl).1 (OwnK.cons (hp.own 1 _ _ _ rfl).1 (OwnK.cons (hp.own 0 _ _ _ rfl).1 OwnK.nil))))⟩, fun x hx => ⟨hz.held hx.1, hx.2⟩, ?_⟩
    have hz := Stp.refl I_2v w_2u
    refine vch_lt e6 rfl e3 rfl rfl rfl ?_
    obtain ⟨x_2y, q_2z, q_2h⟩ := bind_some q_2h
    refine ev_call rfl rfl C21 (((ref01_Same_ok n) _ _  (Int_2.mk x_d.Neg x_d.Mag) v_j r_l x_2s v_2w r_2x hp.imm _ q_2z).mono ?_)
    rintro _ w_30 ⟨rfl, hc⟩
    have hs := hp.stp hc
    replace hp := hp.ext hc
    replace hz := hz.trans hs
    replace r_2c := r_2c.step hs
    replace r_22 := r_22.step hs
    replace r_18 := r_18.step hs
    replace r_17 := r_17.step hs
    replace r_l := r_l.step hs
    replace r_k := r_k.step hs
    replace tb := tb.step hs
    refine ⟨fun x => Stp I_2v w_30 I_2v x ∧ OwnK [(g_m, [(.bool x_c.Neg), v_i], 24), (g_o, [(.bool x_d.Neg), v_j], 24), (g_23, [(.bool x_1w.Neg), v_21], 24), (g_2d, [(.bool x_26.Neg), v_2b], 24)] x, ⟨Stp.refl _ _, (OwnK.cons (hp.own 5 _ _ _ rfl).1 (OwnK.cons (hp.own 4 _ _ _ rfl).1 (OwnK.cons (hp.own 1 _ _ _ rfl).1 (OwnK.cons (hp.own 0 _ _ _ rfl).1 OwnK.nil))))⟩, fun x hx => ⟨hz.held hx.1, hx.2⟩, ?_⟩
    have hz := Stp.refl I_2v w_30
    refine vch_q e7 rfl ?_
    refine vch_q e8 rfl ?_
    obtain ⟨q_31, _, q_2h⟩ := need_some q_2h
    refine vch_qt e9 rfl e8 rfl rfl q_31 ?_
    refine vch_qt e10 rfl e8 rfl rfl rfl ?_
    refine vch_q e11 rfl ?_
    refine vch_q e12 rfl ?_
    obtain ⟨q_32, _, q_2h⟩ := need_some q_2h
    refine vch_qt e13 rfl e12 rfl rfl q_32 ?_
    refine vch_qt e14 rfl e12 rfl rfl rfl ?_
    refine vch_q e15 rfl ?_
    refine vch_q e16 rfl ?_
    obtain ⟨q_33, _, q_2h⟩ := need_some q_2h
    refine vch_qt e17 rfl e16 rfl rfl q_33 ?_
    refine vch_qt e18 rfl e16 rfl rfl rfl ?_
    refine vch_q e19 rfl ?_
    refine vch_q e20 rfl ?_
    obtain ⟨q_34, _, q_2h⟩ := need_some q_2h
    refine vch_qt e21 rfl e20 rfl rfl q_34 ?_
    refine vch_q e22 rfl ?_
    refine vch_q e23 rfl ?_
    obtain ⟨q_35, _, q_2h⟩ := need_some q_2h
    refine vch_qt e24 rfl e23 rfl rfl q_35 ?_
    refine evh (fun w' hw => rn_load rfl rfl (run_loadVarA T24 rfl (hw.2.at_ (i := 2) rfl))) ?_
    refine vch_lt e25 rfl e23 rfl rfl rfl ?_
    obtain ⟨x_36, q_37, q_2h⟩ := bind_some q_2h
    refine ev_call rfl rfl C45 (((ref01_Of_ok n) _ _  4 hp.imm _ q_37).mono ?_)
    rintro _ w_38 ⟨I_39, v_3a, hv, hq, r_3b⟩
    replace hv := hv.symm
    subst hv
    have hs := hq.st
    have hp := hp.join0 hq
    replace hz := hz.trans hs
    replace r_22 := r_22.step hs
    replace r_2c := r_2c.step hs
    replace r_18 := r_18.step hs
    replace r_17 := r_17.step hs
    replace r_l := r_l.step hs
    replace r_k := r_k.step hs
    replace tb := tb.step hs
    refine ⟨fun x => Stp I_39 w_38 I_39 x ∧ OwnK [(g_m, [(.bool x_c.Neg), v_i], 24), (g_o, [(.bool x_d.Neg), v_j], 24), (g_23, [(.bool x_1w.Neg), v_21], 24), (g_2d, [(.bool x_26.Neg), v_2b], 24)] x, ⟨Stp.refl _ _, (OwnK.cons (hp.own 5 _ _ _ rfl).1 (OwnK.cons (hp.own 4 _ _ _ rfl).1 (OwnK.cons (hp.own 1 _ _ _ rfl).1 (OwnK.cons (hp.own 0 _ _ _ rfl).1 OwnK.nil))))⟩, fun x hx => ⟨hz.held hx.1, hx.2⟩, ?_⟩
    have hz := Stp.refl I_39 w_38
    refine vch_lt e26 rfl e23 rfl rfl rfl ?_
    obtain ⟨x_3c, q_3d, q_2h⟩ := bind_some q_2h
    refine ev_call rfl rfl C21 (((ref01_Same_ok n) _ _  (Int_2.mk x_1w.Neg x_1w.Mag) v_21 r_22 x_36 v_3a r_3b hp.imm _ q_3d).mono ?_)
    rintro _ w_3e ⟨rfl, hc⟩
    have hs := hp.stp hc
    replace hp := hp.ext hc
    replace hz := hz.trans hs
    replace r_2c := r_2c.step hs
    replace r_22 := r_22.step hs
    replace r_18 := r_18.step hs
    replace r_17 := r_17.step hs
    replace r_l := r_l.step hs
    replace r_k := r_k.step hs
    replace tb := tb.step hs
    refine ⟨fun x => Stp I_39 w_3e I_39 x ∧ OwnK [(g_m, [(.bool x_c.Neg), v_i], 24), (g_o, [(.bool x_d.Neg), v_j], 24), (g_23, [(.bool x_1w.Neg), v_21], 24), (g_2d, [(.bool x_26.Neg), v_2b], 24)] x, ⟨Stp.refl _ _, (OwnK.cons (hp.own 5 _ _ _ rfl).1 (OwnK.cons (hp.own 4 _ _ _ rfl).1 (OwnK.cons (hp.own 1 _ _ _ rfl).1 (OwnK.cons (hp.own 0 _ _ _ rfl).1 OwnK.nil))))⟩, fun x hx => ⟨hz.held hx.1, hx.2⟩, ?_⟩
    have hz := Stp.refl I_39 w_3e
    refine vch_q e27 rfl ?_
    refine vch_q e28 rfl ?_
    obtain ⟨q_3f, _, q_2h⟩ := need_some q_2h
    refine vch_qt e29 rfl e28 rfl rfl q_3f ?_
    refine vch_qt e30 rfl e28 rfl rfl rfl ?_
    refine vch_q e31 rfl ?_
    refine vch_q e32 rfl ?_
    obtain ⟨q_3g, _, q_2h⟩ := need_some q_2h
    refine vch_qt e33 rfl e32 rfl rfl q_3g ?_
    refine vch_qt e34 rfl e32 rfl rfl rfl ?_
    refine vch_q e35 rfl ?_
    refine vch_q e36 rfl ?_
    obtain ⟨q_3h, _, q_2h⟩ := need_some q_2h
    refine vch_qt e37 rfl e36 rfl rfl q_3h ?_
    refine evh0 (rn_field rfl rfl FO24_1) ?_
    refine vch_qt e38 rfl e36 rfl rfl rfl ?_
    refine evh (fun w' hw => rn_load rfl rfl (run_loadVar1 T22 (hw.2.cell (i := 3) (off := 1) rfl rfl))) ?_
    refine vch_qt e39 rfl e36 rfl rfl rfl ?_
    refine evh0 (rn_len rfl rfl Tryz.underlying22 r_2c) ?_
    refine vch_qt e40 rfl e36 rfl rfl rfl ?_
    refine vch_q e41 rfl ?_
    refine vch_q e42 rfl ?_
    obtain ⟨q_3i, _, q_2h⟩ := need_some q_2h
    refine vch_lt e43 rfl e42 rfl rfl q_3i ?_
    refine ev_litN (d := (dI .u32)) (xs := [0, 1]) (cs := [(.int .u32 0), (.int .u32 1)]) hp rfl rfl Tryz.underlying22 T45 (by decide) rfl rfl (Elems.cons (d := (dI .u32)) (xs := _) rfl (Elems.cons (d := (dI .u32)) (xs := _) rfl (Elems.nil _ _ _ _))) ?_
    intro v_3j I_3k w_3l hp hs r_3m
    replace hz := hz.trans hs
    replace r_2c := r_2c.step hs
    replace r_22 := r_22.step hs
    replace r_18 := r_18.step hs
    replace r_17 := r_17.step hs
    replace r_l := r_l.step hs
    replace r_k := r_k.step hs
    replace tb := tb.step hs
    refine ⟨fun x => Stp I_3k w_3l I_3k x ∧ OwnK [(g_m, [(.bool x_c.Neg), v_i], 24), (g_o, [(.bool x_d.Neg), v_j], 24), (g_23, [(.bool x_1w.Neg), v_21], 24), (g_2d, [(.bool x_26.Neg), v_2b], 24)] x, ⟨Stp.refl _ _, (OwnK.cons (hp.own 5 _ _ _ rfl).1 (OwnK.cons (hp.own 4 _ _ _ rfl).1 (OwnK.cons (hp.own 1 _ _ _ rfl).1 (OwnK.cons (hp.own 0 _ _ _ rfl).1 OwnK.nil))))⟩, fun x hx => ⟨hz.held hx.1, hx.2⟩, ?_⟩
    have hz := Stp.refl I_3k w_3l
    refine vch_qt e44 rfl e42 rfl rfl rfl ?_
    obtain ⟨A_3n, m_3o, m_3p, rfl⟩ := r_3m.isSl
    refine evh0 (fun w => rn_build (cs := [(.bool true), (.slice A_3n m_3o m_3p)]) rfl rfl T24 PL24 rfl) ?_
    refine vch_lt e45 rfl e42 rfl rfl rfl ?_
    obtain ⟨x_3q, q_3r, q_2h⟩ := bind_some q_2h
    refine ev_call rfl rfl C25 (((integer_Text_ok n) _ _ tb (Int_2.mk true [0, 1]) (.slice A_3n m_3o m_3p) r_3m hp.imm _ q_3r).mono ?_)
    rintro _ w_3s ⟨rfl, hc⟩
    have hs := hp.stp hc
    replace hp := hp.ext hc
    replace hz := hz.trans hs
    replace r_2c := r_2c.step hs
    replace r_22 := r_22.step hs
    replace r_18 := r_18.step hs
    replace r_17 := r_17.step hs
    replace r_l := r_l.step hs
    replace r_k := r_k.step hs
    replace tb := tb.step hs
    refine ⟨fun x => Stp I_3k w_3s I_3k x ∧ OwnK [(g_m, [(.bool x_c.Neg), v_i], 24), (g_o, [(.bool x_d.Neg), v_j], 24), (g_23, [(.bool x_1w.Neg), v_21], 24), (g_2d, [(.bool x_26.Neg), v_2b], 24)] x, ⟨Stp.refl _ _, (OwnK.cons (hp.own 5 _ _ _ rfl).1 (OwnK.cons (hp.own 4 _ _ _ rfl).1 (OwnK.cons (hp.own 1 _ _ _ rfl).1 (OwnK.cons (hp.own 0 _ _ _ rfl).1 OwnK.nil))))⟩, fun x hx => ⟨hz.held hx.1, hx.2⟩, ?_⟩
    have hz := Stp.refl I_3k w_3s
    refine vch_qt e46 rfl e42 rfl rfl rfl ?_
    refine vch_q e47 rfl ?_
    refine vch_q e48 rfl ?_
    obtain ⟨q_3t, _, q_2h⟩ := need_some q_2h
    refine vch_lt e49 rfl e48 rfl rfl q_3t ?_
    obtain ⟨x_3u, q_3v, q_2h⟩ := bind_some q_2h
    refine ev_call rfl rfl C18 (((integer_Of_ok n) _ _  (-12) hp.imm _ q_3v).mono ?_)
    rintro _ w_3w ⟨I_3x, v_3y, hv, hq, r_3z⟩
    replace hv := hv.symm
    subst hv
    have hs := hq.st
    have hp := hp.join0 hq
    replace hz := hz.trans hs
    replace r_2c := r_2c.step hs
    replace r_22 := r_22.step hs
    replace r_18 := r_18.step hs
    replace r_17 := r_17.step hs
    replace r_l := r_l.step hs
    replace r_k := r_k.step hs
    replace tb := tb.step hs
    refine ⟨fun x => Stp I_3x w_3w I_3x x ∧ OwnK [(g_m, [(.bool x_c.Neg), v_i], 24), (g_o, [(.bool x_d.Neg), v_j], 24), (g_23, [(.bool x_1w.Neg), v_21], 24), (g_2d, [(.bool x_26.Neg), v_2b], 24)] x, ⟨Stp.refl _ _, (OwnK.cons (hp.own 5 _ _ _ rfl).1 (OwnK.cons (hp.own 4 _ _ _ rfl).1 (OwnK.cons (hp.own 1 _ _ _ rfl).1 (OwnK.cons (hp.own 0 _ _ _ rfl).1 OwnK.nil))))⟩, fun x hx => ⟨hz.held hx.1, hx.2⟩, ?_⟩
    have hz := Stp.refl I_3x w_3w
    refine vch_lt e50 rfl e48 rfl rfl rfl ?_
    obtain ⟨x_40, q_41, q_2h⟩ := bind_some q_2h
    refine ev_call rfl rfl C18 (((integer_Of_ok n) _ _  18 hp.imm _ q_41).mono ?_)
    rintro _ w_42 ⟨I_43, v_44, hv, hq, r_45⟩
    replace hv := hv.symm
    subst hv
    have hs := hq.st
    have hp := hp.join0 hq
    replace hz := hz.trans hs
    replace r_3z := r_3z.step hs
    replace r_2c := r_2c.step hs
    replace r_22 := r_22.step hs
    replace r_18 := r_18.step hs
    replace r_17 := r_17.step hs
    replace r_l := r_l.step hs
    replace r_k := r_k.step hs
    replace tb := tb.step hs
    refine ⟨fun x => Stp I_43 w_42 I_43 x ∧ OwnK [(g_m, [(.bool x_c.Neg), v_i], 24), (g_o, [(.bool x_d.Neg), v_j], 24), (g_23, [(.bool x_1w.Neg), v_21], 24), (g_2d, [(.bool x_26.Neg), v_2b], 24)] x, ⟨Stp.refl _ _, (OwnK.cons (hp.own 5 _ _ _ rfl).1 (OwnK.cons (hp.own 4 _ _ _ rfl).1 (OwnK.cons (hp.own 1 _ _ _ rfl).1 (OwnK.cons (hp.own 0 _ _ _ rfl).1 OwnK.nil))))⟩, fun x hx => ⟨hz.held hx.1, hx.2⟩, ?_⟩
    have hz := Stp.refl I_43 w_42
    refine vch_lt e51 rfl e48 rfl rfl rfl ?_
    obtain ⟨x_46, q_47, q_2h⟩ := bind_some q_2h
    refine ev_call rfl rfl C20 (((integer_Gcd_ok n) _ _  x_3u v_3y r_3z x_40 v_44 r_45 hp.imm _ q_47).mono ?_)
    rintro _ w_48 ⟨I_49, v_4a, hv, hq, r_4b⟩
    replace hv := hv.symm
    subst hv
    have hs := hq.st
    have hp := hp.join0 hq
    replace hz := hz.trans hs
    replace r_2c := r_2c.step hs
    replace r_22 := r_22.step hs
    replace r_18 := r_18.step hs
    replace r_17 := r_17.step hs
    replace r_l := r_l.step hs
    replace r_k := r_k.step hs
    replace tb := tb.step hs
    refine ⟨fun x => Stp I_49 w_48 I_49 x ∧ OwnK [(g_m, [(.bool x_c.Neg), v_i], 24), (g_o, [(.bool x_d.Neg), v_j], 24), (g_23, [(.bool x_1w.Neg), v_21], 24), (g_2d, [(.bool x_26.Neg), v_2b], 24)] x, ⟨Stp.refl _ _, (OwnK.cons (hp.own 5 _ _ _ rfl).1 (OwnK.cons (hp.own 4 _ _ _ rfl).1 (OwnK.cons (hp.own 1 _ _ _ rfl).1 (OwnK.cons (hp.own 0 _ _ _ rfl).1 OwnK.nil))))⟩, fun x hx => ⟨hz.held hx.1, hx.2⟩, ?_⟩
    have hz := Stp.refl I_49 w_48
    refine vch_lt e52 rfl e48 rfl rfl rfl ?_
    obtain ⟨x_4c, q_4d, q_2h⟩ := bind_some q_2h
    refine ev_call rfl rfl C45 (((ref01_Of_ok n) _ _  6 hp.imm _ q_4d).mono ?_)
    rintro _ w_4e ⟨I_4f, v_4g, hv, hq, r_4h⟩
    replace hv := hv.symm
    subst hv
    have hs := hq.st
    have hp := hp.join0 hq
    replace hz := hz.trans hs
    replace r_4b := r_4b.step hs
    replace r_2c := r_2c.step hs
    replace r_22 := r_22.step hs
    replace r_18 := r_18.step hs
    replace r_17 := r_17.step hs
    replace r_l := r_l.step hs
    replace r_k := r_k.step hs
    replace tb := tb.step hs
    refine ⟨fun x => Stp I_4f w_4e I_4f x ∧ OwnK [(g_m, [(.bool x_c.Neg), v_i], 24), (g_o, [(.bool x_d.Neg), v_j], 24), (g_23, [(.bool x_1w.Neg), v_21], 24), (g_2d, [(.bool x_26.Neg), v_2b], 24)] x, ⟨Stp.refl _ _, (OwnK.cons (hp.own 5 _ _ _ rfl).1 (OwnK.cons (hp.own 4 _ _ _ rfl).1 (OwnK.cons (hp.own 1 _ _ _ rfl).1 (OwnK.cons (hp.own 0 _ _ _ rfl).1 OwnK.nil))))⟩, fun x hx => ⟨hz.held hx.1, hx.2⟩, ?_⟩
    have hz := Stp.refl I_4f w_4e
    refine vch_lt e53 rfl e48 rfl rfl rfl ?_
    obtain ⟨x_4i, q_4j, q_2h⟩ := bind_some q_2h
    refine ev_call rfl rfl C21 (((ref01_Same_ok n) _ _  x_46 v_4a r_4b x_4c v_4g r_4h hp.imm _ q_4j).mono ?_)
    rintro _ w_4k ⟨rfl, hc⟩
    have hs := hp.stp hc
    replace hp := hp.ext hc
    replace hz := hz.trans hs
    replace r_2c := r_2c.step hs
    replace r_22 := r_22.step hs
    replace r_18 := r_18.step hs
    replace r_17 := r_17.step hs
    replace r_l := r_l.step hs
    replace r_k := r_k.step hs
    replace tb := tb.step hs
    refine ⟨fun x => Stp I_4f w_4k I_4f x ∧ OwnK [(g_m, [(.bool x_c.Neg), v_i], 24), (g_o, [(.bool x_d.Neg), v_j], 24), (g_23, [(.bool x_1w.Neg), v_21], 24), (g_2d, [(.bool x_26.Neg), v_2b], 24)] x, ⟨Stp.refl _ _, (OwnK.cons (hp.own 5 _ _ _ rfl).1 (OwnK.cons (hp.own 4 _ _ _ rfl).1 (OwnK.cons (hp.own 1 _ _ _ rfl).1 (OwnK.cons (hp.own 0 _ _ _ rfl).1 OwnK.nil))))⟩, fun x hx => ⟨hz.held hx.1, hx.2⟩, ?_⟩
    have hz := Stp.refl I_4f w_4k
    refine vch_q e54 rfl ?_
    refine vch_q e55 rfl ?_
    obtain ⟨q_4l, _, q_2h⟩ := need_some q_2h
    refine vch_lt e56 rfl e55 rfl rfl q_4l ?_
    obtain ⟨x_4m, q_4n, q_2h⟩ := bind_some q_2h
    refine ev_call rfl rfl C18 (((integer_Of_ok n) _ _  (-8) hp.imm _ q_4n).mono ?_)
    rintro _ w_4o ⟨I_4p, v_4q, hv, hq, r_4r⟩
    replace hv := hv.symm
    subst hv
    have hs := hq.st
    have hp := hp.join0 hq
    replace hz := hz.trans hs
    replace r_2c := r_2c.step hs
    replace r_22 := r_22.step hs
    replace r_18 := r_18.step hs
    replace r_17 := r_17.step hs
    replace r_l := r_l.step hs
    replace r_k := r_k.step hs
    replace tb := tb.step hs
    refine ⟨fun x => Stp I_4p w_4o I_4p x ∧ OwnK [(g_m, [(.bool x_c.Neg), v_i], 24), (g_o, [(.bool x_d.Neg), v_j], 24), (g_23, [(.bool x_1w.Neg), v_21], 24), (g_2d, [(.bool x_26.Neg), v_2b], 24)] x, ⟨Stp.refl _ _, (OwnK.cons (hp.own 5 _ _ _ rfl).1 (OwnK.cons (hp.own 4 _ _ _ rfl).1 (OwnK.cons (hp.own 1 _ _ _ rfl).1 (OwnK.cons (hp.own 0 _ _ _ rfl).1 OwnK.nil))))⟩, fun x hx => ⟨hz.held hx.1, hx.2⟩, ?_⟩
    have hz := Stp.refl I_4p w_4o
    refine vch_lt e57 rfl e55 rfl rfl rfl ?_
    obtain ⟨x_4s, q_4t, q_2h⟩ := bind_some q_2h
    refine ev_call rfl rfl C19 (((integer_Bits_ok n) _ _  x_4m v_4q r_4r hp.imm _ q_4t).mono ?_)
    rintro _ w_4u ⟨rfl, hc⟩
    have hs := hp.stp hc
    replace hp := hp.ext hc
    replace hz := hz.trans hs
    replace r_2c := r_2c.step hs
    replace r_22 := r_22.step hs
    replace r_18 := r_18.step hs
    replace r_17 := r_17.step hs
    replace r_l := r_l.step hs
    replace r_k := r_k.step hs
    replace tb := tb.step hs
    refine ⟨fun x => Stp I_4p w_4u I_4p x ∧ OwnK [(g_m, [(.bool x_c.Neg), v_i], 24), (g_o, [(.bool x_d.Neg), v_j], 24), (g_23, [(.bool x_1w.Neg), v_21], 24), (g_2d, [(.bool x_26.Neg), v_2b], 24)] x, ⟨Stp.refl _ _, (OwnK.cons (hp.own 5 _ _ _ rfl).1 (OwnK.cons (hp.own 4 _ _ _ rfl).1 (OwnK.cons (hp.own 1 _ _ _ rfl).1 (OwnK.cons (hp.own 0 _ _ _ rfl).1 OwnK.nil))))⟩, fun x hx => ⟨hz.held hx.1, hx.2⟩, ?_⟩
    have hz := Stp.refl I_4p w_4u
    refine vch_qt e58 rfl e55 rfl rfl rfl ?_
    refine vch_q e59 rfl ?_
    refine vch_q e60 rfl ?_
    refine vch_end ?_
    obtain rfl := Option.some.inj q_2h
    have hp := hp.sel [] (by decide)
    exact ⟨((x_4s == 4), I_4p), (.c rfl .n), rfl, hp, tb⟩
  ·
    rintro ⟨x_4v, I_4w⟩ w_4x ⟨hy, hp, tb⟩
    replace hy := hy.symm
    subst hy
    apply go
    obtain rfl := Option.some.inj h
    exact ⟨rfl, hp.ch⟩

end Go.Proofs.YthhghkcopfnbiaaGreatDoor

namespace Go.Proofs.YthhghkcopfnbiaaGreatDoor
open Go Go.Proofs.YthhghkcopfnbiaaGreatDoor.Gw Go.RowKit
set_option linter.unusedVariables false
attribute [local irreducible] Ev EvQ EvS EvH
def law01_few_S (f : Int_2 → Option Bool) : Prop := ∀ (w0 : World) (I0 : Nat → Prop) (x_0 : Int_2) (v_1 : Value) (r_2 : RepS (dI .u32) w0 I0 v_1 x_0.Mag) (hI : ∀ g, I0 g → g < w0.heap.size) (r : Bool), f x_0 = some r →
    Ret Tryz.prog 14 #[(.agg #[(.bool x_0.Neg), v_1])] w0 fun v w1 => v = (.bool r) ∧ Ch [] w0 w1
theorem law01_few_ok (n : Nat) : law01_few_S (law01_few n) := by
  intro w0 I0 x_0 v_1 r_2 hI r h
  unfold law01_few at h
  refine enter Tryz.func14 rfl (Nat.le_of_ble_eq_true rfl) ?_
  have hp : Hp ⟨w0, I0, []⟩ I0 [] w0 := Hp.start hI
  apply go
  apply go
  refine ev_boxI hp rfl rfl ?_
  intro p_3 I_4 w_5 hp hs a_6
  replace r_2 := r_2.step hs
  apply go
  apply go
  refine ev0 (rn_field rfl rfl FO24_1) ?_
  refine ev (rn_load rfl rfl (run_loadVar1 T22 (a_6.2 1 _ rfl))) ?_
  refine ev0 (rn_len rfl rfl Tryz.underlying22 r_2) ?_
  apply go
  obtain rfl := Option.some.inj h
  exact ⟨rfl, hp.ch⟩

end Go.Proofs.YthhghkcopfnbiaaGreatDoor

namespace Go.Proofs.YthhghkcopfnbiaaGreatDoor
open Go Go.Proofs.YthhghkcopfnbiaaGreatDoor.Gw Go.RowKit
set_option linter.unusedVariables false
attribute [local irreducible] Ev EvQ EvS EvH
def integer_Mul_S (f : Int_2 → Int_2 → Option Int_2) : Prop := ∀ (w0 : World) (I0 : Nat → Prop) (x_0 : Int_2) (v_1 : Value) (r_2 : RepS (dI .u32) w0 I0 v_1 x_0.Mag) (x_3 : Int_2) (v_4 : Value) (r_5 : RepS (dI .u32) w0 I0 v_4 x_3.Mag) (hI : ∀ g, I0 g → g < w0.heap.size) (r : Int_2), f x_0 x_3 = some r →
    Ret Tryz.prog 31 #[(.agg #[(.bool x_0.Neg), v_1]), (.agg #[(.bool x_3.Neg), v_4])] w0 fun v w1 => ∃ (I1 : Nat → Prop) (u_6 : Value), v = (.agg #[(.bool r.Neg), u_6]) ∧ Hp ⟨w0, I0, []⟩ I1 [] w1 ∧ RepS (dI .u32) w1 I1 u_6 r.Mag
theorem integer_Mul_ok (n : Nat) : integer_Mul_S (integer_Mul n) := by
  intro w0 I0 x_0 v_1 r_2 x_3 v_4 r_5 hI r h
  unfold integer_Mul at h
  refine enter Tryz.func31 rfl (Nat.le_of_ble_eq_true rfl) ?_
  have hp : Hp ⟨w0, I0, []⟩ I0 [] w0 := Hp.start hI
  apply go
  apply go
  refine ev_boxI hp rfl rfl ?_
  intro p_6 I_7 w_8 hp hs a_9
  replace r_5 := r_5.step hs
  replace r_2 := r_2.step hs
  refine ev_boxI hp rfl rfl ?_
  intro p_a I_b w_c hp hs a_d
  replace a_9 := a_9.step hs
  replace r_2 := r_2.step hs
  replace r_5 := r_5.step hs
  refine ev_alloc hp rfl T24 ?_
  intro g_e w_f hp hs
  replace a_9 := a_9.step hs
  replace r_2 := r_2.step hs
  replace a_d := a_d.step hs
  replace r_5 := r_5.step hs
  apply go
  have hs := hp.stp (Ch.drew [] w_f)
  have hp := hp.drew
  replace a_9 := a_9.step hs
  replace r_2 := r_2.step hs
  replace a_d := a_d.step hs
  replace r_5 := r_5.step hs
  refine W.held [(0, true), (1, true), (2, true), (3, true), (4, true), (5, true), (6, true), (8, true), (9, true), (7, false), (10, false), (11, false), (12, false), (13, false)] (Stp I_b w_f.drew I_b) MX (by kernel_rfl) (Stp.refl _ _) ?_
  have hz := Stp.refl I_b w_f.drew
  refine evh0 (rn_field rfl rfl FO24_0) ?_
  refine evh (fun w' hw => rn_load rfl rfl (run_loadVar1 T4 ((a_9.step hw).2 0 _ rfl))) ?_
  refine evh0 (rn_field rfl rfl FO24_0) ?_
  refine evh (fun w' hw => rn_load rfl rfl (run_loadVar1 T4 ((a_d.step hw).2 0 _ rfl))) ?_
  refine evh0 (rn_neB rfl rfl rfl Tryz.underlying4) ?_
  refine evh0 (rn_field rfl rfl FO24_1) ?_
  refine evh (fun w' hw => rn_load rfl rfl (run_loadVar1 T22 ((a_9.step hw).2 1 _ rfl))) ?_
  refine evh0 (rn_field rfl rfl FO24_1) ?_
  refine evh (fun w' hw => rn_load rfl rfl (run_loadVar1 T22 ((a_d.step hw).2 1 _ rfl))) ?_
  obtain ⟨x_g, q_h, h⟩ := bind_some h
  refine ev_call rfl rfl C46 (((integer_trim_ok n) _ _  x_0.Mag v_1 r_2 hp.imm _ q_h).mono ?_)
  rintro _ w_i ⟨I_j, v_k, hv, hq, r_l⟩
  replace hv := hv.symm
  subst hv
  have hs := hq.st
  have hp := hp.join0 hq
  replace hz := hz.trans hs
  replace r_5 := r_5.step hs
  refine ⟨Stp I_j w_i I_j, Stp.refl _ _, fun x hx => hz.held hx, ?_⟩
  have hz := Stp.refl I_j w_i
  obtain ⟨x_m, q_n, h⟩ := bind_some h
  refine ev_call rfl rfl C46 (((integer_trim_ok n) _ _  x_3.Mag v_4 r_5 hp.imm _ q_n).mono ?_)
  rintro _ w_o ⟨I_p, v_q, hv, hq, r_r⟩
  replace hv := hv.symm
  subst hv
  have hs := hq.st
  have hp := hp.join0 hq
  replace hz := hz.trans hs
  replace r_l := r_l.step hs
  refine ⟨Stp I_p w_o I_p, Stp.refl _ _, fun x hx => hz.held hx, ?_⟩
  have hz := Stp.refl I_p w_o
  obtain ⟨x_s, q_t, h⟩ := bind_some h
  refine ev_call rfl rfl C66 (((integer_times_ok n) _ _  x_g v_k r_l x_m v_q r_r hp.imm _ q_t).mono ?_)
  rintro _ w_u ⟨I_v, v_w, hv, hq, r_x⟩
  replace hv := hv.symm
  subst hv
  have hs := hq.st
  have hp := hp.join0 hq
  replace hz := hz.trans hs
  refine ⟨Stp I_v w_u I_v, Stp.refl _ _, fun x hx => hz.held hx, ?_⟩
  have hz := Stp.refl I_v w_u
  obtain ⟨x_y, q_z, h⟩ := bind_some h
  refine ev_call rfl rfl C49 (((integer_made_ok n) _ _  (!(x_0.Neg == x_3.Neg)) x_s v_w r_x hp.imm _ q_z).mono ?_)
  rintro _ w_10 ⟨I_11, v_12, hv, hq, r_13⟩
  replace hv := hv.symm
  subst hv
  have hs := hq.st
  have hp := hp.join0 hq
  replace hz := hz.trans hs
  refine ⟨Stp I_11 w_10 I_11, Stp.refl _ _, fun x hx => hz.held hx, ?_⟩
  have hz := Stp.refl I_11 w_10
  refine ev_storeA hp (i := 0) (off := 0) (vs := [(.bool x_y.Neg), v_12]) rfl rfl rfl rfl T24 rfl (Nat.le_of_ble_eq_true rfl) (ones_cons rfl (ones_cons r_13.one ones_nil)) ?_
  intro w_14 hp hs
  replace hz := hz.trans hs
  replace r_13 := r_13.step hs
  refine ⟨Stp I_11 w_14 I_11, Stp.refl _ _, fun x hx => hz.held hx, ?_⟩
  have hz := Stp.refl I_11 w_14
  apply go
  obtain rfl := Option.some.inj h
  refine ⟨_, run_loadVarA T24 rfl (hp.at_ (i := 0) rfl), ?_⟩
  have hp := hp.sel [] (by decide)
  exact ⟨I_11, v_12, rfl, hp, r_13⟩

end Go.Proofs.YthhghkcopfnbiaaGreatDoor

namespace Go.Proofs.YthhghkcopfnbiaaGreatDoor
open Go Go.Proofs.YthhghkcopfnbiaaGreatDoor.Gw Go.RowKit
set_option linter.unusedVariables false
attribute [local irreducible] Ev EvQ EvS EvH
def slices_Cloneown_S (f : (List Int) → Option (List Int)) : Prop := ∀ (w0 : World) (I0 : Nat → Prop) (x_0 : (List Int)) (v_1 : Value) (r_2 : RepS (dI .u32) w0 I0 v_1 x_0) (hI : ∀ g, I0 g → g < w0.heap.size) (r : (List Int)), f x_0 = some r →
    Ret Tryz.prog 56 #[v_1] w0 fun v w1 => ∃ (I1 : Nat → Prop) (u_3 : Value) (u_4 : Ent), v = u_3 ∧ Hp ⟨w0, I0, []⟩ I1 [u_4] w1 ∧ OwnS (dI .u32) 45 w1 I1 u_3 u_4 r
theorem slices_Cloneown_ok (n : Nat) : slices_Cloneown_S (slices_Cloneown n) := by
  intro w0 I0 x_0 v_1 r_2 hI r h
  unfold slices_Cloneown at h
  refine enter Tryz.func56 rfl (Nat.le_of_ble_eq_true rfl) ?_
  have hp : Hp ⟨w0, I0, []⟩ I0 [] w0 := Hp.start hI
  apply go
  apply go
  apply go
  apply go
  apply go
  rcases r_2.nilcase with ⟨hv, hx⟩ | ⟨n_3, hv, hx⟩ | ⟨a_4, n_3, hv⟩
  ·
    subst hv; subst hx
    replace h : some ([] : (List Int)) = some _ := h
    refine ev0 (rn_eqNil rfl rfl rfl Tryz.underlying22) ?_
    apply go
    apply go
    apply go
    apply go
    obtain rfl := Option.some.inj h
    have hp := hp.none_
    have o_5 := OwnS.nil (dI .u32) 45 w0 I0
    exact ⟨I0, (.slice none 0 0), none, rfl, hp, o_5⟩
  ·
    subst hv; subst hx
    replace h : some ([] : (List Int)) = some _ := h
    refine ev0 (rn_eqNil rfl rfl rfl Tryz.underlying22) ?_
    apply go
    apply go
    apply go
    apply go
    obtain rfl := Option.some.inj h
    have hp := hp.none_
    have o_6 := OwnS.nil (dI .u32) 45 w0 I0
    exact ⟨I0, (.slice none 0 0), none, rfl, hp, o_6⟩
  ·
    subst hv
    refine ev0 (rn_eqNil rfl rfl rfl Tryz.underlying22) ?_
    apply go
    apply go
    apply go
    apply go
    refine ev_litON (d := (dI .u32)) (xs := ([] : List Int)) (cs := []) hp rfl rfl Tryz.underlying22 T45 (by decide) (by decide) rfl rfl (Elems.nil _ _ _ _) ?_
    intro v_7 e_8 w_9 hp hs o_a
    replace r_2 := r_2.step hs
    obtain ⟨x_b, q_c, h⟩ := bind_some h
    refine ev_append hp (i := 0) rfl rfl rfl rfl Tryz.underlying22 T45 rfl rfl o_a r_2 q_c ?_
    rintro v_d e_e w_f hp hs o_g
    apply go
    obtain rfl := Option.some.inj h
    exact ⟨I0, v_d, e_e, rfl, hp, o_g⟩

end Go.Proofs.YthhghkcopfnbiaaGreatDoor

namespace Go.Proofs.YthhghkcopfnbiaaGreatDoor
open Go Go.Proofs.YthhghkcopfnbiaaGreatDoor.Gw Go.RowKit
set_option linter.unusedVariables false
attribute [local irreducible] Ev EvQ EvS EvH
def integer_trimgive_S (f : (List Int) → Option (List Int)) : Prop := ∀ (w0 : World) (I0 : Nat → Prop) (x_0 : (List Int)) (v_1 : Value) (e_2 : Ent) (o_3 : OwnS (dI .u32) 45 w0 I0 v_1 e_2 x_0) (hp : Hp ⟨w0, I0, (blk e_2)⟩ I0 [e_2] w0) (r : (List Int)), f x_0 = some r →
    Ret Tryz.prog 46 #[v_1] w0 fun v w1 => ∃ (I1 : Nat → Prop) (u_4 : Value) (u_5 : Ent), v = u_4 ∧ Hp ⟨w0, I0, (blk e_2)⟩ I1 [u_5] w1 ∧ OwnS (dI .u32) 45 w1 I1 u_4 u_5 r ∧ (∀ g, g ∈ blk u_5 → g ∈ blk e_2)
theorem integer_trimgive_ok (n : Nat) : integer_trimgive_S (integer_trimgive n) := by
  intro w0 I0 x_0 v_1 e_2 o_3 hp r h
  unfold integer_trimgive at h
  refine enter Tryz.func46 rfl (Nat.le_of_ble_eq_true rfl) ?_
  apply go
  apply go
  obtain ⟨y_4, q_5, h⟩ := bind_some h
  refine W.cut (γ := ((List Int) × Value)) (fun g => [(0, (g.2))]) (fun g w' => y_4 = (g.1) ∧ w0 = w' ∧ OwnS (dI .u32) 45 w' I0 (g.2) e_2 (g.1)) ?_ ?_
  ·
    apply go
    refine W.loop q_5 (γ := Value) (fun s g => [(0, (g))]) (fun s g w' => w0 = w' ∧ OwnS (dI .u32) 45 w' I0 (g) e_2 (s)) v_1 (.c rfl .n) ⟨rfl, o_3⟩ ?_
    rintro x_6 v_7 _ y_8 ⟨rfl, o_9⟩ q_a q_b
    unfold integer_trimgive_L1 at q_a
    apply go
    obtain ⟨y_c, q_d, q_a⟩ := bind_some q_a
    refine W.cut (γ := Bool) (fun g => [(0, v_7), (14, (.bool (g)))]) (fun g w' => y_c = (g) ∧ w0 = w') ?_ ?_
    ·
      apply go
      refine ev0 (x_lenO rfl rfl Tryz.underlying22 o_9) ?_
      refine sel_of (fun hc => ?_) (fun hc => ?_)
      ·
        have q_d := cond_t q_d hc
        refine ev0 (x_lenO rfl rfl Tryz.underlying22 o_9) ?_
        obtain ⟨x_e, q_f, q_d⟩ := bind_some q_d
        refine ev_indexO rfl rfl rfl Tryz.underlying22 T45 o_9 q_f ?_
        intro g_g c_h h_i d_j l_k
        refine ev (rn_load rfl rfl (run_loadVar1 T45 (hp.cellE (i := 0) rfl h_i d_j (j := 0) rfl))) ?_
        obtain rfl := Option.some.inj q_d
        exact ⟨(x_e == 0), (.c rfl (.c rfl .n)), rfl, rfl⟩
      ·
        have q_d := cond_f q_d hc
        obtain rfl := Option.some.inj q_d
        exact ⟨false, (.c rfl (.c rfl .n)), rfl, rfl⟩
    ·
      rintro x_l _ ⟨hy, rfl⟩
      replace hy := hy.symm
      subst hy
      apply go
      refine sel_of (fun hc => ?_) (fun hc => ?_)
      ·
        have q_a := cond_t q_a hc
        apply go
        apply go
        apply go
        refine ev0 (x_lenO rfl rfl Tryz.underlying22 o_9) ?_
        obtain ⟨x_m, q_n, q_a⟩ := bind_some q_a
        refine ev_cutO (kl := .i64) (kh := .i64) rfl rfl rfl rfl Tryz.underlying22 T45 o_9 q_n ?_
        intro v_o o_p
        exact ⟨_, (Option.some.inj q_a).symm, v_o, (.c rfl .n), ⟨rfl, o_p⟩⟩
      ·
        have q_a := cond_f q_a hc
        apply go
        have q_q := congrArg some (q_b _ (Option.some.inj q_a).symm)
        obtain rfl := Option.some.inj q_q
        exact ⟨(x_6, v_7), (.c rfl .n), rfl, rfl, o_9⟩
  ·
    rintro ⟨x_r, v_s⟩ _ ⟨hy, rfl, o_t⟩
    replace hy := hy.symm
    subst hy
    apply go
    apply go
    apply go
    obtain rfl := Option.some.inj h
    exact ⟨I0, v_s, e_2, rfl, hp, o_t, (fun _ h => h)⟩

end Go.Proofs.YthhghkcopfnbiaaGreatDoor

namespace Go.Proofs.YthhghkcopfnbiaaGreatDoor
open Go Go.Proofs.YthhghkcopfnbiaaGreatDoor.Gw Go.RowKit
set_option linter.unusedVariables false
attribute [local irreducible] Ev EvQ EvS EvH
def integer_madegive_S (f : Bool → (List Int) → Option Int_2) : Prop := ∀ (w0 : World) (I0 : Nat → Prop) (x_0 : Bool) (x_1 : (List Int)) (v_2 : Value) (e_3 : Ent) (o_4 : OwnS (dI .u32) 45 w0 I0 v_2 e_3 x_1) (hp : Hp ⟨w0, I0, (blk e_3)⟩ I0 [e_3] w0) (r : Int_2), f x_0 x_1 = some r →
    Ret Tryz.prog 49 #[(.bool x_0), v_2] w0 fun v w1 => ∃ (I1 : Nat → Prop) (u_5 : Value) (u_6 : Ent), v = (.agg #[(.bool r.Neg), u_5]) ∧ Hp ⟨w0, I0, (blk e_3)⟩ I1 [u_6] w1 ∧ OwnS (dI .u32) 45 w1 I1 u_5 u_6 r.Mag ∧ (∀ g, g ∈ blk u_6 → g ∈ blk e_3)
theorem integer_madegive_ok (n : Nat) : integer_madegive_S (integer_madegive n) := by
  intro w0 I0 x_0 x_1 v_2 e_3 o_4 hp r h
  unfold integer_madegive at h
  refine enter Tryz.func49 rfl (Nat.le_of_ble_eq_true rfl) ?_
  apply go
  apply go
  refine ev_alloc hp rfl T24 ?_
  intro g_5 w_6 hp hs
  replace o_4 := o_4.step hs
  apply go
  apply go
  obtain ⟨x_7, q_8, h⟩ := bind_some h
  refine ev_call rfl rfl C46 (((integer_trimgive_ok n) _ _  x_1 v_2 e_3 o_4 (hp.lend (i := 1) rfl) _ q_8).mono ?_)
  rintro _ w_9 ⟨I_a, v_b, e_c, hv, hq, o_d, b_e⟩
  replace hv := hv.symm
  subst hv
  have hs := hq.st
  have hp := hp.backS (i := 1) rfl hq b_e
  apply go
  apply go
  apply go
  refine ev0 (x_lenO rfl rfl Tryz.underlying22 o_d) ?_
  apply go
  refine sel_of (fun hc => ?_) (fun hc => ?_)
  ·
    have h := cond_t h hc
    apply go
    apply go
    refine ev0 (fun w => rn_build (cs := [(.bool false), (.slice none 0 0)]) rfl rfl T24 PL24 rfl) ?_
    refine ev_storeA hp (i := 0) (off := 0) (vs := [(.bool false), (.slice none 0 0)]) rfl rfl rfl rfl T24 rfl (Nat.le_of_ble_eq_true rfl) (ones_of rfl) ?_
    intro w_f hp hs
    apply go
    obtain rfl := Option.some.inj h
    have hp := hp.none_
    have o_g := OwnS.nil (dI .u32) 45 w_f I_a
    refine ⟨_, run_loadVarA T24 rfl (hp.at_ (i := 1) rfl), ?_⟩
    have hp := hp.sel [0] (by decide)
    exact ⟨I_a, (.slice none 0 0), none, rfl, hp, o_g, (blk_none _)⟩
  ·
    have h := cond_f h hc
    apply go
    apply go
    apply go
    obtain ⟨A_h, m_i, m_j, rfl⟩ := o_d.isSl
    refine ev0 (fun w => rn_build (cs := [(.bool x_0), (.slice A_h m_i m_j)]) rfl rfl T24 PL24 rfl) ?_
    refine ev_storeA hp (i := 0) (off := 0) (vs := [(.bool x_0), (.slice A_h m_i m_j)]) rfl rfl rfl rfl T24 rfl (Nat.le_of_ble_eq_true rfl) (ones_cons rfl (ones_cons o_d.one ones_nil)) ?_
    intro w_k hp hs
    replace o_d := o_d.step hs
    apply go
    obtain rfl := Option.some.inj h
    refine ⟨_, run_loadVarA T24 rfl (hp.at_ (i := 0) rfl), ?_⟩
    have hp := hp.sel [1] (by decide)
    exact ⟨I_a, (.slice A_h m_i m_j), e_c, rfl, hp, o_d, (fun g h => (fun _ h => h) g (b_e g h))⟩

end Go.Proofs.YthhghkcopfnbiaaGreatDoor

namespace Go.Proofs.YthhghkcopfnbiaaGreatDoor
open Go Go.Proofs.YthhghkcopfnbiaaGreatDoor.Gw Go.RowKit
set_option linter.unusedVariables false
attribute [local irreducible] Ev EvQ EvS EvH
def integer_Normown_S (f : Int_2 → Option Int_2) : Prop := ∀ (w0 : World) (I0 : Nat → Prop) (x_0 : Int_2) (v_1 : Value) (r_2 : RepS (dI .u32) w0 I0 v_1 x_0.Mag) (hI : ∀ g, I0 g → g < w0.heap.size) (r : Int_2), f x_0 = some r →
    Ret Tryz.prog 35 #[(.agg #[(.bool x_0.Neg), v_1])] w0 fun v w1 => ∃ (I1 : Nat → Prop) (u_3 : Value) (u_4 : Ent), v = (.agg #[(.bool r.Neg), u_3]) ∧ Hp ⟨w0, I0, []⟩ I1 [u_4] w1 ∧ OwnS (dI .u32) 45 w1 I1 u_3 u_4 r.Mag
theorem integer_Normown_ok (n : Nat) : integer_Normown_S (integer_Normown n) := by
  intro w0 I0 x_0 v_1 r_2 hI r h
  unfold integer_Normown at h
  refine enter Tryz.func35 rfl (Nat.le_of_ble_eq_true rfl) ?_
  have hp : Hp ⟨w0, I0, []⟩ I0 [] w0 := Hp.start hI
  apply go
  apply go
  refine ev_boxI hp rfl rfl ?_
  intro p_3 I_4 w_5 hp hs a_6
  replace r_2 := r_2.step hs
  refine ev_alloc hp rfl T24 ?_
  intro g_7 w_8 hp hs
  replace a_6 := a_6.step hs
  replace r_2 := r_2.step hs
  apply go
  have hs := hp.stp (Ch.drew [] w_8)
  have hp := hp.drew
  replace a_6 := a_6.step hs
  replace r_2 := r_2.step hs
  refine W.held [(0, true), (1, true), (2, true), (3, true), (4, false), (5, false), (6, false), (7, false)] (Stp I_4 w_8.drew I_4) MX (by kernel_rfl) (Stp.refl _ _) ?_
  have hz := Stp.refl I_4 w_8.drew
  refine evh0 (rn_field rfl rfl FO24_0) ?_
  refine evh (fun w' hw => rn_load rfl rfl (run_loadVar1 T4 ((a_6.step hw).2 0 _ rfl))) ?_
  refine evh0 (rn_field rfl rfl FO24_1) ?_
  refine evh (fun w' hw => rn_load rfl rfl (run_loadVar1 T22 ((a_6.step hw).2 1 _ rfl))) ?_
  obtain ⟨x_9, q_a, h⟩ := bind_some h
  refine ev_call rfl rfl C46 (((integer_trim_ok n) _ _  x_0.Mag v_1 r_2 hp.imm _ q_a).mono ?_)
  rintro _ w_b ⟨I_c, v_d, hv, hq, r_e⟩
  replace hv := hv.symm
  subst hv
  have hs := hq.st
  have hp := hp.join0 hq
  replace hz := hz.trans hs
  refine ⟨Stp I_c w_b I_c, Stp.refl _ _, fun x hx => hz.held hx, ?_⟩
  have hz := Stp.refl I_c w_b
  obtain ⟨x_f, q_g, h⟩ := bind_some h
  refine ev_call rfl rfl C56 (((slices_Cloneown_ok n) _ _  x_9 v_d r_e hp.imm _ q_g).mono ?_)
  rintro _ w_h ⟨I_i, v_j, e_k, hv, hq, o_l⟩
  replace hv := hv.symm
  subst hv
  have hs := hq.st
  have hp := hp.join0 hq
  replace hz := hz.trans hs
  refine ⟨Stp I_i w_h I_i, Stp.refl _ _, fun x hx => hz.held hx, ?_⟩
  have hz := Stp.refl I_i w_h
  obtain ⟨x_m, q_n, h⟩ := bind_some h
  refine ev_call rfl rfl C49 (((integer_madegive_ok n) _ _  x_0.Neg x_f v_j e_k o_l (hp.lend (i := 0) rfl) _ q_n).mono ?_)
  rintro _ w_o ⟨I_p, v_q, e_r, hv, hq, r_s, b_t⟩
  replace hv := hv.symm
  subst hv
  have hs := hq.st
  have hp := hp.backS (i := 0) rfl hq b_t
  replace hz := hz.trans hs
  refine ⟨Stp I_p w_o I_p, Stp.refl _ _, fun x hx => hz.held hx, ?_⟩
  have hz := Stp.refl I_p w_o
  refine ev_storeA hp (i := 1) (off := 0) (vs := [(.bool x_m.Neg), v_q]) rfl rfl rfl rfl T24 rfl (Nat.le_of_ble_eq_true rfl) (ones_cons rfl (ones_cons r_s.one ones_nil)) ?_
  intro w_u hp hs
  replace hz := hz.trans hs
  replace r_s := r_s.step hs
  refine ⟨Stp I_p w_u I_p, Stp.refl _ _, fun x hx => hz.held hx, ?_⟩
  have hz := Stp.refl I_p w_u
  apply go
  obtain rfl := Option.some.inj h
  refine ⟨_, run_loadVarA T24 rfl (hp.at_ (i := 1) rfl), ?_⟩
  have hp := hp.sel [0] (by decide)
  exact ⟨I_p, v_q, e_r, rfl, hp, r_s⟩

end Go.Proofs.YthhghkcopfnbiaaGreatDoor

namespace Go.Proofs.YthhghkcopfnbiaaGreatDoor
open Go Go.Proofs.YthhghkcopfnbiaaGreatDoor.Gw Go.RowKit
set_option linter.unusedVariables false
attribute [local irreducible] Ev EvQ EvS EvH vch
def law01_IntegerForms_S (f : Int_2 → Int_2 → Int → Option Bool) : Prop := ∀ (w0 : World) (I0 : Nat → Prop) (tb : Tb w0 I0 1 .u64 pow10) (x_0 : Int_2) (v_1 : Value) (r_2 : RepS (dI .u32) w0 I0 v_1 x_0.Mag) (x_3 : Int_2) (v_4 : Value) (r_5 : RepS (dI .u32) w0 I0 v_4 x_3.Mag) (x_6 : Int) (hI : ∀ g, I0 g → g < w0.heap.size) (r : Bool), f x_0 x_3 x_6 = some r →
    Ret Tryz.prog 10 #[(.agg #[(.bool x_0.Neg), v_1]), (.agg #[(.bool x_3.Neg), v_4]), (.int .u8 x_6)] w0 fun v w1 => v = (.bool r) ∧ Ch [] w0 w1
theorem law01_IntegerForms_ok (n : Nat) : law01_IntegerForms_S (law01_IntegerForms n) := by
  intro w0 I0 tb x_0 v_1 r_2 x_3 v_4 r_5 x_6 hI r h
  unfold law01_IntegerForms at h
  refine enter Tryz.func10 rfl (Nat.le_of_ble_eq_true rfl) ?_
  have hp : Hp ⟨w0, I0, []⟩ I0 [] w0 := Hp.start hI
  apply go
  apply go
  refine ev_boxI hp rfl rfl ?_
  intro p_7 I_8 w_9 hp hs a_a
  replace r_5 := r_5.step hs
  replace r_2 := r_2.step hs
  replace tb := tb.step hs
  refine ev_boxI hp rfl rfl ?_
  intro p_b I_c w_d hp hs a_e
  replace a_a := a_a.step hs
  replace r_2 := r_2.step hs
  replace r_5 := r_5.step hs
  replace tb := tb.step hs
  apply go
  obtain ⟨y_f, q_g, h⟩ := bind_some h
  refine W.cut (γ := Bool) (fun g => [(2, (.int .u8 x_6)), (3, (.pointer (some (p_7)))), (4, (.pointer (some (p_b)))), (29, (.bool (g)))]) (fun g w' => y_f = (g) ∧ Hp ⟨w0, I0, []⟩ I_c [] w' ∧ RepS (dI .u32) w' I_c v_1 x_0.Mag ∧ At w' I_c p_7 [(.bool x_0.Neg), v_1] ∧ RepS (dI .u32) w' I_c v_4 x_3.Mag ∧ At w' I_c p_b [(.bool x_3.Neg), v_4] ∧ Tb w' I_c 1 .u64 pow10) ?_ ?_
  ·
    apply go
    obtain ⟨x_h, q_i, q_g⟩ := bind_some q_g
    refine ev_call rfl rfl C13 (((law01_awake_ok n) _ _ tb  hp.imm _ q_i).mono ?_)
    rintro _ w_j ⟨rfl, hc⟩
    have hs := hp.stp hc
    replace hp := hp.ext hc
    replace a_a := a_a.step hs
    replace r_2 := r_2.step hs
    replace a_e := a_e.step hs
    replace r_5 := r_5.step hs
    replace tb := tb.step hs
    refine sel_of (fun hc => ?_) (fun hc => ?_)
    ·
      have q_g := cond_t q_g hc
      obtain rfl := Option.some.inj q_g
      exact ⟨true, (.c rfl (.c rfl (.c rfl (.c rfl .n)))), rfl, hp, r_2, a_a, r_5, a_e, tb⟩
    ·
      have q_g := cond_f q_g hc
      refine ev (rn_load rfl rfl (run_loadVarA T24 rfl a_a)) ?_
      obtain ⟨x_k, q_l, q_g⟩ := bind_some q_g
      refine ev_call rfl rfl C14 (((law01_few_ok n) _ _  (Int_2.mk x_0.Neg x_0.Mag) v_1 r_2 hp.imm _ q_l).mono ?_)
      rintro _ w_m ⟨rfl, hc⟩
      have hs := hp.stp hc
      replace hp := hp.ext hc
      replace a_a := a_a.step hs
      replace r_2 := r_2.step hs
      replace a_e := a_e.step hs
      replace r_5 := r_5.step hs
      replace tb := tb.step hs
      refine sel_of (fun hc => ?_) (fun hc => ?_)
      ·
        have q_g := cond_t q_g hc
        obtain rfl := Option.some.inj q_g
        exact ⟨true, (.c rfl (.c rfl (.c rfl (.c rfl .n)))), rfl, hp, r_2, a_a, r_5, a_e, tb⟩
      ·
        have q_g := cond_f q_g hc
        refine ev (rn_load rfl rfl (run_loadVarA T24 rfl a_e)) ?_
        obtain ⟨x_n, q_o, q_g⟩ := bind_some q_g
        refine ev_call rfl rfl C14 (((law01_few_ok n) _ _  (Int_2.mk x_3.Neg x_3.Mag) v_4 r_5 hp.imm _ q_o).mono ?_)
        rintro _ w_p ⟨rfl, hc⟩
        have hs := hp.stp hc
        replace hp := hp.ext hc
        replace a_a := a_a.step hs
        replace r_2 := r_2.step hs
        replace a_e := a_e.step hs
        replace r_5 := r_5.step hs
        replace tb := tb.step hs
        obtain rfl := Option.some.inj q_g
        exact ⟨(!x_n), (.c rfl (.c rfl (.c rfl (.c rfl .n)))), rfl, hp, r_2, a_a, r_5, a_e, tb⟩
  ·
    rintro x_q w_r ⟨hy, hp, r_2, a_a, r_5, a_e, tb⟩
    replace hy := hy.symm
    subst hy
    apply go
    refine sel_of (fun hc => ?_) (fun hc => ?_)
    ·
      have h := cond_t h hc
      apply go
      apply go
      obtain ⟨x_s, q_t, h⟩ := bind_some h
      refine ev_call rfl rfl C13 (((law01_awake_ok n) _ _ tb  hp.imm _ q_t).mono ?_)
      rintro _ w_u ⟨rfl, hc⟩
      have hs := hp.stp hc
      replace hp := hp.ext hc
      replace tb := tb.step hs
      apply go
      obtain rfl := Option.some.inj h
      exact ⟨rfl, hp.ch⟩
    ·
      have h := cond_f h hc
      apply go
      obtain ⟨y_v, q_w, h⟩ := bind_some h
      refine W.cut (γ := (Bool × (List Int) × Nat × Value × Ent)) (fun g => [(3, (.pointer (some (p_7)))), (4, (.pointer (some (p_b)))), (7, (.pointer (some ⟨(g.2.2.1), 0, none⟩)))]) (fun g w' => y_v = ((g.1), (g.2.1)) ∧ Hp ⟨w0, I0, []⟩ I_c [(g.2.2.2.2), some ((g.2.2.1), [(.bool (g.1)), (g.2.2.2.1)], 24)] w' ∧ RepS (dI .u32) w' I_c v_1 x_0.Mag ∧ At w' I_c p_7 [(.bool x_0.Neg), v_1] ∧ RepS (dI .u32) w' I_c v_4 x_3.Mag ∧ At w' I_c p_b [(.bool x_3.Neg), v_4] ∧ OwnS (dI .u32) 45 w' I_c (g.2.2.2.1) (g.2.2.2.2) (g.2.1) ∧ Tb w' I_c 1 .u64 pow10) ?_ ?_
      ·
        have hs := hp.stp (Ch.drew [] w_r)
        have hp := hp.drew
        replace a_a := a_a.step hs
        replace r_2 := r_2.step hs
        replace a_e := a_e.step hs
        replace r_5 := r_5.step hs
        replace tb := tb.step hs
        refine W.heldG (.q 0 (.q 1 (.q 3 (.q 4 (.q 6 (.q 7 (.q 8 (.l 2 (.l 5 (.l 9 (.q 10 (.l 11 (.l 12 .done .no) .no)) (.l 11 (.l 9 (.q 10 (.l 12 .done .no)) .no) .no)) (.l 11 (.l 5 (.l 9 (.q 10 (.l 12 .done .no)) .no) .no) .no)) (.l 11 (.l 2 (.l 5 (.l 9 (.q 10 (.l 12 .done .no)) .no) .no) .no) .no))))))))) (SK (Stp I_c w_r.drew I_c) [] []) MX (by kernel_rfl) ⟨Stp.refl _ _, kp_nil⟩ ?_
        have hz := Stp.refl I_c w_r.drew
        refine ⟨SK.same (by kernel_rfl), ?_⟩
        refine evh0 (rn_field rfl rfl FO24_0) ?_
        refine ⟨SK.same (by kernel_rfl), ?_⟩
        refine evh (fun w' hw => rn_load rfl rfl (run_loadVar1 T4 ((a_a.step (S0.si hw)).2 0 _ rfl))) ?_
        refine ⟨SK.same (by kernel_rfl), ?_⟩
        refine evh0 (rn_field rfl rfl FO24_1) ?_
        refine ⟨SK.same (by kernel_rfl), ?_⟩
        refine evh (fun w' hw => rn_load rfl rfl (run_loadVar1 T22 ((a_a.step (S0.si hw)).2 1 _ rfl))) ?_
        refine ⟨SK.same (by kernel_rfl), ?_⟩
        refine ⟨SK.same (by kernel_rfl), ?_⟩
        refine evh0 (rn_conv rfl rfl U5 Tryz.underlying3) ?_
        refine ⟨SK.same (by kernel_rfl), ?_⟩
        refine ⟨by decide, ?_⟩
        refine ⟨?_, ?_⟩
        ·
          refine ev_litON (d := (dI .u32)) (xs := ([] : List Int)) (cs := []) hp rfl rfl Tryz.underlying22 T45 (by decide) (by decide) rfl rfl (Elems.nil _ _ _ _) ?_
          intro v_x e_y w_z hp hs o_10
          replace hz := hz.trans hs
          replace a_a := a_a.step hs
          replace r_2 := r_2.step hs
          replace a_e := a_e.step hs
          replace r_5 := r_5.step hs
          replace tb := tb.step hs
          refine ⟨SK (Stp I_c w_z I_c) [] [], ⟨Stp.refl _ _, kp_nil⟩, fun L x h => ⟨hz.held h.1, h.2⟩, ?_⟩
          have hz := Stp.refl I_c w_z
          refine ⟨?_, ?_⟩
          ·
            obtain ⟨x_11, q_12, q_w⟩ := bind_some q_w
            refine ev_append hp (i := 0) rfl rfl rfl rfl Tryz.underlying22 T45 rfl rfl o_10 r_2 q_12 ?_
            rintro v_13 e_14 w_15 hp hs o_16
            replace hz := hz.trans hs
            replace a_a := a_a.step hs
            replace r_2 := r_2.step hs
            replace a_e := a_e.step hs
            replace r_5 := r_5.step hs
            replace tb := tb.step hs
            refine ⟨SK (Stp I_c w_15 I_c) [] [], ⟨Stp.refl _ _, kp_nil⟩, fun L x h => ⟨hz.held h.1, h.2⟩, ?_⟩
            have hz := Stp.refl I_c w_15
            refine ⟨?_, ?_⟩
            ·
              obtain ⟨x_17, q_18, q_w⟩ := bind_some q_w
              refine ev_appendZ (d := (dI .u32)) (x0 := 0) hp (i := 0) rfl rfl rfl rfl Tryz.underlying22 Tryz.underlying3 T45 rfl rfl o_16 (fun _ _ => rfl) (fun u hu => by cases hu with | head => rfl | tail _ h => cases h) q_18 ?_
              rintro v_19 e_1a w_1b hp hs o_1c
              replace hz := hz.trans hs
              replace a_a := a_a.step hs
              replace r_2 := r_2.step hs
              replace a_e := a_e.step hs
              replace r_5 := r_5.step hs
              replace tb := tb.step hs
              refine ⟨SK (Stp I_c w_1b I_c) [] [], ⟨Stp.refl _ _, kp_nil⟩, fun L x h => ⟨hz.held h.1, h.2⟩, ?_⟩
              have hz := Stp.refl I_c w_1b
              refine ⟨SK.same (by kernel_rfl), ?_⟩
              obtain ⟨A_1d, m_1e, m_1f, rfl⟩ := o_1c.isSl
              refine evh0 (fun w => rn_build (cs := [(.bool x_0.Neg), (.slice A_1d m_1e m_1f)]) rfl rfl T24 PL24 rfl) ?_
              refine ⟨?_, trivial⟩
              refine ev_alloc hp rfl T24 ?_
              intro g_1g w_1h hp hs
              replace hz := hz.trans hs
              replace a_a := a_a.step hs
              replace r_2 := r_2.step hs
              replace a_e := a_e.step hs
              replace r_5 := r_5.step hs
              replace o_1c := o_1c.step hs
              replace tb := tb.step hs
              refine ⟨SK (Stp I_c w_1h I_c) [] [], ⟨Stp.refl _ _, kp_nil⟩, fun L x h => ⟨hz.held h.1, h.2⟩, ?_⟩
              have hz := Stp.refl I_c w_1h
              refine ⟨?_, trivial⟩
              refine ev_storeA hp (i := 0) (off := 0) (vs := [(.bool x_0.Neg), (.slice A_1d m_1e m_1f)]) rfl rfl rfl rfl T24 rfl (Nat.le_of_ble_eq_true rfl) (ones_cons rfl (ones_cons o_1c.one ones_nil)) ?_
              intro w_1i hp hs
              replace hz := hz.trans hs
              replace a_a := a_a.step hs
              replace r_2 := r_2.step hs
              replace a_e := a_e.step hs
              replace r_5 := r_5.step hs
              replace o_1c := o_1c.step hs
              replace tb := tb.step hs
              refine ⟨SK (Stp I_c w_1i I_c) [] [], ⟨Stp.refl _ _, kp_nil⟩, fun L x h => ⟨hz.held h.1, h.2⟩, ?_⟩
              have hz := Stp.refl I_c w_1i
              obtain rfl := Option.some.inj q_w
              have hp := hp.perm [1, 0] (by decide)
              exact ⟨(x_0.Neg, x_17, g_1g, (.slice A_1d m_1e m_1f), e_1a), (.c rfl (.c rfl (.c rfl .n))), rfl, hp, r_2, a_a, r_5, a_e, o_1c, tb⟩
            refine ⟨?_, trivial⟩
            refine ev_alloc hp rfl T24 ?_
            intro g_1j w_1k hp hs
            replace hz := hz.trans hs
            replace a_a := a_a.step hs
            replace r_2 := r_2.step hs
            replace a_e := a_e.step hs
            replace r_5 := r_5.step hs
            replace o_16 := o_16.step hs
            replace tb := tb.step hs
            refine ⟨SK (Stp I_c w_1k I_c) [] [], ⟨Stp.refl _ _, kp_nil⟩, fun L x h => ⟨hz.held h.1, h.2⟩, ?_⟩
            have hz := Stp.refl I_c w_1k
            refine ⟨?_, trivial⟩
            obtain ⟨x_1l, q_1m, q_w⟩ := bind_some q_w
            refine ev_appendZ (d := (dI .u32)) (x0 := 0) hp (i := 1) rfl rfl rfl rfl Tryz.underlying22 Tryz.underlying3 T45 rfl rfl o_16 (fun _ _ => rfl) (fun u hu => by cases hu with | head => rfl | tail _ h => cases h) q_1m ?_
            rintro v_1n e_1o w_1p hp hs o_1q
            replace hz := hz.trans hs
            replace a_a := a_a.step hs
            replace r_2 := r_2.step hs
            replace a_e := a_e.step hs
            replace r_5 := r_5.step hs
            replace tb := tb.step hs
            refine ⟨SK (Stp I_c w_1p I_c) [] [], ⟨Stp.refl _ _, kp_nil⟩, fun L x h => ⟨hz.held h.1, h.2⟩, ?_⟩
            have hz := Stp.refl I_c w_1p
            refine ⟨SK.same (by kernel_rfl), ?_⟩
            obtain ⟨A_1r, m_1s, m_1t, rfl⟩ := o_1q.isSl
            refine evh0 (fun w => rn_build (cs := [(.bool x_0.Neg), (.slice A_1r m_1s m_1t)]) rfl rfl T24 PL24 rfl) ?_
            refine ⟨?_, trivial⟩
            refine ev_storeA hp (i := 0) (off := 0) (vs := [(.bool x_0.Neg), (.slice A_1r m_1s m_1t)]) rfl rfl rfl rfl T24 rfl (Nat.le_of_ble_eq_true rfl) (ones_cons rfl (ones_cons o_1q.one ones_nil)) ?_
            intro w_1u hp hs
            replace hz := hz.trans hs
            replace a_a := a_a.step hs
            replace r_2 := r_2.step hs
            replace a_e := a_e.step hs
            replace r_5 := r_5.step hs
            replace o_1q := o_1q.step hs
            replace tb := tb.step hs
            refine ⟨SK (Stp I_c w_1u I_c) [] [], ⟨Stp.refl _ _, kp_nil⟩, fun L x h => ⟨hz.held h.1, h.2⟩, ?_⟩
            have hz := Stp.refl I_c w_1u
            obtain rfl := Option.some.inj q_w
            have hp := hp.perm [1, 0] (by decide)
            exact ⟨(x_0.Neg, x_1l, g_1j, (.slice A_1r m_1s m_1t), e_1o), (.c rfl (.c rfl (.c rfl .n))), rfl, hp, r_2, a_a, r_5, a_e, o_1q, tb⟩
          refine ⟨?_, trivial⟩
          refine ev_alloc hp rfl T24 ?_
          intro g_1v w_1w hp hs
          replace hz := hz.trans hs
          replace a_a := a_a.step hs
          replace r_2 := r_2.step hs
          replace a_e := a_e.step hs
          replace r_5 := r_5.step hs
          replace o_10 := o_10.step hs
          replace tb := tb.step hs
          refine ⟨SK (Stp I_c w_1w I_c) [] [], ⟨Stp.refl _ _, kp_nil⟩, fun L x h => ⟨hz.held h.1, h.2⟩, ?_⟩
          have hz := Stp.refl I_c w_1w
          refine ⟨?_, trivial⟩
          obtain ⟨x_1x, q_1y, q_w⟩ := bind_some q_w
          refine ev_append hp (i := 1) rfl rfl rfl rfl Tryz.underlying22 T45 rfl rfl o_10 r_2 q_1y ?_
          rintro v_1z e_20 w_21 hp hs o_22
          replace hz := hz.trans hs
          replace a_a := a_a.step hs
          replace r_2 := r_2.step hs
          replace a_e := a_e.step hs
          replace r_5 := r_5.step hs
          replace tb := tb.step hs
          refine ⟨SK (Stp I_c w_21 I_c) [] [], ⟨Stp.refl _ _, kp_nil⟩, fun L x h => ⟨hz.held h.1, h.2⟩, ?_⟩
          have hz := Stp.refl I_c w_21
          refine ⟨?_, trivial⟩
          obtain ⟨x_23, q_24, q_w⟩ := bind_some q_w
          refine ev_appendZ (d := (dI .u32)) (x0 := 0) hp (i := 1) rfl rfl rfl rfl Tryz.underlying22 Tryz.underlying3 T45 rfl rfl o_22 (fun _ _ => rfl) (fun u hu => by cases hu with | head => rfl | tail _ h => cases h) q_24 ?_
          rintro v_25 e_26 w_27 hp hs o_28
          replace hz := hz.trans hs
          replace a_a := a_a.step hs
          replace r_2 := r_2.step hs
          replace a_e := a_e.step hs
          replace r_5 := r_5.step hs
          replace tb := tb.step hs
          refine ⟨SK (Stp I_c w_27 I_c) [] [], ⟨Stp.refl _ _, kp_nil⟩, fun L x h => ⟨hz.held h.1, h.2⟩, ?_⟩
          have hz := Stp.refl I_c w_27
          refine ⟨SK.same (by kernel_rfl), ?_⟩
          obtain ⟨A_29, m_2a, m_2b, rfl⟩ := o_28.isSl
          refine evh0 (fun w => rn_build (cs := [(.bool x_0.Neg), (.slice A_29 m_2a m_2b)]) rfl rfl T24 PL24 rfl) ?_
          refine ⟨?_, trivial⟩
          refine ev_storeA hp (i := 0) (off := 0) (vs := [(.bool x_0.Neg), (.slice A_29 m_2a m_2b)]) rfl rfl rfl rfl T24 rfl (Nat.le_of_ble_eq_true rfl) (ones_cons rfl (ones_cons o_28.one ones_nil)) ?_
          intro w_2c hp hs
          replace hz := hz.trans hs
          replace a_a := a_a.step hs
          replace r_2 := r_2.step hs
          replace a_e := a_e.step hs
          replace r_5 := r_5.step hs
          replace o_28 := o_28.step hs
          replace tb := tb.step hs
          refine ⟨SK (Stp I_c w_2c I_c) [] [], ⟨Stp.refl _ _, kp_nil⟩, fun L x h => ⟨hz.held h.1, h.2⟩, ?_⟩
          have hz := Stp.refl I_c w_2c
          obtain rfl := Option.some.inj q_w
          have hp := hp.perm [1, 0] (by decide)
          exact ⟨(x_0.Neg, x_23, g_1v, (.slice A_29 m_2a m_2b), e_26), (.c rfl (.c rfl (.c rfl .n))), rfl, hp, r_2, a_a, r_5, a_e, o_28, tb⟩
        refine ⟨?_, trivial⟩
        refine ev_alloc hp rfl T24 ?_
        intro g_2d w_2e hp hs
        replace hz := hz.trans hs
        replace a_a := a_a.step hs
        replace r_2 := r_2.step hs
        replace a_e := a_e.step hs
        replace r_5 := r_5.step hs
        replace tb := tb.step hs
        refine ⟨SK (Stp I_c w_2e I_c) [] [], ⟨Stp.refl _ _, kp_nil⟩, fun L x h => ⟨hz.held h.1, h.2⟩, ?_⟩
        have hz := Stp.refl I_c w_2e
        refine ⟨?_, trivial⟩
        refine ev_litON (d := (dI .u32)) (xs := ([] : List Int)) (cs := []) hp rfl rfl Tryz.underlying22 T45 (by decide) (by decide) rfl rfl (Elems.nil _ _ _ _) ?_
        intro v_2f e_2g w_2h hp hs o_2i
        replace hz := hz.trans hs
        replace a_a := a_a.step hs
        replace r_2 := r_2.step hs
        replace a_e := a_e.step hs
        replace r_5 := r_5.step hs
        replace tb := tb.step hs
        refine ⟨SK (Stp I_c w_2h I_c) [] [], ⟨Stp.refl _ _, kp_nil⟩, fun L x h => ⟨hz.held h.1, h.2⟩, ?_⟩
        have hz := Stp.refl I_c w_2h
        refine ⟨?_, trivial⟩
        obtain ⟨x_2j, q_2k, q_w⟩ := bind_some q_w
        refine ev_append hp (i := 0) rfl rfl rfl rfl Tryz.underlying22 T45 rfl rfl o_2i r_2 q_2k ?_
        rintro v_2l e_2m w_2n hp hs o_2o
        replace hz := hz.trans hs
        replace a_a := a_a.step hs
        replace r_2 := r_2.step hs
        replace a_e := a_e.step hs
        replace r_5 := r_5.step hs
        replace tb := tb.step hs
        refine ⟨SK (Stp I_c w_2n I_c) [] [], ⟨Stp.refl _ _, kp_nil⟩, fun L x h => ⟨hz.held h.1, h.2⟩, ?_⟩
        have hz := Stp.refl I_c w_2n
        refine ⟨?_, trivial⟩
        obtain ⟨x_2p, q_2q, q_w⟩ := bind_some q_w
        refine ev_appendZ (d := (dI .u32)) (x0 := 0) hp (i := 0) rfl rfl rfl rfl Tryz.underlying22 Tryz.underlying3 T45 rfl rfl o_2o (fun _ _ => rfl) (fun u hu => by cases hu with | head => rfl | tail _ h => cases h) q_2q ?_
        rintro v_2r e_2s w_2t hp hs o_2u
        replace hz := hz.trans hs
        replace a_a := a_a.step hs
        replace r_2 := r_2.step hs
        replace a_e := a_e.step hs
        replace r_5 := r_5.step hs
        replace tb := tb.step hs
        refine ⟨SK (Stp I_c w_2t I_c) [] [], ⟨Stp.refl _ _, kp_nil⟩, fun L x h => ⟨hz.held h.1, h.2⟩, ?_⟩
        have hz := Stp.refl I_c w_2t
        refine ⟨SK.same (by kernel_rfl), ?_⟩
        obtain ⟨A_2v, m_2w, m_2x, rfl⟩ := o_2u.isSl
        refine evh0 (fun w => rn_build (cs := [(.bool x_0.Neg), (.slice A_2v m_2w m_2x)]) rfl rfl T24 PL24 rfl) ?_
        refine ⟨?_, trivial⟩
        refine ev_storeA hp (i := 1) (off := 0) (vs := [(.bool x_0.Neg), (.slice A_2v m_2w m_2x)]) rfl rfl rfl rfl T24 rfl (Nat.le_of_ble_eq_true rfl) (ones_cons rfl (ones_cons o_2u.one ones_nil)) ?_
        intro w_2y hp hs
        replace hz := hz.trans hs
        replace a_a := a_a.step hs
        replace r_2 := r_2.step hs
        replace a_e := a_e.step hs
        replace r_5 := r_5.step hs
        replace o_2u := o_2u.step hs
        replace tb := tb.step hs
        refine ⟨SK (Stp I_c w_2y I_c) [] [], ⟨Stp.refl _ _, kp_nil⟩, fun L x h => ⟨hz.held h.1, h.2⟩, ?_⟩
        have hz := Stp.refl I_c w_2y
        obtain rfl := Option.some.inj q_w
        exact ⟨(x_0.Neg, x_2p, g_2d, (.slice A_2v m_2w m_2x), e_2s), (.c rfl (.c rfl (.c rfl .n))), rfl, hp, r_2, a_a, r_5, a_e, o_2u, tb⟩
      ·
        rintro ⟨x_2z, x_30, g_31, v_32, e_33⟩ w_34 ⟨hy, hp, r_2, a_a, r_5, a_e, o_35, tb⟩
        replace hy := hy.symm
        subst hy
        apply go
        apply go
        refine ev_litON (d := (dI .u32)) (xs := ([] : List Int)) (cs := []) hp rfl rfl Tryz.underlying22 T45 (by decide) (by decide) rfl rfl (Elems.nil _ _ _ _) ?_
        intro v_36 e_37 w_38 hp hs o_39
        replace a_a := a_a.step hs
        replace r_2 := r_2.step hs
        replace a_e := a_e.step hs
        replace r_5 := r_5.step hs
        replace o_35 := o_35.step hs
        replace tb := tb.step hs
        refine ev0 (rn_field rfl rfl FO24_1) ?_
        refine ev (rn_load rfl rfl (run_loadVar1 T22 (hp.cell (i := 2) (off := 1) rfl rfl))) ?_
        have r_3a := o_35.frz hp (i := 1) rfl
        obtain ⟨hp, hs⟩ := freeze_hp hp (i := 1) rfl
        replace a_a := a_a.step hs
        replace r_2 := r_2.step hs
        replace a_e := a_e.step hs
        replace r_5 := r_5.step hs
        replace o_39 := o_39.step hs
        replace tb := tb.step hs
        have hp := hp.sel [0, 2] (by decide)
        obtain ⟨x_3b, q_3c, h⟩ := bind_some h
        refine ev_append hp (i := 0) rfl rfl rfl rfl Tryz.underlying22 T45 rfl rfl o_39 r_3a q_3c ?_
        rintro v_3d e_3e w_3f hp hs o_3g
        replace a_a := a_a.step hs
        replace r_2 := r_2.step hs
        replace a_e := a_e.step hs
        replace r_5 := r_5.step hs
        replace r_3a := r_3a.step hs
        replace tb := tb.step hs
        apply go
        apply go
        refine ev (rn_load rfl rfl (run_loadVarA T24 rfl a_e)) ?_
        refine ev (rn_load rfl rfl (run_loadVarA T24 rfl (hp.at_ (i := 1) rfl))) ?_
        obtain ⟨⟨x_3h, x_3i, x_3j⟩, q_3k, h⟩ := bind_some h
        refine ev_call rfl rfl C24 (((integer_DivMod_ok n) _ _  (Int_2.mk x_3.Neg x_3.Mag) v_4 r_5 (Int_2.mk x_2z x_30) v_32 r_3a hp.imm _ q_3k).mono ?_)
        rintro _ w_3l ⟨I_3m, v_3n, v_3o, hv, hq, r_3p, r_3q⟩
        replace hv := hv.symm
        subst hv
        have hs := hq.st
        have hp := hp.join0 hq
        replace a_a := a_a.step hs
        replace r_2 := r_2.step hs
        replace a_e := a_e.step hs
        replace r_5 := r_5.step hs
        replace o_3g := o_3g.step hs
        replace r_3a := r_3a.step hs
        replace tb := tb.step hs
        refine ev_alloc hp rfl T24 ?_
        intro g_3r w_3s hp hs
        replace a_a := a_a.step hs
        replace r_2 := r_2.step hs
        replace a_e := a_e.step hs
        replace r_5 := r_5.step hs
        replace o_3g := o_3g.step hs
        replace r_3p := r_3p.step hs
        replace r_3q := r_3q.step hs
        replace r_3a := r_3a.step hs
        replace tb := tb.step hs
        refine ev_alloc hp rfl T24 ?_
        intro g_3t w_3u hp hs
        replace a_a := a_a.step hs
        replace r_2 := r_2.step hs
        replace a_e := a_e.step hs
        replace r_5 := r_5.step hs
        replace o_3g := o_3g.step hs
        replace r_3p := r_3p.step hs
        replace r_3q := r_3q.step hs
        replace r_3a := r_3a.step hs
        replace tb := tb.step hs
        refine ev_storeA hp (i := 1) (off := 0) (vs := [(.bool x_3h.Neg), v_3n]) rfl rfl rfl rfl T24 rfl (Nat.le_of_ble_eq_true rfl) (ones_cons rfl (ones_cons r_3p.one ones_nil)) ?_
        intro w_3v hp hs
        replace a_a := a_a.step hs
        replace r_2 := r_2.step hs
        replace a_e := a_e.step hs
        replace r_5 := r_5.step hs
        replace o_3g := o_3g.step hs
        replace r_3q := r_3q.step hs
        replace r_3p := r_3p.step hs
        replace r_3a := r_3a.step hs
        replace tb := tb.step hs
        refine ev_storeA hp (i := 0) (off := 0) (vs := [(.bool x_3i.Neg), v_3o]) rfl rfl rfl rfl T24 rfl (Nat.le_of_ble_eq_true rfl) (ones_cons rfl (ones_cons r_3q.one ones_nil)) ?_
        intro w_3w hp hs
        replace a_a := a_a.step hs
        replace r_2 := r_2.step hs
        replace a_e := a_e.step hs
        replace r_5 := r_5.step hs
        replace o_3g := o_3g.step hs
        replace r_3q := r_3q.step hs
        replace r_3p := r_3p.step hs
        replace r_3a := r_3a.step hs
        replace tb := tb.step hs
        apply go
        apply go
        refine ev (rn_load rfl rfl (run_loadVarA T24 rfl a_e)) ?_
        refine ev (rn_load rfl rfl (run_loadVarA T24 rfl a_a)) ?_
        obtain ⟨⟨x_3x, x_3y, x_3z⟩, q_40, h⟩ := bind_some h
        refine ev_call rfl rfl C24 (((integer_DivMod_ok n) _ _  (Int_2.mk x_3.Neg x_3.Mag) v_4 r_5 (Int_2.mk x_0.Neg x_0.Mag) v_1 r_2 hp.imm _ q_40).mono ?_)
        rintro _ w_41 ⟨I_42, v_43, v_44, hv, hq, r_45, r_46⟩
        replace hv := hv.symm
        subst hv
        have hs := hq.st
        have hp := hp.join0 hq
        replace a_a := a_a.step hs
        replace r_2 := r_2.step hs
        replace a_e := a_e.step hs
        replace r_5 := r_5.step hs
        replace o_3g := o_3g.step hs
        replace r_3q := r_3q.step hs
        replace r_3p := r_3p.step hs
        replace r_3a := r_3a.step hs
        replace tb := tb.step hs
        refine ev_alloc hp rfl T24 ?_
        intro g_47 w_48 hp hs
        replace a_a := a_a.step hs
        replace r_2 := r_2.step hs
        replace a_e := a_e.step hs
        replace r_5 := r_5.step hs
        replace o_3g := o_3g.step hs
        replace r_45 := r_45.step hs
        replace r_46 := r_46.step hs
        replace r_3q := r_3q.step hs
        replace r_3p := r_3p.step hs
        replace r_3a := r_3a.step hs
        replace tb := tb.step hs
        refine ev_alloc hp rfl T24 ?_
        intro g_49 w_4a hp hs
        replace a_a := a_a.step hs
        replace r_2 := r_2.step hs
        replace a_e := a_e.step hs
        replace r_5 := r_5.step hs
        replace o_3g := o_3g.step hs
        replace r_45 := r_45.step hs
        replace r_46 := r_46.step hs
        replace r_3q := r_3q.step hs
        replace r_3p := r_3p.step hs
        replace r_3a := r_3a.step hs
        replace tb := tb.step hs
        refine ev_storeA hp (i := 1) (off := 0) (vs := [(.bool x_3x.Neg), v_43]) rfl rfl rfl rfl T24 rfl (Nat.le_of_ble_eq_true rfl) (ones_cons rfl (ones_cons r_45.one ones_nil)) ?_
        intro w_4b hp hs
        replace a_a := a_a.step hs
        replace r_2 := r_2.step hs
        replace a_e := a_e.step hs
        replace r_5 := r_5.step hs
        replace o_3g := o_3g.step hs
        replace r_46 := r_46.step hs
        replace r_45 := r_45.step hs
        replace r_3q := r_3q.step hs
        replace r_3p := r_3p.step hs
        replace r_3a := r_3a.step hs
        replace tb := tb.step hs
        refine ev_storeA hp (i := 0) (off := 0) (vs := [(.bool x_3y.Neg), v_44]) rfl rfl rfl rfl T24 rfl (Nat.le_of_ble_eq_true rfl) (ones_cons rfl (ones_cons r_46.one ones_nil)) ?_
        intro w_4c hp hs
        replace a_a := a_a.step hs
        replace r_2 := r_2.step hs
        replace a_e := a_e.step hs
        replace r_5 := r_5.step hs
        replace o_3g := o_3g.step hs
        replace r_46 := r_46.step hs
        replace r_45 := r_45.step hs
        replace r_3q := r_3q.step hs
        replace r_3p := r_3p.step hs
        replace r_3a := r_3a.step hs
        replace tb := tb.step hs
        apply go
        obtain ⟨y_4d, q_4e, h⟩ := bind_some h
        refine W.cut (γ := (Bool × (Nat → Prop))) (fun g => [(7, (.pointer (some ⟨g_31, 0, none⟩))), (8, v_3d), (107, (.bool (g.1)))]) (fun g w' => y_4d = (g.1) ∧ Hp ⟨w0, I0, []⟩ (g.2) [some (g_31, [(.bool x_2z), v_32], 24), e_3e] w' ∧ RepS (dI .u32) w' (g.2) v_32 x_30 ∧ OwnS (dI .u32) 45 w' (g.2) v_3d e_3e x_3b ∧ Tb w' (g.2) 1 .u64 pow10) ?_ ?_
        ·
          have hs := hp.stp (Ch.drew [] w_4c)
          have hp := hp.drew
          replace a_a := a_a.step hs
          replace r_2 := r_2.step hs
          replace a_e := a_e.step hs
          replace r_5 := r_5.step hs
          replace o_3g := o_3g.step hs
          replace r_46 := r_46.step hs
          replace r_45 := r_45.step hs
          replace r_3q := r_3q.step hs
          replace r_3p := r_3p.step hs
          replace r_3a := r_3a.step hs
          replace tb := tb.step hs
          refine W.heldT [(0, true), (1, true), (2, true), (3, true), (4, true), (5, true), (6, false), (7, true), (8, true), (9, true), (10, true), (11, true), (12, false), (13, true), (14, true), (15, true), (16, true), (17, true), (19, true), (20, true), (18, false), (21, false), (22, false), (23, true), (24, true), (25, true), (26, true), (27, true), (29, true), (30, true), (28, false), (31, false), (32, false), (33, true), (34, true), (35, true), (36, true), (37, true), (38, false), (39, true), (40, true), (41, true), (42, true), (44, true), (43, false), (45, false), (46, true), (47, true)] (fun x => Stp I_42 w_4c.drew I_42 x ∧ OwnK [(g_3r, [(.bool x_3h.Neg), v_3n], 24), (g_47, [(.bool x_3x.Neg), v_43], 24), (g_3t, [(.bool x_3i.Neg), v_3o], 24), (g_49, [(.bool x_3y.Neg), v_44], 24), (g_31, [(.bool x_2z), v_32], 24)] x) MX (by kernel_rfl) ⟨Stp.refl _ _, (OwnK.cons (hp.own 3 _ _ _ rfl).1 (OwnK.cons (hp.own 1 _ _ _ rfl).1 (OwnK.cons (hp.own 2 _ _ _ rfl).1 (OwnK.cons (hp.own 0 _ _ _ rfl).1 (OwnK.cons (hp.own 5 _ _ _ rfl).1 OwnK.nil)))))⟩ ?_
          have hz := Stp.refl I_42 w_4c.drew
          intro ops hops
          have e0 : nthO ops 0 = some _ := (hops 0).trans rfl
          have e1 : nthO ops 1 = some _ := (hops 1).trans rfl
          have e2 : nthO ops 2 = some _ := (hops 2).trans rfl
          have e3 : nthO ops 3 = some _ := (hops 3).trans rfl
          have e4 : nthO ops 4 = some _ := (hops 4).trans rfl
          have e5 : nthO ops 5 = some _ := (hops 5).trans rfl
          have e6 : nthO ops 6 = some _ := (hops 6).trans rfl
          have e7 : nthO ops 7 = some _ := (hops 7).trans rfl
          have e8 : nthO ops 8 = some _ := (hops 8).trans rfl
          have e9 : nthO ops 9 = some _ := (hops 9).trans rfl
          have e10 : nthO ops 10 = some _ := (hops 10).trans rfl
          have e11 : nthO ops 11 = some _ := (hops 11).trans rfl
          have e12 : nthO ops 12 = some _ := (hops 12).trans rfl
          have e13 : nthO ops 13 = some _ := (hops 13).trans rfl
          have e14 : nthO ops 14 = some _ := (hops 14).trans rfl
          have e15 : nthO ops 15 = some _ := (hops 15).trans rfl
          have e16 : nthO ops 16 = some _ := (hops 16).trans rfl
          have e17 : nthO ops 17 = some _ := (hops 17).trans rfl
          have e18 : nthO ops 18 = some _ := (hops 18).trans rfl
          have e19 : nthO ops 19 = some _ := (hops 19).trans rfl
          have e20 : nthO ops 20 = some _ := (hops 20).trans rfl
          have e21 : nthO ops 21 = some _ := (hops 21).trans rfl
          have e22 : nthO ops 22 = some _ := (hops 22).trans rfl
          have e23 : nthO ops 23 = some _ := (hops 23).trans rfl
          have e24 : nthO ops 24 = some _ := (hops 24).trans rfl
          have e25 : nthO ops 25 = some _ := (hops 25).trans rfl
          have e26 : nthO ops 26 = some _ := (hops 26).trans rfl
          have e27 : nthO ops 27 = some _ := (hops 27).trans rfl
          have e28 : nthO ops 28 = some _ := (hops 28).trans rfl
          have e29 : nthO ops 29 = some _ := (hops 29).trans rfl
          have e30 : nthO ops 30 = some _ := (hops 30).trans rfl
          have e31 : nthO ops 31 = some _ := (hops 31).trans rfl
          have e32 : nthO ops 32 = some _ := (hops 32).trans rfl
          have e33 : nthO ops 33 = some _ := (hops 33).trans rfl
          have e34 : nthO ops 34 = some _ := (hops 34).trans rfl
          have e35 : nthO ops 35 = some _ := (hops 35).trans rfl
          have e36 : nthO ops 36 = some _ := (hops 36).trans rfl
          have e37 : nthO ops 37 = some _ := (hops 37).trans rfl
          have e38 : nthO ops 38 = some _ := (hops 38).trans rfl
          have e39 : nthO ops 39 = some _ := (hops 39).trans rfl
          have e40 : nthO ops 40 = some _ := (hops 40).trans rfl
          have e41 : nthO ops 41 = some _ := (hops 41).trans rfl
          have e42 : nthO ops 42 = some _ := (hops 42).trans rfl
          have e43 : nthO ops 43 = some _ := (hops 43).trans rfl
          have e44 : nthO ops 44 = some _ := (hops 44).trans rfl
          have e45 : nthO ops 45 = some _ := (hops 45).trans rfl
          have e46 : nthO ops 46 = some _ := (hops 46).trans rfl
          have e47 : nthO ops 47 = some _ := (hops 47).trans rfl
          clear hops
          refine vch_q e0 rfl ?_
          refine vch_q e1 rfl ?_
          refine vch_q e2 rfl ?_
          refine vch_q e3 rfl ?_
          rcases Bool.eq_false_or_eq_true (x_3j != x_3z) with hc | hc
          ·
            have q_4e := cond_t q_4e hc
            refine vch_qf e4 rfl e3 rfl rfl hc ?_
            refine vch_qf e5 rfl e3 rfl rfl rfl ?_
            refine vch_lf e6 rfl e3 rfl rfl rfl ?_
            refine ⟨fun x => Stp I_42 w_4c.drew I_42 x ∧ OwnK [(g_3r, [(.bool x_3h.Neg), v_3n], 24), (g_47, [(.bool x_3x.Neg), v_43], 24), (g_3t, [(.bool x_3i.Neg), v_3o], 24), (g_49, [(.bool x_3y.Neg), v_44], 24), (g_31, [(.bool x_2z), v_32], 24)] x, ⟨Stp.refl _ _, (OwnK.cons (hp.own 3 _ _ _ rfl).1 (OwnK.cons (hp.own 1 _ _ _ rfl).1 (OwnK.cons (hp.own 2 _ _ _ rfl).1 (OwnK.cons (hp.own 0 _ _ _ rfl).1 (OwnK.cons (hp.own 5 _ _ _ rfl).1 OwnK.nil)))))⟩, fun x hx => ⟨hz.held hx.1, hx.2⟩, ?_⟩
            have hz := Stp.refl I_42 w_4c.drew
            refine vch_qf e7 rfl e3 rfl rfl rfl ?_
            refine vch_q e8 rfl ?_
            refine vch_q e9 rfl ?_
            refine vch_qf e10 rfl e9 rfl rfl rfl ?_
            refine vch_qf e11 rfl e9 rfl rfl rfl ?_
            refine vch_lf e12 rfl e9 rfl rfl rfl ?_
            refine ⟨fun x => Stp I_42 w_4c.drew I_42 x ∧ OwnK [(g_3r, [(.bool x_3h.Neg), v_3n], 24), (g_47, [(.bool x_3x.Neg), v_43], 24), (g_3t, [(.bool x_3i.Neg), v_3o], 24), (g_49, [(.bool x_3y.Neg), v_44], 24), (g_31, [(.bool x_2z), v_32], 24)] x, ⟨Stp.refl _ _, (OwnK.cons (hp.own 3 _ _ _ rfl).1 (OwnK.cons (hp.own 1 _ _ _ rfl).1 (OwnK.cons (hp.own 2 _ _ _ rfl).1 (OwnK.cons (hp.own 0 _ _ _ rfl).1 (OwnK.cons (hp.own 5 _ _ _ rfl).1 OwnK.nil)))))⟩, fun x hx => ⟨hz.held hx.1, hx.2⟩, ?_⟩
            have hz := Stp.refl I_42 w_4c.drew
            refine vch_qf e13 rfl e9 rfl rfl rfl ?_
            refine vch_q e14 rfl ?_
            refine vch_q e15 rfl ?_
            refine vch_qf e16 rfl e15 rfl rfl rfl ?_
            refine vch_qf e17 rfl e15 rfl rfl rfl ?_
            refine vch_qf e19 rfl e15 rfl rfl rfl ?_
            refine vch_qf e20 rfl e15 rfl rfl rfl ?_
            refine vch_lf e18 rfl e15 rfl rfl rfl ?_
            refine ⟨fun x => Stp I_42 w_4c.drew I_42 x ∧ OwnK [(g_3r, [(.bool x_3h.Neg), v_3n], 24), (g_47, [(.bool x_3x.Neg), v_43], 24), (g_3t, [(.bool x_3i.Neg), v_3o], 24), (g_49, [(.bool x_3y.Neg), v_44], 24), (g_31, [(.bool x_2z), v_32], 24)] x, ⟨Stp.refl _ _, (OwnK.cons (hp.own 3 _ _ _ rfl).1 (OwnK.cons (hp.own 1 _ _ _ rfl).1 (OwnK.cons (hp.own 2 _ _ _ rfl).1 (OwnK.cons (hp.own 0 _ _ _ rfl).1 (OwnK.cons (hp.own 5 _ _ _ rfl).1 OwnK.nil)))))⟩, fun x hx => ⟨hz.held hx.1, hx.2⟩, ?_⟩
            have hz := Stp.refl I_42 w_4c.drew
            refine vch_lf e21 rfl e15 rfl rfl rfl ?_
            refine ⟨fun x => Stp I_42 w_4c.drew I_42 x ∧ OwnK [(g_3r, [(.bool x_3h.Neg), v_3n], 24), (g_47, [(.bool x_3x.Neg), v_43], 24), (g_3t, [(.bool x_3i.Neg), v_3o], 24), (g_49, [(.bool x_3y.Neg), v_44], 24), (g_31, [(.bool x_2z), v_32], 24)] x, ⟨Stp.refl _ _, (OwnK.cons (hp.own 3 _ _ _ rfl).1 (OwnK.cons (hp.own 1 _ _ _ rfl).1 (OwnK.cons (hp.own 2 _ _ _ rfl).1 (OwnK.cons (hp.own 0 _ _ _ rfl).1 (OwnK.cons (hp.own 5 _ _ _ rfl).1 OwnK.nil)))))⟩, fun x hx => ⟨hz.held hx.1, hx.2⟩, ?_⟩
            have hz := Stp.refl I_42 w_4c.drew
            refine vch_lf e22 rfl e15 rfl rfl rfl ?_
            refine ⟨fun x => Stp I_42 w_4c.drew I_42 x ∧ OwnK [(g_3r, [(.bool x_3h.Neg), v_3n], 24), (g_47, [(.bool x_3x.Neg), v_43], 24), (g_3t, [(.bool x_3i.Neg), v_3o], 24), (g_49, [(.bool x_3y.Neg), v_44], 24), (g_31, [(.bool x_2z), v_32], 24)] x, ⟨Stp.refl _ _, (OwnK.cons (hp.own 3 _ _ _ rfl).1 (OwnK.cons (hp.own 1 _ _ _ rfl).1 (OwnK.cons (hp.own 2 _ _ _ rfl).1 (OwnK.cons (hp.own 0 _ _ _ rfl).1 (OwnK.cons (hp.own 5 _ _ _ rfl).1 OwnK.nil)))))⟩, fun x hx => ⟨hz.held hx.1, hx.2⟩, ?_⟩
            have hz := Stp.refl I_42 w_4c.drew
            refine vch_qf e23 rfl e15 rfl rfl rfl ?_
            refine vch_q e24 rfl ?_
            refine vch_q e25 rfl ?_
            refine vch_qf e26 rfl e25 rfl rfl rfl ?_
            refine vch_qf e27 rfl e25 rfl rfl rfl ?_
            refine vch_qf e29 rfl e25 rfl rfl rfl ?_
            refine vch_qf e30 rfl e25 rfl rfl rfl ?_
            refine vch_lf e28 rfl e25 rfl rfl rfl ?_
            refine ⟨fun x => Stp I_42 w_4c.drew I_42 x ∧ OwnK [(g_3r, [(.bool x_3h.Neg), v_3n], 24), (g_47, [(.bool x_3x.Neg), v_43], 24), (g_3t, [(.bool x_3i.Neg), v_3o], 24), (g_49, [(.bool x_3y.Neg), v_44], 24), (g_31, [(.bool x_2z), v_32], 24)] x, ⟨Stp.refl _ _, (OwnK.cons (hp.own 3 _ _ _ rfl).1 (OwnK.cons (hp.own 1 _ _ _ rfl).1 (OwnK.cons (hp.own 2 _ _ _ rfl).1 (OwnK.cons (hp.own 0 _ _ _ rfl).1 (OwnK.cons (hp.own 5 _ _ _ rfl).1 OwnK.nil)))))⟩, fun x hx => ⟨hz.held hx.1, hx.2⟩, ?_⟩
            have hz := Stp.refl I_42 w_4c.drew
            refine vch_lf e31 rfl e25 rfl rfl rfl ?_
            refine ⟨fun x => Stp I_42 w_4c.drew I_42 x ∧ OwnK [(g_3r, [(.bool x_3h.Neg), v_3n], 24), (g_47, [(.bool x_3x.Neg), v_43], 24), (g_3t, [(.bool x_3i.Neg), v_3o], 24), (g_49, [(.bool x_3y.Neg), v_44], 24), (g_31, [(.bool x_2z), v_32], 24)] x, ⟨Stp.refl _ _, (OwnK.cons (hp.own 3 _ _ _ rfl).1 (OwnK.cons (hp.own 1 _ _ _ rfl).1 (OwnK.cons (hp.own 2 _ _ _ rfl).1 (OwnK.cons (hp.own 0 _ _ _ rfl).1 (OwnK.cons (hp.own 5 _ _ _ rfl).1 OwnK.nil)))))⟩, fun x hx => ⟨hz.held hx.1, hx.2⟩, ?_⟩
            have hz := Stp.refl I_42 w_4c.drew
            refine vch_lf e32 rfl e25 rfl rfl rfl ?_
            refine ⟨fun x => Stp I_42 w_4c.drew I_42 x ∧ OwnK [(g_3r, [(.bool x_3h.Neg), v_3n], 24), (g_47, [(.bool x_3x.Neg), v_43], 24), (g_3t, [(.bool x_3i.Neg), v_3o], 24), (g_49, [(.bool x_3y.Neg), v_44], 24), (g_31, [(.bool x_2z), v_32], 24)] x, ⟨Stp.refl _ _, (OwnK.cons (hp.own 3 _ _ _ rfl).1 (OwnK.cons (hp.own 1 _ _ _ rfl).1 (OwnK.cons (hp.own 2 _ _ _ rfl).1 (OwnK.cons (hp.own 0 _ _ _ rfl).1 (OwnK.cons (hp.own 5 _ _ _ rfl).1 OwnK.nil)))))⟩, fun x hx => ⟨hz.held hx.1, hx.2⟩, ?_⟩
            have hz := Stp.refl I_42 w_4c.drew
            refine vch_qf e33 rfl e25 rfl rfl rfl ?_
            refine vch_q e34 rfl ?_
            refine vch_q e35 rfl ?_
            refine vch_qf e36 rfl e35 rfl rfl rfl ?_
            refine vch_qf e37 rfl e35 rfl rfl rfl ?_
            refine vch_lf e38 rfl e35 rfl rfl rfl ?_
            refine ⟨fun x => Stp I_42 w_4c.drew I_42 x ∧ OwnK [(g_3r, [(.bool x_3h.Neg), v_3n], 24), (g_47, [(.bool x_3x.Neg), v_43], 24), (g_3t, [(.bool x_3i.Neg), v_3o], 24), (g_49, [(.bool x_3y.Neg), v_44], 24), (g_31, [(.bool x_2z), v_32], 24)] x, ⟨Stp.refl _ _, (OwnK.cons (hp.own 3 _ _ _ rfl).1 (OwnK.cons (hp.own 1 _ _ _ rfl).1 (OwnK.cons (hp.own 2 _ _ _ rfl).1 (OwnK.cons (hp.own 0 _ _ _ rfl).1 (OwnK.cons (hp.own 5 _ _ _ rfl).1 OwnK.nil)))))⟩, fun x hx => ⟨hz.held hx.1, hx.2⟩, ?_⟩
            have hz := Stp.refl I_42 w_4c.drew
            refine vch_qf e39 rfl e35 rfl rfl rfl ?_
            refine vch_q e40 rfl ?_
            refine vch_q e41 rfl ?_
            refine vch_qf e42 rfl e41 rfl rfl rfl ?_
            refine vch_qf e44 rfl e41 rfl rfl rfl ?_
            refine vch_lf e43 rfl e41 rfl rfl rfl ?_
            refine ⟨fun x => Stp I_42 w_4c.drew I_42 x ∧ OwnK [(g_3r, [(.bool x_3h.Neg), v_3n], 24), (g_47, [(.bool x_3x.Neg), v_43], 24), (g_3t, [(.bool x_3i.Neg), v_3o], 24), (g_49, [(.bool x_3y.Neg), v_44], 24), (g_31, [(.bool x_2z), v_32], 24)] x, ⟨Stp.refl _ _, (OwnK.cons (hp.own 3 _ _ _ rfl).1 (OwnK.cons (hp.own 1 _ _ _ rfl).1 (OwnK.cons (hp.own 2 _ _ _ rfl).1 (OwnK.cons (hp.own 0 _ _ _ rfl).1 (OwnK.cons (hp.own 5 _ _ _ rfl).1 OwnK.nil)))))⟩, fun x hx => ⟨hz.held hx.1, hx.2⟩, ?_⟩
            have hz := Stp.refl I_42 w_4c.drew
            refine vch_lf e45 rfl e41 rfl rfl rfl ?_
            refine ⟨fun x => Stp I_42 w_4c.drew I_42 x ∧ OwnK [(g_3r, [(.bool x_3h.Neg), v_3n], 24), (g_47, [(.bool x_3x.Neg), v_43], 24), (g_3t, [(.bool x_3i.Neg), v_3o], 24), (g_49, [(.bool x_3y.Neg), v_44], 24), (g_31, [(.bool x_2z), v_32], 24)] x, ⟨Stp.refl _ _, (OwnK.cons (hp.own 3 _ _ _ rfl).1 (OwnK.cons (hp.own 1 _ _ _ rfl).1 (OwnK.cons (hp.own 2 _ _ _ rfl).1 (OwnK.cons (hp.own 0 _ _ _ rfl).1 (OwnK.cons (hp.own 5 _ _ _ rfl).1 OwnK.nil)))))⟩, fun x hx => ⟨hz.held hx.1, hx.2⟩, ?_⟩
            have hz := Stp.refl I_42 w_4c.drew
            refine vch_qf e46 rfl e41 rfl rfl rfl ?_
            refine vch_q e47 rfl ?_
            refine vch_end ?_
            obtain rfl := Option.some.inj q_4e
            have hp := hp.perm [5, 4] (by decide)
            exact ⟨(true, I_42), (.c rfl (.c rfl (.c rfl .n))), rfl, hp, r_3a, o_3g, tb⟩
          ·
            have q_4e := cond_f q_4e hc
            refine vch_qt e4 rfl e3 rfl rfl hc ?_
            refine evh (fun w' hw => rn_load rfl rfl (run_loadVarA T24 rfl (hw.2.at_ (i := 0) rfl))) ?_
            refine vch_qt e5 rfl e3 rfl rfl rfl ?_
            refine evh (fun w' hw => rn_load rfl rfl (run_loadVarA T24 rfl (hw.2.at_ (i := 1) rfl))) ?_
            refine vch_lt e6 rfl e3 rfl rfl rfl ?_
            obtain ⟨x_4f, q_4g, q_4e⟩ := bind_some q_4e
            refine ev_call rfl rfl C21 (((ref01_Same_ok n) _ _  (Int_2.mk x_3h.Neg x_3h.Mag) v_3n r_3p (Int_2.mk x_3x.Neg x_3x.Mag) v_43 r_45 hp.imm _ q_4g).mono ?_)
            rintro _ w_4h ⟨rfl, hc⟩
            have hs := hp.stp hc
            replace hp := hp.ext hc
            replace hz := hz.trans hs
            replace a_a := a_a.step hs
            replace r_2 := r_2.step hs
            replace a_e := a_e.step hs
            replace r_5 := r_5.step hs
            replace o_3g := o_3g.step hs
            replace r_46 := r_46.step hs
            replace r_45 := r_45.step hs
            replace r_3q := r_3q.step hs
            replace r_3p := r_3p.step hs
            replace r_3a := r_3a.step hs
            replace tb := tb.step hs
            refine ⟨fun x => Stp I_42 w_4h I_42 x ∧ OwnK [(g_3r, [(.bool x_3h.Neg), v_3n], 24), (g_47, [(.bool x_3x.Neg), v_43], 24), (g_3t, [(.bool x_3i.Neg), v_3o], 24), (g_49, [(.bool x_3y.Neg), v_44], 24), (g_31, [(.bool x_2z), v_32], 24)] x, ⟨Stp.refl _ _, (OwnK.cons (hp.own 3 _ _ _ rfl).1 (OwnK.cons (hp.own 1 _ _ _ rfl).1 (OwnK.cons (hp.own 2 _ _ _ rfl).1 (OwnK.cons (hp.own 0 _ _ _ rfl).1 (OwnK.cons (hp.own 5 _ _ _ rfl).1 OwnK.nil)))))⟩, fun x hx => ⟨hz.held hx.1, hx.2⟩, ?_⟩
            have hz := Stp.refl I_42 w_4h
            refine vch_qt e7 rfl e3 rfl rfl rfl ?_
            refine vch_q e8 rfl ?_
            refine vch_q e9 rfl ?_
            rcases Bool.eq_false_or_eq_true (!x_4f) with hc | hc
            ·
              have q_4e := cond_t q_4e hc
              refine vch_qf e10 rfl e9 rfl rfl hc ?_
              refine vch_qf e11 rfl e9 rfl rfl rfl ?_
              refine vch_lf e12 rfl e9 rfl rfl rfl ?_
              refine ⟨fun x => Stp I_42 w_4h I_42 x ∧ OwnK [(g_3r, [(.bool x_3h.Neg), v_3n], 24), (g_47, [(.bool x_3x.Neg), v_43], 24), (g_3t, [(.bool x_3i.Neg), v_3o], 24), (g_49, [(.bool x_3y.Neg), v_44], 24), (g_31, [(.bool x_2z), v_32], 24)] x, ⟨Stp.refl _ _, (OwnK.cons (hp.own 3 _ _ _ rfl).1 (OwnK.cons (hp.own 1 _ _ _ rfl).1 (OwnK.cons (hp.own 2 _ _ _ rfl).1 (OwnK.cons (hp.own 0 _ _ _ rfl).1 (OwnK.cons (hp.own 5 _ _ _ rfl).1 OwnK.nil)))))⟩, fun x hx => ⟨hz.held hx.1, hx.2⟩, ?_⟩
              have hz := Stp.refl I_42 w_4h
              refine vch_qf e13 rfl e9 rfl rfl rfl ?_
              refine vch_q e14 rfl ?_
              refine vch_q e15 rfl ?_
              refine vch_qf e16 rfl e15 rfl rfl rfl ?_
              refine vch_qf e17 rfl e15 rfl rfl rfl ?_
              refine vch_qf e19 rfl e15 rfl rfl rfl ?_
              refine vch_qf e20 rfl e15 rfl rfl rfl ?_
              refine vch_lf e18 rfl e15 rfl rfl rfl ?_
              refine ⟨fun x => Stp I_42 w_4h I_42 x ∧ OwnK [(g_3r, [(.bool x_3h.Neg), v_3n], 24), (g_47, [(.bool x_3x.Neg), v_43], 24), (g_3t, [(.bool x_3i.Neg), v_3o], 24), (g_49, [(.bool x_3y.Neg), v_44], 24), (g_31, [(.bool x_2z), v_32], 24)] x, ⟨Stp.refl _ _, (OwnK.cons (hp.own 3 _ _ _ rfl).1 (OwnK.cons (hp.own 1 _ _ _ rfl).1 (OwnK.cons (hp.own 2 _ _ _ rfl).1 (OwnK.cons (hp.own 0 _ _ _ rfl).1 (OwnK.cons (hp.own 5 _ _ _ rfl).1 OwnK.nil)))))⟩, fun x hx => ⟨hz.held hx.1, hx.2⟩, ?_⟩
              have hz := Stp.refl I_42 w_4h
              refine vch_lf e21 rfl e15 rfl rfl rfl ?_
              refine ⟨fun x => Stp I_42 w_4h I_42 x ∧ OwnK [(g_3r, [(.bool x_3h.Neg), v_3n], 24), (g_47, [(.bool x_3x.Neg), v_43], 24), (g_3t, [(.bool x_3i.Neg), v_3o], 24), (g_49, [(.bool x_3y.Neg), v_44], 24), (g_31, [(.bool x_2z), v_32], 24)] x, ⟨Stp.refl _ _, (OwnK.cons (hp.own 3 _ _ _ rfl).1 (OwnK.cons (hp.own 1 _ _ _ rfl).1 (OwnK.cons (hp.own 2 _ _ _ rfl).1 (OwnK.cons (hp.own 0 _ _ _ rfl).1 (OwnK.cons (hp.own 5 _ _ _ rfl).1 OwnK.nil)))))⟩, fun x hx => ⟨hz.held hx.1, hx.2⟩, ?_⟩
              have hz := Stp.refl I_42 w_4h
              refine vch_lf e22 rfl e15 rfl rfl rfl ?_
              refine ⟨fun x => Stp I_42 w_4h I_42 x ∧ OwnK [(g_3r, [(.bool x_3h.Neg), v_3n], 24), (g_47, [(.bool x_3x.Neg), v_43], 24), (g_3t, [(.bool x_3i.Neg), v_3o], 24), (g_49, [(.bool x_3y.Neg), v_44], 24), (g_31, [(.bool x_2z), v_32], 24)] x, ⟨Stp.refl _ _, (OwnK.cons (hp.own 3 _ _ _ rfl).1 (OwnK.cons (hp.own 1 _ _ _ rfl).1 (OwnK.cons (hp.own 2 _ _ _ rfl).1 (OwnK.cons (hp.own 0 _ _ _ rfl).1 (OwnK.cons (hp.own 5 _ _ _ rfl).1 OwnK.nil)))))⟩, fun x hx => ⟨hz.held hx.1, hx.2⟩, ?_⟩
              have hz := Stp.refl I_42 w_4h
              refine vch_qf e23 rfl e15 rfl rfl rfl ?_
              refine vch_q e24 rfl ?_
              refine vch_q e25 rfl ?_
              refine vch_qf e26 rfl e25 rfl rfl rfl ?_
              refine vch_qf e27 rfl e25 rfl rfl rfl ?_
              refine vch_qf e29 rfl e25 rfl rfl rfl ?_
              refine vch_qf e30 rfl e25 rfl rfl rfl ?_
              refine vch_lf e28 rfl e25 rfl rfl rfl ?_
              refine ⟨fun x => Stp I_42 w_4h I_42 x ∧ OwnK [(g_3r, [(.bool x_3h.Neg), v_3n], 24), (g_47, [(.bool x_3x.Neg), v_43], 24), (g_3t, [(.bool x_3i.Neg), v_3o], 24), (g_49, [(.bool x_3y.Neg), v_44], 24), (g_31, [(.bool x_2z), v_32], 24)] x, ⟨Stp.refl _ _, (OwnK.cons (hp.own 3 _ _ _ rfl).1 (OwnK.cons (hp.own 1 _ _ _ rfl).1 (OwnK.cons (hp.own 2 _ _ _ rfl).1 (OwnK.cons (hp.own 0 _ _ _ rfl).1 (OwnK.cons (hp.own 5 _ _ _ rfl).1 OwnK.nil)))))⟩, fun x hx => ⟨hz.held hx.1, hx.2⟩, ?_⟩
              have hz := Stp.refl I_42 w_4h
              refine vch_lf e31 rfl e25 rfl rfl rfl ?_
              refine ⟨fun x => Stp I_42 w_4h I_42 x ∧ OwnK [(g_3r, [(.bool x_3h.Neg), v_3n], 24), (g_47, [(.bool x_3x.Neg), v_43], 24), (g_3t, [(.bool x_3i.Neg), v_3o], 24), (g_49, [(.bool x_3y.Neg), v_44], 24), (g_31, [(.bool x_2z), v_32], 24)] x, ⟨Stp.refl _ _, (OwnK.cons (hp.own 3 _ _ _ rfl).1 (OwnK.cons (hp.own 1 _ _ _ rfl).1 (OwnK.cons (hp.own 2 _ _ _ rfl).1 (OwnK.cons (hp.own 0 _ _ _ rfl).1 (OwnK.cons (hp.own 5 _ _ _ rfl).1 OwnK.nil)))))⟩, fun x hx => ⟨hz.held hx.1, hx.2⟩, ?_⟩
              have hz := Stp.refl I_42 w_4h
              refine vch_lf e32 rfl e25 rfl rfl rfl ?_
              refine ⟨fun x => Stp I_42 w_4h I_42 x ∧ OwnK [(g_3r, [(.bool x_3h.Neg), v_3n], 24), (g_47, [(.bool x_3x.Neg), v_43], 24), (g_3t, [(.bool x_3i.Neg), v_3o], 24), (g_49, [(.bool x_3y.Neg), v_44], 24), (g_31, [(.bool x_2z), v_32], 24)] x, ⟨Stp.refl _ _, (OwnK.cons (hp.own 3 _ _ _ rfl).1 (OwnK.cons (hp.own 1 _ _ _ rfl).1 (OwnK.cons (hp.own 2 _ _ _ rfl).1 (OwnK.cons (hp.own 0 _ _ _ rfl).1 (OwnK.cons (hp.own 5 _ _ _ rfl).1 OwnK.nil)))))⟩, fun x hx => ⟨hz.held hx.1, hx.2⟩, ?_⟩
              have hz := Stp.refl I_42 w_4h
              refine vch_qf e33 rfl e25 rfl rfl rfl ?_
              refine vch_q e34 rfl ?_
              refine vch_q e35 rfl ?_
              refine vch_qf e36 rfl e35 rfl rfl rfl ?_
              refine vch_qf e37 rfl e35 rfl rfl rfl ?_
              refine vch_lf e38 rfl e35 rfl rfl rfl ?_
              refine ⟨fun x => Stp I_42 w_4h I_42 x ∧ OwnK [(g_3r, [(.bool x_3h.Neg), v_3n], 24), (g_47, [(.bool x_3x.Neg), v_43], 24), (g_3t, [(.bool x_3i.Neg), v_3o], 24), (g_49, [(.bool x_3y.Neg), v_44], 24), (g_31, [(.bool x_2z), v_32], 24)] x, ⟨Stp.refl _ _, (OwnK.cons (hp.own 3 _ _ _ rfl).1 (OwnK.cons (hp.own 1 _ _ _ rfl).1 (OwnK.cons (hp.own 2 _ _ _ rfl).1 (OwnK.cons (hp.own 0 _ _ _ rfl).1 (OwnK.cons (hp.own 5 _ _ _ rfl).1 OwnK.nil)))))⟩, fun x hx => ⟨hz.held hx.1, hx.2⟩, ?_⟩
              have hz := Stp.refl I_42 w_4h
              refine vch_qf e39 rfl e35 rfl rfl rfl ?_
              refine vch_q e40 rfl ?_
              refine vch_q e41 rfl ?_
              refine vch_qf e42 rfl e41 rfl rfl rfl ?_
              refine vch_qf e44 rfl e41 rfl rfl rfl ?_
              refine vch_lf e43 rfl e41 rfl rfl rfl ?_
              refine ⟨fun x => Stp I_42 w_4h I_42 x ∧ OwnK [(g_3r, [(.bool x_3h.Neg), v_3n], 24), (g_47, [(.bool x_3x.Neg), v_43], 24), (g_3t, [(.bool x_3i.Neg), v_3o], 24), (g_49, [(.bool x_3y.Neg), v_44], 24), (g_31, [(.bool x_2z), v_32], 24)] x, ⟨Stp.refl _ _, (OwnK.cons (hp.own 3 _ _ _ rfl).1 (OwnK.cons (hp.own 1 _ _ _ rfl).1 (OwnK.cons (hp.own 2 _ _ _ rfl).1 (OwnK.cons (hp.own 0 _ _ _ rfl).1 (OwnK.cons (hp.own 5 _ _ _ rfl).1 OwnK.nil)))))⟩, fun x hx => ⟨hz.held hx.1, hx.2⟩, ?_⟩
              have hz := Stp.refl I_42 w_4h
              refine vch_lf e45 rfl e41 rfl rfl rfl ?_
              refine ⟨fun x => Stp I_42 w_4h I_42 x ∧ OwnK [(g_3r, [(.bool x_3h.Neg), v_3n], 24), (g_47, [(.bool x_3x.Neg), v_43], 24), (g_3t, [(.bool x_3i.Neg), v_3o], 24), (g_49, [(.bool x_3y.Neg), v_44], 24), (g_31, [(.bool x_2z), v_32], 24)] x, ⟨Stp.refl _ _, (OwnK.cons (hp.own 3 _ _ _ rfl).1 (OwnK.cons (hp.own 1 _ _ _ rfl).1 (OwnK.cons (hp.own 2 _ _ _ rfl).1 (OwnK.cons (hp.own 0 _ _ _ rfl).1 (OwnK.cons (hp.own 5 _ _ _ rfl).1 OwnK.nil)))))⟩, fun x hx => ⟨hz.held hx.1, hx.2⟩, ?_⟩
              have hz := Stp.refl I_42 w_4h
              refine vch_qf e46 rfl e41 rfl rfl rfl ?_
              refine vch_q e47 rfl ?_
              refine vch_end ?_
              obtain rfl := Option.some.inj q_4e
              have hp := hp.perm [5, 4] (by decide)
              exact ⟨(true, I_42), (.c rfl (.c rfl (.c rfl .n))), rfl, hp, r_3a, o_3g, tb⟩
            ·
              have q_4e := cond_f q_4e hc
              refine vch_qt e10 rfl e9 rfl rfl hc ?_
              refine evh (fun w' hw => rn_load rfl rfl (run_loadVarA T24 rfl (hw.2.at_ (i := 2) rfl))) ?_
              refine vch_qt e11 rfl e9 rfl rfl rfl ?_
              refine evh (fun w' hw => rn_load rfl rfl (run_loadVarA T24 rfl (hw.2.at_ (i := 3) rfl))) ?_
              refine vch_lt e12 rfl e9 rfl rfl rfl ?_
              obtain ⟨x_4i, q_4j, q_4e⟩ := bind_some q_4e
              refine ev_call rfl rfl C21 (((ref01_Same_ok n) _ _  (Int_2.mk x_3i.Neg x_3i.Mag) v_3o r_3q (Int_2.mk x_3y.Neg x_3y.Mag) v_44 r_46 hp.imm _ q_4j).mono ?_)
              rintro _ w_4k ⟨rfl, hc⟩
              have hs := hp.stp hc
              replace hp := hp.ext hc
              replace hz := hz.trans hs
              replace a_a := a_a.step hs
              replace r_2 := r_2.step hs
              replace a_e := a_e.step hs
              replace r_5 := r_5.step hs
              replace o_3g := o_3g.step hs
              replace r_46 := r_46.step hs
              replace r_45 := r_45.step hs
              replace r_3q := r_3q.step hs
              replace r_3p := r_3p.step hs
              replace r_3a := r_3a.step hs
              replace tb := tb.step hs
              refine ⟨fun x => Stp I_42 w_4k I_42 x ∧ OwnK [(g_3r, [(.bool x_3h.Neg), v_3n], 24), (g_47, [(.bool x_3x.Neg), v_43], 24), (g_3t, [(.bool x_3i.Neg), v_3o], 24), (g_49, [(.bool x_3y.Neg), v_44], 24), (g_31, [(.bool x_2z), v_32], 24)] x, ⟨Stp.refl _ _, (OwnK.cons (hp.own 3 _ _ _ rfl).1 (OwnK.cons (hp.own 1 _ _ _ rfl).1 (OwnK.cons (hp.own 2 _ _ _ rfl).1 (OwnK.cons (hp.own 0 _ _ _ rfl).1 (OwnK.cons (hp.own 5 _ _ _ rfl).1 OwnK.nil)))))⟩, fun x hx => ⟨hz.held hx.1, hx.2⟩, ?_⟩
              have hz := Stp.refl I_42 w_4k
              refine vch_qt e13 rfl e9 rfl rfl rfl ?_
              refine vch_q e14 rfl ?_
              refine vch_q e15 rfl ?_
              rcases Bool.eq_false_or_eq_true (!x_4i) with hc | hc
              ·
                have q_4e := cond_t q_4e hc
                refine vch_qf e16 rfl e15 rfl rfl hc ?_
                refine vch_qf e17 rfl e15 rfl rfl rfl ?_
                refine vch_qf e19 rfl e15 rfl rfl rfl ?_
                refine vch_qf e20 rfl e15 rfl rfl rfl ?_
                refine vch_lf e18 rfl e15 rfl rfl rfl ?_
                refine ⟨fun x => Stp I_42 w_4k I_42 x ∧ OwnK [(g_3r, [(.bool x_3h.Neg), v_3n], 24), (g_47, [(.bool x_3x.Neg), v_43], 24), (g_3t, [(.bool x_3i.Neg), v_3o], 24), (g_49, [(.bool x_3y.Neg), v_44], 24), (g_31, [(.bool x_2z), v_32], 24)] x, ⟨Stp.refl _ _, (OwnK.cons (hp.own 3 _ _ _ rfl).1 (OwnK.cons (hp.own 1 _ _ _ rfl).1 (OwnK.cons (hp.own 2 _ _ _ rfl).1 (OwnK.cons (hp.own 0 _ _ _ rfl).1 (OwnK.cons (hp.own 5 _ _ _ rfl).1 OwnK.nil)))))⟩, fun x hx => ⟨hz.held hx.1, hx.2⟩, ?_⟩
                have hz := Stp.refl I_42 w_4k
                refine vch_lf e21 rfl e15 rfl rfl rfl ?_
                refine ⟨fun x => Stp I_42 w_4k I_42 x ∧ OwnK [(g_3r, [(.bool x_3h.Neg), v_3n], 24), (g_47, [(.bool x_3x.Neg), v_43], 24), (g_3t, [(.bool x_3i.Neg), v_3o], 24), (g_49, [(.bool x_3y.Neg), v_44], 24), (g_31, [(.bool x_2z), v_32], 24)] x, ⟨Stp.refl _ _, (OwnK.cons (hp.own 3 _ _ _ rfl).1 (OwnK.cons (hp.own 1 _ _ _ rfl).1 (OwnK.cons (hp.own 2 _ _ _ rfl).1 (OwnK.cons (hp.own 0 _ _ _ rfl).1 (OwnK.cons (hp.own 5 _ _ _ rfl).1 OwnK.nil)))))⟩, fun x hx => ⟨hz.held hx.1, hx.2⟩, ?_⟩
                have hz := Stp.refl I_42 w_4k
                refine vch_lf e22 rfl e15 rfl rfl rfl ?_
                refine ⟨fun x => Stp I_42 w_4k I_42 x ∧ OwnK [(g_3r, [(.bool x_3h.Neg), v_3n], 24), (g_47, [(.bool x_3x.Neg), v_43], 24), (g_3t, [(.bool x_3i.Neg), v_3o], 24), (g_49, [(.bool x_3y.Neg), v_44], 24), (g_31, [(.bool x_2z), v_32], 24)] x, ⟨Stp.refl _ _, (OwnK.cons (hp.own 3 _ _ _ rfl).1 (OwnK.cons (hp.own 1 _ _ _ rfl).1 (OwnK.cons (hp.own 2 _ _ _ rfl).1 (OwnK.cons (hp.own 0 _ _ _ rfl).1 (OwnK.cons (hp.own 5 _ _ _ rfl).1 OwnK.nil)))))⟩, fun x hx => ⟨hz.held hx.1, hx.2⟩, ?_⟩
                have hz := Stp.refl I_42 w_4k
                refine vch_qf e23 rfl e15 rfl rfl rfl ?_
                refine vch_q e24 rfl ?_
                refine vch_q e25 rfl ?_
                refine vch_qf e26 rfl e25 rfl rfl rfl ?_
                refine vch_qf e27 rfl e25 rfl rfl rfl ?_
                refine vch_qf e29 rfl e25 rfl rfl rfl ?_
                refine vch_qf e30 rfl e25 rfl rfl rfl ?_
                refine vch_lf e28 rfl e25 rfl rfl rfl ?_
                refine ⟨fun x => Stp I_42 w_4k I_42 x ∧ OwnK [(g_3r, [(.bool x_3h.Neg), v_3n], 24), (g_47, [(.bool x_3x.Neg), v_43], 24), (g_3t, [(.bool x_3i.Neg), v_3o], 24), (g_49, [(.bool x_3y.Neg), v_44], 24), (g_31, [(.bool x_2z), v_32], 24)] x, ⟨Stp.refl _ _, (OwnK.cons (hp.own 3 _ _ _ rfl).1 (OwnK.cons (hp.own 1 _ _ _ rfl).1 (OwnK.cons (hp.own 2 _ _ _ rfl).1 (OwnK.cons (hp.own 0 _ _ _ rfl).1 (OwnK.cons (hp.own 5 _ _ _ rfl).1 OwnK.nil)))))⟩, fun x hx => ⟨hz.held hx.1, hx.2⟩, ?_⟩
                have hz := Stp.refl I_42 w_4k
                refine vch_lf e31 rfl e25 rfl rfl rfl ?_
                refine ⟨fun x => Stp I_42 w_4k I_42 x ∧ OwnK [(g_3r, [(.bool x_3h.Neg), v_3n], 24), (g_47, [(.bool x_3x.Neg), v_43], 24), (g_3t, [(.bool x_3i.Neg), v_3o], 24), (g_49, [(.bool x_3y.Neg), v_44], 24), (g_31, [(.bool x_2z), v_32], 24)] x, ⟨Stp.refl _ _, (OwnK.cons (hp.own 3 _ _ _ rfl).1 (OwnK.cons (hp.own 1 _ _ _ rfl).1 (OwnK.cons (hp.own 2 _ _ _ rfl).1 (OwnK.cons (hp.own 0 _ _ _ rfl).1 (OwnK.cons (hp.own 5 _ _ _ rfl).1 OwnK.nil)))))⟩, fun x hx => ⟨hz.held hx.1, hx.2⟩, ?_⟩
                have hz := Stp.refl I_42 w_4k
                refine vch_lf e32 rfl e25 rfl rfl rfl ?_
                refine ⟨fun x => Stp I_42 w_4k I_42 x ∧ OwnK [(g_3r, [(.bool x_3h.Neg), v_3n], 24), (g_47, [(.bool x_3x.Neg), v_43], 24), (g_3t, [(.bool x_3i.Neg), v_3o], 24), (g_49, [(.bool x_3y.Neg), v_44], 24), (g_31, [(.bool x_2z), v_32], 24)] x, ⟨Stp.refl _ _, (OwnK.cons (hp.own 3 _ _ _ rfl).1 (OwnK.cons (hp.own 1 _ _ _ rfl).1 (OwnK.cons (hp.own 2 _ _ _ rfl).1 (OwnK.cons (hp.own 0 _ _ _ rfl).1 (OwnK.cons (hp.own 5 _ _ _ rfl).1 OwnK.nil)))))⟩, fun x hx => ⟨hz.held hx.1, hx.2⟩, ?_⟩
                have hz := Stp.refl I_42 w_4k
                refine vch_qf e33 rfl e25 rfl rfl rfl ?_
                refine vch_q e34 rfl ?_
                refine vch_q e35 rfl ?_
                refine vch_qf e36 rfl e35 rfl rfl rfl ?_
                refine vch_qf e37 rfl e35 rfl rfl rfl ?_
                refine vch_lf e38 rfl e35 rfl rfl rfl ?_
                refine ⟨fun x => Stp I_42 w_4k I_42 x ∧ OwnK [(g_3r, [(.bool x_3h.Neg), v_3n], 24), (g_47, [(.bool x_3x.Neg), v_43], 24), (g_3t, [(.bool x_3i.Neg), v_3o], 24), (g_49, [(.bool x_3y.Neg), v_44], 24), (g_31, [(.bool x_2z), v_32], 24)] x, ⟨Stp.refl _ _, (OwnK.cons (hp.own 3 _ _ _ rfl).1 (OwnK.cons (hp.own 1 _ _ _ rfl).1 (OwnK.cons (hp.own 2 _ _ _ rfl).1 (OwnK.cons (hp.own 0 _ _ _ rfl).1 (OwnK.cons (hp.own 5 _ _ _ rfl).1 OwnK.nil)))))⟩, fun x hx => ⟨hz.held hx.1, hx.2⟩, ?_⟩
                have hz := Stp.refl I_42 w_4k
                refine vch_qf e39 rfl e35 rfl rfl rfl ?_
                refine vch_q e40 rfl ?_
                refine vch_q e41 rfl ?_
                refine vch_qf e42 rfl e41 rfl rfl rfl ?_
                refine vch_qf e44 rfl e41 rfl rfl rfl ?_
                refine vch_lf e43 rfl e41 rfl rfl rfl ?_
                refine ⟨fun x => Stp I_42 w_4k I_42 x ∧ OwnK [(g_3r, [(.bool x_3h.Neg), v_3n], 24), (g_47, [(.bool x_3x.Neg), v_43], 24), (g_3t, [(.bool x_3i.Neg), v_3o], 24), (g_49, [(.bool x_3y.Neg), v_44], 24), (g_31, [(.bool x_2z), v_32], 24)] x, ⟨Stp.refl _ _, (OwnK.cons (hp.own 3 _ _ _ rfl).1 (OwnK.cons (hp.own 1 _ _ _ rfl).1 (OwnK.cons (hp.own 2 _ _ _ rfl).1 (OwnK.cons (hp.own 0 _ _ _ rfl).1 (OwnK.cons (hp.own 5 _ _ _ rfl).1 OwnK.nil)))))⟩, fun x hx => ⟨hz.held hx.1, hx.2⟩, ?_⟩
                have hz := Stp.refl I_42 w_4k
                refine vch_lf e45 rfl e41 rfl rfl rfl ?_
                refine ⟨fun x => Stp I_42 w_4k I_42 x ∧ OwnK [(g_3r, [(.bool x_3h.Neg), v_3n], 24), (g_47, [(.bool x_3x.Neg), v_43], 24), (g_3t, [(.bool x_3i.Neg), v_3o], 24), (g_49, [(.bool x_3y.Neg), v_44], 24), (g_31, [(.bool x_2z), v_32], 24)] x, ⟨Stp.refl _ _, (OwnK.cons (hp.own 3 _ _ _ rfl).1 (OwnK.cons (hp.own 1 _ _ _ rfl).1 (OwnK.cons (hp.own 2 _ _ _ rfl).1 (OwnK.cons (hp.own 0 _ _ _ rfl).1 (OwnK.cons (hp.own 5 _ _ _ rfl).1 OwnK.nil)))))⟩, fun x hx => ⟨hz.held hx.1, hx.2⟩, ?_⟩
                have hz := Stp.refl I_42 w_4k
                refine vch_qf e46 rfl e41 rfl rfl rfl ?_
                refine vch_q e47 rfl ?_
                refine vch_end ?_
                obtain rfl := Option.some.inj q_4e
                have hp := hp.perm [5, 4] (by decide)
                exact ⟨(true, I_42), (.c rfl (.c rfl (.c rfl .n))), rfl, hp, r_3a, o_3g, tb⟩
              ·
                have q_4e := cond_f q_4e hc
                refine vch_qt e16 rfl e15 rfl rfl hc ?_
                refine evh (fun w' hw => rn_load rfl rfl (run_loadVarA T24 rfl (hw.2.at_ (i := 4) rfl))) ?_
                refine vch_qt e17 rfl e15 rfl rfl rfl ?_
                refine evh (fun w' hw => rn_load rfl rfl (run_loadVarA T24 rfl (a_e.step hw.1))) ?_
                refine vch_qt e19 rfl e15 rfl rfl rfl ?_
                refine evh (fun w' hw => rn_load rfl rfl (run_loadVarA T24 rfl (a_a.step hw.1))) ?_
                refine vch_qt e20 rfl e15 rfl rfl rfl ?_
                refine evh (fun w' hw => rn_load rfl rfl (run_loadVarA T24 rfl (a_e.step hw.1))) ?_
                refine vch_lt e18 rfl e15 rfl rfl rfl ?_
                obtain ⟨x_4l, q_4m, q_4e⟩ := bind_some q_4e
                refine ev_call rfl rfl C30 (((integer_Add_ok n) _ _  (Int_2.mk x_2z x_30) v_32 r_3a (Int_2.mk x_3.Neg x_3.Mag) v_4 r_5 hp.imm _ q_4m).mono ?_)
                rintro _ w_4n ⟨I_4o, v_4p, hv, hq, r_4q⟩
                replace hv := hv.symm
                subst hv
                have hs := hq.st
                have hp := hp.join0 hq
                replace hz := hz.trans hs
                replace a_a := a_a.step hs
                replace r_2 := r_2.step hs
                replace a_e := a_e.step hs
                replace r_5 := r_5.step hs
                replace o_3g := o_3g.step hs
                replace r_46 := r_46.step hs
                replace r_45 := r_45.step hs
                replace r_3q := r_3q.step hs
                replace r_3p := r_3p.step hs
                replace r_3a := r_3a.step hs
                replace tb := tb.step hs
                refine ⟨fun x => Stp I_4o w_4n I_4o x ∧ OwnK [(g_3r, [(.bool x_3h.Neg), v_3n], 24), (g_47, [(.bool x_3x.Neg), v_43], 24), (g_3t, [(.bool x_3i.Neg), v_3o], 24), (g_49, [(.bool x_3y.Neg), v_44], 24), (g_31, [(.bool x_2z), v_32], 24)] x, ⟨Stp.refl _ _, (OwnK.cons (hp.own 3 _ _ _ rfl).1 (OwnK.cons (hp.own 1 _ _ _ rfl).1 (OwnK.cons (hp.own 2 _ _ _ rfl).1 (OwnK.cons (hp.own 0 _ _ _ rfl).1 (OwnK.cons (hp.own 5 _ _ _ rfl).1 OwnK.nil)))))⟩, fun x hx => ⟨hz.held hx.1, hx.2⟩, ?_⟩
                have hz := Stp.refl I_4o w_4n
                refine vch_lt e21 rfl e15 rfl rfl rfl ?_
                obtain ⟨x_4r, q_4s, q_4e⟩ := bind_some q_4e
                refine ev_call rfl rfl C30 (((integer_Add_ok n) _ _  (Int_2.mk x_0.Neg x_0.Mag) v_1 r_2 (Int_2.mk x_3.Neg x_3.Mag) v_4 r_5 hp.imm _ q_4s).mono ?_)
                rintro _ w_4t ⟨I_4u, v_4v, hv, hq, r_4w⟩
                replace hv := hv.symm
                subst hv
                have hs := hq.st
                have hp := hp.join0 hq
                replace hz := hz.trans hs
                replace a_a := a_a.step hs
                replace r_2 := r_2.step hs
                replace a_e := a_e.step hs
                replace r_5 := r_5.step hs
                replace o_3g := o_3g.step hs
                replace r_4q := r_4q.step hs
                replace r_46 := r_46.step hs
                replace r_45 := r_45.step hs
                replace r_3q := r_3q.step hs
                replace r_3p := r_3p.step hs
                replace r_3a := r_3a.step hs
                replace tb := tb.step hs
                refine ⟨fun x => Stp I_4u w_4t I_4u x ∧ OwnK [(g_3r, [(.bool x_3h.Neg), v_3n], 24), (g_47, [(.bool x_3x.Neg), v_43], 24), (g_3t, [(.bool x_3i.Neg), v_3o], 24), (g_49, [(.bool x_3y.Neg), v_44], 24), (g_31, [(.bool x_2z), v_32], 24)] x, ⟨Stp.refl _ _, (OwnK.cons (hp.own 3 _ _ _ rfl).1 (OwnK.cons (hp.own 1 _ _ _ rfl).1 (OwnK.cons (hp.own 2 _ _ _ rfl).1 (OwnK.cons (hp.own 0 _ _ _ rfl).1 (OwnK.cons (hp.own 5 _ _ _ rfl).1 OwnK.nil)))))⟩, fun x hx => ⟨hz.held hx.1, hx.2⟩, ?_⟩
                have hz := Stp.refl I_4u w_4t
                refine vch_lt e22 rfl e15 rfl rfl rfl ?_
                obtain ⟨x_4x, q_4y, q_4e⟩ := bind_some q_4e
                refine ev_call rfl rfl C21 (((ref01_Same_ok n) _ _  x_4l v_4p r_4q x_4r v_4v r_4w hp.imm _ q_4y).mono ?_)
                rintro _ w_4z ⟨rfl, hc⟩
                have hs := hp.stp hc
                replace hp := hp.ext hc
                replace hz := hz.trans hs
                replace a_a := a_a.step hs
                replace r_2 := r_2.step hs
                replace a_e := a_e.step hs
                replace r_5 := r_5.step hs
                replace o_3g := o_3g.step hs
                replace r_46 := r_46.step hs
                replace r_45 := r_45.step hs
                replace r_3q := r_3q.step hs
                replace r_3p := r_3p.step hs
                replace r_3a := r_3a.step hs
                replace tb := tb.step hs
                refine ⟨fun x => Stp I_4u w_4z I_4u x ∧ OwnK [(g_3r, [(.bool x_3h.Neg), v_3n], 24), (g_47, [(.bool x_3x.Neg), v_43], 24), (g_3t, [(.bool x_3i.Neg), v_3o], 24), (g_49, [(.bool x_3y.Neg), v_44], 24), (g_31, [(.bool x_2z), v_32], 24)] x, ⟨Stp.refl _ _, (OwnK.cons (hp.own 3 _ _ _ rfl).1 (OwnK.cons (hp.own 1 _ _ _ rfl).1 (OwnK.cons (hp.own 2 _ _ _ rfl).1 (OwnK.cons (hp.own 0 _ _ _ rfl).1 (OwnK.cons (hp.own 5 _ _ _ rfl).1 OwnK.nil)))))⟩, fun x hx => ⟨hz.held hx.1, hx.2⟩, ?_⟩
                have hz := Stp.refl I_4u w_4z
                refine vch_qt e23 rfl e15 rfl rfl rfl ?_
                refine vch_q e24 rfl ?_
                refine vch_q e25 rfl ?_
                rcases Bool.eq_false_or_eq_true (!x_4x) with hc | hc
                ·
                  have q_4e := cond_t q_4e hc
                  refine vch_qf e26 rfl e25 rfl rfl hc ?_
                  refine vch_qf e27 rfl e25 rfl rfl rfl ?_
                  refine vch_qf e29 rfl e25 rfl rfl rfl ?_
                  refine vch_qf e30 rfl e25 rfl rfl rfl ?_
                  refine vch_lf e28 rfl e25 rfl rfl rfl ?_
                  refine ⟨fun x => Stp I_4u w_4z I_4u x ∧ OwnK [(g_3r, [(.bool x_3h.Neg), v_3n], 24), (g_47, [(.bool x_3x.Neg), v_43], 24), (g_3t, [(.bool x_3i.Neg), v_3o], 24), (g_49, [(.bool x_3y.Neg), v_44], 24), (g_31, [(.bool x_2z), v_32], 24)] x, ⟨Stp.refl _ _, (OwnK.cons (hp.own 3 _ _ _ rfl).1 (OwnK.cons (hp.own 1 _ _ _ rfl).1 (OwnK.cons (hp.own 2 _ _ _ rfl).1 (OwnK.cons (hp.own 0 _ _ _ rfl).1 (OwnK.cons (hp.own 5 _ _ _ rfl).1 OwnK.nil)))))⟩, fun x hx => ⟨hz.held hx.1, hx.2⟩, ?_⟩
                  have hz := Stp.refl I_4u w_4z
                  refine vch_lf e31 rfl e25 rfl rfl rfl ?_
                  refine ⟨fun x => Stp I_4u w_4z I_4u x ∧ OwnK [(g_3r, [(.bool x_3h.Neg), v_3n], 24), (g_47, [(.bool x_3x.Neg), v_43], 24), (g_3t, [(.bool x_3i.Neg), v_3o], 24), (g_49, [(.bool x_3y.Neg), v_44], 24), (g_31, [(.bool x_2z), v_32], 24)] x, ⟨Stp.refl _ _, (OwnK.cons (hp.own 3 _ _ _ rfl).1 (OwnK.cons (hp.own 1 _ _ _ rfl).1 (OwnK.cons (hp.own 2 _ _ _ rfl).1 (OwnK.cons (hp.own 0 _ _ _ rfl).1 (OwnK.cons (hp.own 5 _ _ _ rfl).1 OwnK.nil)))))⟩, fun x hx => ⟨hz.held hx.1, hx.2⟩, ?_⟩
                  have hz := Stp.refl I_4u w_4z
                  refine vch_lf e32 rfl e25 rfl rfl rfl ?_
                  refine ⟨fun x => Stp I_4u w_4z I_4u x ∧ OwnK [(g_3r, [(.bool x_3h.Neg), v_3n], 24), (g_47, [(.bool x_3x.Neg), v_43], 24), (g_3t, [(.bool x_3i.Neg), v_3o], 24), (g_49, [(.bool x_3y.Neg), v_44], 24), (g_31, [(.bool x_2z), v_32], 24)] x, ⟨Stp.refl _ _, (OwnK.cons (hp.own 3 _ _ _ rfl).1 (OwnK.cons (hp.own 1 _ _ _ rfl).1 (OwnK.cons (hp.own 2 _ _ _ rfl).1 (OwnK.cons (hp.own 0 _ _ _ rfl).1 (OwnK.cons (hp.own 5 _ _ _ rfl).1 OwnK.nil)))))⟩, fun x hx => ⟨hz.held hx.1, hx.2⟩, ?_⟩
                  have hz := Stp.refl I_4u w_4z
                  refine vch_qf e33 rfl e25 rfl rfl rfl ?_
                  refine vch_q e34 rfl ?_
                  refine vch_q e35 rfl ?_
                  refine vch_qf e36 rfl e35 rfl rfl rfl ?_
                  refine vch_qf e37 rfl e35 rfl rfl rfl ?_
                  refine vch_lf e38 rfl e35 rfl rfl rfl ?_
                  refine ⟨fun x => Stp I_4u w_4z I_4u x ∧ OwnK [(g_3r, [(.bool x_3h.Neg), v_3n], 24), (g_47, [(.bool x_3x.Neg), v_43], 24), (g_3t, [(.bool x_3i.Neg), v_3o], 24), (g_49, [(.bool x_3y.Neg), v_44], 24), (g_31, [(.bool x_2z), v_32], 24)] x, ⟨Stp.refl _ _, (OwnK.cons (hp.own 3 _ _ _ rfl).1 (OwnK.cons (hp.own 1 _ _ _ rfl).1 (OwnK.cons (hp.own 2 _ _ _ rfl).1 (OwnK.cons (hp.own 0 _ _ _ rfl).1 (OwnK.cons (hp.own 5 _ _ _ rfl).1 OwnK.nil)))))⟩, fun x hx => ⟨hz.held hx.1, hx.2⟩, ?_⟩
                  have hz := Stp.refl I_4u w_4z
                  refine vch_qf e39 rfl e35 rfl rfl rfl ?_
                  refine vch_q e40 rfl ?_
                  refine vch_q e41 rfl ?_
                  refine vch_qf e42 rfl e41 rfl rfl rfl ?_
                  refine vch_qf e44 rfl e41 rfl rfl rfl ?_
                  refine vch_lf e43 rfl e41 rfl rfl rfl ?_
                  refine ⟨fun x => Stp I_4u w_4z I_4u x ∧ OwnK [(g_3r, [(.bool x_3h.Neg), v_3n], 24), (g_47, [(.bool x_3x.Neg), v_43], 24), (g_3t, [(.bool x_3i.Neg), v_3o], 24), (g_49, [(.bool x_3y.Neg), v_44], 24), (g_31, [(.bool x_2z), v_32], 24)] x, ⟨Stp.refl _ _, (OwnK.cons (hp.own 3 _ _ _ rfl).1 (OwnK.cons (hp.own 1 _ _ _ rfl).1 (OwnK.cons (hp.own 2 _ _ _ rfl).1 (OwnK.cons (hp.own 0 _ _ _ rfl).1 (OwnK.cons (hp.own 5 _ _ _ rfl).1 OwnK.nil)))))⟩, fun x hx => ⟨hz.held hx.1, hx.2⟩, ?_⟩
                  have hz := Stp.refl I_4u w_4z
                  refine vch_lf e45 rfl e41 rfl rfl rfl ?_
                  refine ⟨fun x => Stp I_4u w_4z I_4u x ∧ OwnK [(g_3r, [(.bool x_3h.Neg), v_3n], 24), (g_47, [(.bool x_3x.Neg), v_43], 24), (g_3t, [(.bool x_3i.Neg), v_3o], 24), (g_49, [(.bool x_3y.Neg), v_44], 24), (g_31, [(.bool x_2z), v_32], 24)] x, ⟨Stp.refl _ _, (OwnK.cons (hp.own 3 _ _ _ rfl).1 (OwnK.cons (hp.own 1 _ _ _ rfl).1 (OwnK.cons (hp.own 2 _ _ _ rfl).1 (OwnK.cons (hp.own 0 _ _ _ rfl).1 (OwnK.cons (hp.own 5 _ _ _ rfl).1 OwnK.nil)))))⟩, fun x hx => ⟨hz.held hx.1, hx.2⟩, ?_⟩
                  have hz := Stp.refl I_4u w_4z
                  refine vch_qf e46 rfl e41 rfl rfl rfl ?_
                  refine vch_q e47 rfl ?_
                  refine vch_end ?_
                  obtain rfl := Option.some.inj q_4e
                  have hp := hp.perm [5, 4] (by decide)
                  exact ⟨(true, I_4u), (.c rfl (.c rfl (.c rfl .n))), rfl, hp, r_3a, o_3g, tb⟩
                ·
                  have q_4e := cond_f q_4e hc
                  refine vch_qt e26 rfl e25 rfl rfl hc ?_
                  refine evh (fun w' hw => rn_load rfl rfl (run_loadVarA T24 rfl (hw.2.at_ (i := 4) rfl))) ?_
                  refine vch_qt e27 rfl e25 rfl rfl rfl ?_
                  refine evh (fun w' hw => rn_load rfl rfl (run_loadVarA T24 rfl (a_e.step hw.1))) ?_
                  refine vch_qt e29 rfl e25 rfl rfl rfl ?_
                  refine evh (fun w' hw => rn_load rfl rfl (run_loadVarA T24 rfl (a_a.step hw.1))) ?_
                  refine vch_qt e30 rfl e25 rfl rfl rfl ?_
                  refine evh (fun w' hw => rn_load rfl rfl (run_loadVarA T24 rfl (a_e.step hw.1))) ?_
                  refine vch_lt e28 rfl e25 rfl rfl rfl ?_
                  obtain ⟨x_50, q_51, q_4e⟩ := bind_some q_4e
                  refine ev_call rfl rfl C31 (((integer_Mul_ok n) _ _  (Int_2.mk x_2z x_30) v_32 r_3a (Int_2.mk x_3.Neg x_3.Mag) v_4 r_5 hp.imm _ q_51).mono ?_)
                  rintro _ w_52 ⟨I_53, v_54, hv, hq, r_55⟩
                  replace hv := hv.symm
                  subst hv
                  have hs := hq.st
                  have hp := hp.join0 hq
                  replace hz := hz.trans hs
                  replace a_a := a_a.step hs
                  replace r_2 := r_2.step hs
                  replace o_3g := o_3g.step hs
                  replace r_5 := r_5.step hs
                  replace r_46 := r_46.step hs
                  replace r_45 := r_45.step hs
                  replace r_3q := r_3q.step hs
                  replace r_3p := r_3p.step hs
                  replace r_3a := r_3a.step hs
                  replace tb := tb.step hs
                  refine ⟨fun x => Stp I_53 w_52 I_53 x ∧ OwnK [(g_3r, [(.bool x_3h.Neg), v_3n], 24), (g_47, [(.bool x_3x.Neg), v_43], 24), (g_3t, [(.bool x_3i.Neg), v_3o], 24), (g_49, [(.bool x_3y.Neg), v_44], 24), (g_31, [(.bool x_2z), v_32], 24)] x, ⟨Stp.refl _ _, (OwnK.cons (hp.own 3 _ _ _ rfl).1 (OwnK.cons (hp.own 1 _ _ _ rfl).1 (OwnK.cons (hp.own 2 _ _ _ rfl).1 (OwnK.cons (hp.own 0 _ _ _ rfl).1 (OwnK.cons (hp.own 5 _ _ _ rfl).1 OwnK.nil)))))⟩, fun x hx => ⟨hz.held hx.1, hx.2⟩, ?_⟩
                  have hz := Stp.refl I_53 w_52
                  refine vch_lt e31 rfl e25 rfl rfl rfl ?_
                  obtain ⟨x_56, q_57, q_4e⟩ := bind_some q_4e
                  refine ev_call rfl rfl C31 (((integer_Mul_ok n) _ _  (Int_2.mk x_0.Neg x_0.Mag) v_1 r_2 (Int_2.mk x_3.Neg x_3.Mag) v_4 r_5 hp.imm _ q_57).mono ?_)
                  rintro _ w_58 ⟨I_59, v_5a, hv, hq, r_5b⟩
                  replace hv := hv.symm
                  subst hv
                  have hs := hq.st
                  have hp := hp.join0 hq
                  replace hz := hz.trans hs
                  replace a_a := a_a.step hs
                  replace r_2 := r_2.step hs
                  replace o_3g := o_3g.step hs
                  replace r_55 := r_55.step hs
                  replace r_46 := r_46.step hs
                  replace r_45 := r_45.step hs
                  replace r_3q := r_3q.step hs
                  replace r_3p := r_3p.step hs
                  replace r_3a := r_3a.step hs
                  replace tb := tb.step hs
                  refine ⟨fun x => Stp I_59 w_58 I_59 x ∧ OwnK [(g_3r, [(.bool x_3h.Neg), v_3n], 24), (g_47, [(.bool x_3x.Neg), v_43], 24), (g_3t, [(.bool x_3i.Neg), v_3o], 24), (g_49, [(.bool x_3y.Neg), v_44], 24), (g_31, [(.bool x_2z), v_32], 24)] x, ⟨Stp.refl _ _, (OwnK.cons (hp.own 3 _ _ _ rfl).1 (OwnK.cons (hp.own 1 _ _ _ rfl).1 (OwnK.cons (hp.own 2 _ _ _ rfl).1 (OwnK.cons (hp.own 0 _ _ _ rfl).1 (OwnK.cons (hp.own 5 _ _ _ rfl).1 OwnK.nil)))))⟩, fun x hx => ⟨hz.held hx.1, hx.2⟩, ?_⟩
                  have hz := Stp.refl I_59 w_58
                  refine vch_lt e32 rfl e25 rfl rfl rfl ?_
                  obtain ⟨x_5c, q_5d, q_4e⟩ := bind_some q_4e
                  refine ev_call rfl rfl C21 (((ref01_Same_ok n) _ _  x_50 v_54 r_55 x_56 v_5a r_5b hp.imm _ q_5d).mono ?_)
                  rintro _ w_5e ⟨rfl, hc⟩
                  have hs := hp.stp hc
                  replace hp := hp.ext hc
                  replace hz := hz.trans hs
                  replace a_a := a_a.step hs
                  replace r_2 := r_2.step hs
                  replace o_3g := o_3g.step hs
                  replace r_46 := r_46.step hs
                  replace r_45 := r_45.step hs
                  replace r_3q := r_3q.step hs
                  replace r_3p := r_3p.step hs
                  replace r_3a := r_3a.step hs
                  replace tb := tb.step hs
                  refine ⟨fun x => Stp I_59 w_5e I_59 x ∧ OwnK [(g_3r, [(.bool x_3h.Neg), v_3n], 24), (g_47, [(.bool x_3x.Neg), v_43], 24), (g_3t, [(.bool x_3i.Neg), v_3o], 24), (g_49, [(.bool x_3y.Neg), v_44], 24), (g_31, [(.bool x_2z), v_32], 24)] x, ⟨Stp.refl _ _, (OwnK.cons (hp.own 3 _ _ _ rfl).1 (OwnK.cons (hp.own 1 _ _ _ rfl).1 (OwnK.cons (hp.own 2 _ _ _ rfl).1 (OwnK.cons (hp.own 0 _ _ _ rfl).1 (OwnK.cons (hp.own 5 _ _ _ rfl).1 OwnK.nil)))))⟩, fun x hx => ⟨hz.held hx.1, hx.2⟩, ?_⟩
                  have hz := Stp.refl I_59 w_5e
                  refine vch_qt e33 rfl e25 rfl rfl rfl ?_
                  refine vch_q e34 rfl ?_
                  refine vch_q e35 rfl ?_
                  rcases Bool.eq_false_or_eq_true (!x_5c) with hc | hc
                  ·
                    have q_4e := cond_t q_4e hc
                    refine vch_qf e36 rfl e35 rfl rfl hc ?_
                    refine vch_qf e37 rfl e35 rfl rfl rfl ?_
                    refine vch_lf e38 rfl e35 rfl rfl rfl ?_
                    refine ⟨fun x => Stp I_59 w_5e I_59 x ∧ OwnK [(g_3r, [(.bool x_3h.Neg), v_3n], 24), (g_47, [(.bool x_3x.Neg), v_43], 24), (g_3t, [(.bool x_3i.Neg), v_3o], 24), (g_49, [(.bool x_3y.Neg), v_44], 24), (g_31, [(.bool x_2z), v_32], 24)] x, ⟨Stp.refl _ _, (OwnK.cons (hp.own 3 _ _ _ rfl).1 (OwnK.cons (hp.own 1 _ _ _ rfl).1 (OwnK.cons (hp.own 2 _ _ _ rfl).1 (OwnK.cons (hp.own 0 _ _ _ rfl).1 (OwnK.cons (hp.own 5 _ _ _ rfl).1 OwnK.nil)))))⟩, fun x hx => ⟨hz.held hx.1, hx.2⟩, ?_⟩
                    have hz := Stp.refl I_59 w_5e
                    refine vch_qf e39 rfl e35 rfl rfl rfl ?_
                    refine vch_q e40 rfl ?_
                    refine vch_q e41 rfl ?_
                    refine vch_qf e42 rfl e41 rfl rfl rfl ?_
                    refine vch_qf e44 rfl e41 rfl rfl rfl ?_
                    refine vch_lf e43 rfl e41 rfl rfl rfl ?_
                    refine ⟨fun x => Stp I_59 w_5e I_59 x ∧ OwnK [(g_3r, [(.bool x_3h.Neg), v_3n], 24), (g_47, [(.bool x_3x.Neg), v_43], 24), (g_3t, [(.bool x_3i.Neg), v_3o], 24), (g_49, [(.bool x_3y.Neg), v_44], 24), (g_31, [(.bool x_2z), v_32], 24)] x, ⟨Stp.refl _ _, (OwnK.cons (hp.own 3 _ _ _ rfl).1 (OwnK.cons (hp.own 1 _ _ _ rfl).1 (OwnK.cons (hp.own 2 _ _ _ rfl).1 (OwnK.cons (hp.own 0 _ _ _ rfl).1 (OwnK.cons (hp.own 5 _ _ _ rfl).1 OwnK.nil)))))⟩, fun x hx => ⟨hz.held hx.1, hx.2⟩, ?_⟩
                    have hz := Stp.refl I_59 w_5e
                    refine vch_lf e45 rfl e41 rfl rfl rfl ?_
                    refine ⟨fun x => Stp I_59 w_5e I_59 x ∧ OwnK [(g_3r, [(.bool x_3h.Neg), v_3n], 24), (g_47, [(.bool x_3x.Neg), v_43], 24), (g_3t, [(.bool x_3i.Neg), v_3o], 24), (g_49, [(.bool x_3y.Neg), v_44], 24), (g_31, [(.bool x_2z), v_32], 24)] x, ⟨Stp.refl _ _, (OwnK.cons (hp.own 3 _ _ _ rfl).1 (OwnK.cons (hp.own 1 _ _ _ rfl).1 (OwnK.cons (hp.own 2 _ _ _ rfl).1 (OwnK.cons (hp.own 0 _ _ _ rfl).1 (OwnK.cons (hp.own 5 _ _ _ rfl).1 OwnK.nil)))))⟩, fun x hx => ⟨hz.held hx.1, hx.2⟩, ?_⟩
                    have hz := Stp.refl I_59 w_5e
                    refine vch_qf e46 rfl e41 rfl rfl rfl ?_
                    refine vch_q e47 rfl ?_
                    refine vch_end ?_
                    obtain rfl := Option.some.inj q_4e
                    have hp := hp.perm [5, 4] (by decide)
                    exact ⟨(true, I_59), (.c rfl (.c rfl (.c rfl .n))), rfl, hp, r_3a, o_3g, tb⟩
                  ·
                    have q_4e := cond_f q_4e hc
                    refine vch_qt e36 rfl e35 rfl rfl hc ?_
                    refine evh (fun w' hw => rn_load rfl rfl (run_loadVarA T24 rfl (hw.2.at_ (i := 4) rfl))) ?_
                    refine vch_qt e37 rfl e35 rfl rfl rfl ?_
                    refine evh (fun w' hw => rn_load rfl rfl (run_loadVarA T24 rfl (a_a.step hw.1))) ?_
                    refine vch_lt e38 rfl e35 rfl rfl rfl ?_
                    obtain ⟨x_5f, q_5g, q_4e⟩ := bind_some q_4e
                    refine ev_call rfl rfl C17 (((integer_Cmp_ok n) _ _  (Int_2.mk x_2z x_30) v_32 r_3a (Int_2.mk x_0.Neg x_0.Mag) v_1 r_2 hp.imm _ q_5g).mono ?_)
                    rintro _ w_5h ⟨rfl, hc⟩
                    have hs := hp.stp hc
                    replace hp := hp.ext hc
                    replace hz := hz.trans hs
                    replace a_a := a_a.step hs
                    replace r_2 := r_2.step hs
                    replace o_3g := o_3g.step hs
                    replace r_46 := r_46.step hs
                    replace r_45 := r_45.step hs
                    replace r_3q := r_3q.step hs
                    replace r_3p := r_3p.step hs
                    replace r_3a := r_3a.step hs
                    replace tb := tb.step hs
                    refine ⟨fun x => Stp I_59 w_5h I_59 x ∧ OwnK [(g_3r, [(.bool x_3h.Neg), v_3n], 24), (g_47, [(.bool x_3x.Neg), v_43], 24), (g_3t, [(.bool x_3i.Neg), v_3o], 24), (g_49, [(.bool x_3y.Neg), v_44], 24), (g_31, [(.bool x_2z), v_32], 24)] x, ⟨Stp.refl _ _, (OwnK.cons (hp.own 3 _ _ _ rfl).1 (OwnK.cons (hp.own 1 _ _ _ rfl).1 (OwnK.cons (hp.own 2 _ _ _ rfl).1 (OwnK.cons (hp.own 0 _ _ _ rfl).1 (OwnK.cons (hp.own 5 _ _ _ rfl).1 OwnK.nil)))))⟩, fun x hx => ⟨hz.held hx.1, hx.2⟩, ?_⟩
                    have hz := Stp.refl I_59 w_5h
                    refine vch_qt e39 rfl e35 rfl rfl rfl ?_
                    refine vch_q e40 rfl ?_
                    refine vch_q e41 rfl ?_
                    rcases Bool.eq_false_or_eq_true (x_5f != 0) with hc | hc
                    ·
                      have q_4e := cond_t q_4e hc
                      refine vch_qf e42 rfl e41 rfl rfl hc ?_
                      refine vch_qf e44 rfl e41 rfl rfl rfl ?_
                      refine vch_lf e43 rfl e41 rfl rfl rfl ?_
                      refine ⟨fun x => Stp I_59 w_5h I_59 x ∧ OwnK [(g_3r, [(.bool x_3h.Neg), v_3n], 24), (g_47, [(.bool x_3x.Neg), v_43], 24), (g_3t, [(.bool x_3i.Neg), v_3o], 24), (g_49, [(.bool x_3y.Neg), v_44], 24), (g_31, [(.bool x_2z), v_32], 24)] x, ⟨Stp.refl _ _, (OwnK.cons (hp.own 3 _ _ _ rfl).1 (OwnK.cons (hp.own 1 _ _ _ rfl).1 (OwnK.cons (hp.own 2 _ _ _ rfl).1 (OwnK.cons (hp.own 0 _ _ _ rfl).1 (OwnK.cons (hp.own 5 _ _ _ rfl).1 OwnK.nil)))))⟩, fun x hx => ⟨hz.held hx.1, hx.2⟩, ?_⟩
                      have hz := Stp.refl I_59 w_5h
                      refine vch_lf e45 rfl e41 rfl rfl rfl ?_
                      refine ⟨fun x => Stp I_59 w_5h I_59 x ∧ OwnK [(g_3r, [(.bool x_3h.Neg), v_3n], 24), (g_47, [(.bool x_3x.Neg), v_43], 24), (g_3t, [(.bool x_3i.Neg), v_3o], 24), (g_49, [(.bool x_3y.Neg), v_44], 24), (g_31, [(.bool x_2z), v_32], 24)] x, ⟨Stp.refl _ _, (OwnK.cons (hp.own 3 _ _ _ rfl).1 (OwnK.cons (hp.own 1 _ _ _ rfl).1 (OwnK.cons (hp.own 2 _ _ _ rfl).1 (OwnK.cons (hp.own 0 _ _ _ rfl).1 (OwnK.cons (hp.own 5 _ _ _ rfl).1 OwnK.nil)))))⟩, fun x hx => ⟨hz.held hx.1, hx.2⟩, ?_⟩
                      have hz := Stp.refl I_59 w_5h
                      refine vch_qf e46 rfl e41 rfl rfl rfl ?_
                      refine vch_q e47 rfl ?_
                      refine vch_end ?_
                      obtain rfl := Option.some.inj q_4e
                      have hp := hp.perm [5, 4] (by decide)
                      exact ⟨(true, I_59), (.c rfl (.c rfl (.c rfl .n))), rfl, hp, r_3a, o_3g, tb⟩
                    ·
                      have q_4e := cond_f q_4e hc
                      refine vch_qt e42 rfl e41 rfl rfl hc ?_
                      refine evh (fun w' hw => rn_load rfl rfl (run_loadVarA T24 rfl (hw.2.at_ (i := 4) rfl))) ?_
                      refine vch_qt e44 rfl e41 rfl rfl rfl ?_
                      refine evh (fun w' hw => rn_load rfl rfl (run_loadVarA T24 rfl (a_a.step hw.1))) ?_
                      refine vch_lt e43 rfl e41 rfl rfl rfl ?_
                      obtain ⟨x_5i, q_5j, q_4e⟩ := bind_some q_4e
                      refine ev_call rfl rfl C25 (((integer_Text_ok n) _ _ tb (Int_2.mk x_2z x_30) v_32 r_3a hp.imm _ q_5j).mono ?_)
                      rintro _ w_5k ⟨rfl, hc⟩
                      have hs := hp.stp hc
                      replace hp := hp.ext hc
                      replace hz := hz.trans hs
                      replace o_3g := o_3g.step hs
                      replace r_2 := r_2.step hs
                      replace r_46 := r_46.step hs
                      replace r_45 := r_45.step hs
                      replace r_3q := r_3q.step hs
                      replace r_3p := r_3p.step hs
                      replace r_3a := r_3a.step hs
                      replace tb := tb.step hs
                      refine ⟨fun x => Stp I_59 w_5k I_59 x ∧ OwnK [(g_3r, [(.bool x_3h.Neg), v_3n], 24), (g_47, [(.bool x_3x.Neg), v_43], 24), (g_3t, [(.bool x_3i.Neg), v_3o], 24), (g_49, [(.bool x_3y.Neg), v_44], 24), (g_31, [(.bool x_2z), v_32], 24)] x, ⟨Stp.refl _ _, (OwnK.cons (hp.own 3 _ _ _ rfl).1 (OwnK.cons (hp.own 1 _ _ _ rfl).1 (OwnK.cons (hp.own 2 _ _ _ rfl).1 (OwnK.cons (hp.own 0 _ _ _ rfl).1 (OwnK.cons (hp.own 5 _ _ _ rfl).1 OwnK.nil)))))⟩, fun x hx => ⟨hz.held hx.1, hx.2⟩, ?_⟩
                      have hz := Stp.refl I_59 w_5k
                      refine vch_lt e45 rfl e41 rfl rfl rfl ?_
                      obtain ⟨x_5l, q_5m, q_4e⟩ := bind_some q_4e
                      refine ev_call rfl rfl C25 (((integer_Text_ok n) _ _ tb (Int_2.mk x_0.Neg x_0.Mag) v_1 r_2 hp.imm _ q_5m).mono ?_)
                      rintro _ w_5n ⟨rfl, hc⟩
                      have hs := hp.stp hc
                      replace hp := hp.ext hc
                      replace hz := hz.trans hs
                      replace o_3g := o_3g.step hs
                      replace r_46 := r_46.step hs
                      replace r_45 := r_45.step hs
                      replace r_3q := r_3q.step hs
                      replace r_3p := r_3p.step hs
                      replace r_3a := r_3a.step hs
                      replace tb := tb.step hs
                      refine ⟨fun x => Stp I_59 w_5n I_59 x ∧ OwnK [(g_3r, [(.bool x_3h.Neg), v_3n], 24), (g_47, [(.bool x_3x.Neg), v_43], 24), (g_3t, [(.bool x_3i.Neg), v_3o], 24), (g_49, [(.bool x_3y.Neg), v_44], 24), (g_31, [(.bool x_2z), v_32], 24)] x, ⟨Stp.refl _ _, (OwnK.cons (hp.own 3 _ _ _ rfl).1 (OwnK.cons (hp.own 1 _ _ _ rfl).1 (OwnK.cons (hp.own 2 _ _ _ rfl).1 (OwnK.cons (hp.own 0 _ _ _ rfl).1 (OwnK.cons (hp.own 5 _ _ _ rfl).1 OwnK.nil)))))⟩, fun x hx => ⟨hz.held hx.1, hx.2⟩, ?_⟩
                      have hz := Stp.refl I_59 w_5n
                      refine vch_qt e46 rfl e41 rfl rfl rfl ?_
                      refine vch_q e47 rfl ?_
                      refine vch_end ?_
                      obtain rfl := Option.some.inj q_4e
                      have hp := hp.perm [5, 4] (by decide)
                      exact ⟨((!(x_5i.toList == x_5l.toList)), I_59), (.c rfl (.c rfl (.c rfl .n))), rfl, hp, r_3a, o_3g, tb⟩
        ·
          rintro ⟨x_5o, I_5p⟩ w_5q ⟨hy, hp, r_3a, o_3g, tb⟩
          replace hy := hy.symm
          subst hy
          apply go
          refine sel_of (fun hc => ?_) (fun hc => ?_)
          ·
            have h := cond_t h hc
            apply go
            apply go
            apply go
            obtain rfl := Option.some.inj h
            exact ⟨rfl, hp.ch⟩
          ·
            have h := cond_f h hc
            apply go
            apply go
            apply go
            refine ev (rn_load rfl rfl (run_loadVarA T24 rfl (hp.at_ (i := 0) rfl))) ?_
            obtain ⟨x_5r, q_5s, h⟩ := bind_some h
            refine ev_call rfl rfl C35 (((integer_Normown_ok n) _ _  (Int_2.mk x_2z x_30) v_32 r_3a hp.imm _ q_5s).mono ?_)
            rintro _ w_5t ⟨I_5u, v_5v, e_5w, hv, hq, r_5x⟩
            replace hv := hv.symm
            subst hv
            have hs := hq.st
            have hp := hp.join0 hq
            replace o_3g := o_3g.step hs
            replace r_3a := r_3a.step hs
            replace tb := tb.step hs
            refine ev_alloc hp rfl T24 ?_
            intro g_5y w_5z hp hs
            replace o_3g := o_3g.step hs
            replace r_5x := r_5x.step hs
            replace r_3a := r_3a.step hs
            replace tb := tb.step hs
            refine ev_storeA hp (i := 0) (off := 0) (vs := [(.bool x_5r.Neg), v_5v]) rfl rfl rfl rfl T24 rfl (Nat.le_of_ble_eq_true rfl) (ones_cons rfl (ones_cons r_5x.one ones_nil)) ?_
            intro w_60 hp hs
            replace o_3g := o_3g.step hs
            replace r_5x := r_5x.step hs
            replace r_3a := r_3a.step hs
            replace tb := tb.step hs
            obtain ⟨y_61, q_62, h⟩ := bind_some h
            refine W.cut (γ := Unit) (fun _ => [(7, (.pointer (some ⟨g_31, 0, none⟩))), (8, v_3d)]) (fun _ w' => y_61 = () ∧ Hp ⟨w0, I0, []⟩ I_5u [some (g_31, [(.bool x_2z), v_32], 24), e_3e] w' ∧ RepS (dI .u32) w' I_5u v_32 x_30 ∧ OwnS (dI .u32) 45 w' I_5u v_3d e_3e x_3b ∧ Tb w' I_5u 1 .u64 pow10) ?_ ?_
            ·
              apply go
              apply go
              apply go
              have hp := hp.perm [2, 3, 1, 0] (by decide)
              refine W.loop q_62 (γ := Ent) (fun s g => [(7, (.pointer (some ⟨g_31, 0, none⟩))), (8, v_3d), (15, (.pointer (some ⟨g_5y, 0, none⟩))), (16, (.int .i64 (s.2)))]) (fun s g w' => Hp ⟨w0, I0, []⟩ I_5u [some (g_31, [(.bool x_2z), v_32], 24), e_3e, (g), some (g_5y, [(.bool x_5r.Neg), v_5v], 24)] w' ∧ RepS (dI .u32) w' I_5u v_32 x_30 ∧ OwnS (dI .u32) 45 w' I_5u v_3d e_3e x_3b ∧ OwnS (dI .u32) 45 w' I_5u v_5v (g) (s.1) ∧ Tb w' I_5u 1 .u64 pow10) e_5w (.c rfl (.c rfl (.c rfl (.c rfl .n)))) ⟨hp, r_3a, o_3g, r_5x, tb⟩ ?_
              rintro ⟨x_63, x_64⟩ e_65 w_66 y_67 ⟨hp, r_3a, o_3g, o_68, tb⟩ q_69 q_6a
              unfold law01_IntegerForms_L1 at q_69
              apply go
              apply go
              apply go
              refine ev0 (rn_field rfl rfl FO24_1) ?_
              refine ev (rn_load rfl rfl (run_loadVar1 T22 (hp.cell (i := 3) (off := 1) rfl rfl))) ?_
              refine ev0 (x_lenO rfl rfl Tryz.underlying22 o_68) ?_
              apply go
              refine sel_of (fun hc => ?_) (fun hc => ?_)
              ·
                have q_69 := cond_t q_69 hc
                apply go
                apply go
                apply go
                apply go
                refine ev0 (rn_field rfl rfl FO24_1) ?_
                refine ev (rn_load rfl rfl (run_loadVar1 T22 (hp.cell (i := 3) (off := 1) rfl rfl))) ?_
                obtain ⟨x_6b, q_6c, q_69⟩ := bind_some q_69
                refine ev_indexO rfl rfl rfl Tryz.underlying22 T45 o_68 q_6c ?_
                intro g_6d c_6e h_6f d_6g l_6h
                refine ev (rn_load rfl rfl (run_loadVar1 T45 (hp.cellE (i := 2) rfl h_6f d_6g (j := 0) rfl))) ?_
                obtain ⟨x_6i, q_6j, q_69⟩ := bind_some q_69
                refine ev_indexO rfl rfl rfl Tryz.underlying22 T45 o_68 q_6j ?_
                intro g_6k c_6l h_6m d_6n l_6o
                refine ev_storeE hp (i := 2) rfl h_6m rfl rfl rfl T45 o_68 q_6j (x0 := (IntKind.u32.wrap (x_6b + 1))) rfl ?_
                intro e_6p w_6q hp hs o_6r
                replace o_3g := o_3g.step hs
                replace r_3a := r_3a.step hs
                replace tb := tb.step hs
                apply go
                exact ⟨_, (Option.some.inj q_69).symm, e_6p, (.c rfl (.c rfl (.c rfl (.c rfl .n)))), ⟨hp, r_3a, o_3g, o_6r, tb⟩⟩
              ·
                have q_69 := cond_f q_69 hc
                apply go
                have q_6s := congrArg some (q_6a _ (Option.some.inj q_69).symm)
                obtain rfl := Option.some.inj q_6s
                have hp := hp.sel [0, 1] (by decide)
                exact ⟨(), (.c rfl (.c rfl .n)), rfl, hp, r_3a, o_3g, tb⟩
            ·
              rintro ⟨⟩ w_6t ⟨hy, hp, r_3a, o_3g, tb⟩
              replace hy := hy.symm
              subst hy
              obtain ⟨y_6u, q_6v, h⟩ := bind_some h
              refine W.cut (γ := Unit) (fun _ => []) (fun _ w' => y_6u = .go () ∧ Hp ⟨w0, I0, []⟩ I_5u [] w' ∧ Tb w' I_5u 1 .u64 pow10) ?_ ?_
              ·
                apply go
                apply go
                apply go
                refine W.loop q_6v (γ := Unit) (fun s _ => [(7, (.pointer (some ⟨g_31, 0, none⟩))), (8, v_3d), (17, (.int .i64 (s)))]) (fun s _ w' => Hp ⟨w0, I0, []⟩ I_5u [some (g_31, [(.bool x_2z), v_32], 24), e_3e] w' ∧ RepS (dI .u32) w' I_5u v_32 x_30 ∧ OwnS (dI .u32) 45 w' I_5u v_3d e_3e x_3b ∧ Tb w' I_5u 1 .u64 pow10) () (.c rfl (.c rfl (.c rfl .n))) ⟨hp, r_3a, o_3g, tb⟩ ?_
                rintro x_6w ⟨⟩ w_6x y_6y ⟨hp, r_3a, o_3g, tb⟩ q_6z q_70
                unfold law01_IntegerForms_L3 at q_6z
                apply go
                apply go
                apply go
                refine ev0 (x_lenO rfl rfl Tryz.underlying22 o_3g) ?_
                apply go
                refine sel_of (fun hc => ?_) (fun hc => ?_)
                ·
                  have q_6z := cond_t q_6z hc
                  apply go
                  apply go
                  apply go
                  apply go
                  refine W.quiet (fun w' => Ch [] w_6x w') MX (by kernel_rfl) (Ch.drew [] w_6x) ?_
                  refine evq0 (rn_field rfl rfl FO24_1) ?_
                  refine evq (fun w' hw => rn_load rfl rfl (run_loadVar1 T22 ((hp.ext hw).cell (i := 0) (off := 1) rfl rfl))) ?_
                  obtain ⟨x_71, q_72, q_6z⟩ := bind_some q_6z
                  refine evq_index rfl rfl rfl Tryz.underlying22 T45 r_3a q_72 ?_
                  intro p_73 c_74 d_75 a_76
                  obtain rfl : c_74 = [(.int .u32 x_71)] := d_75
                  refine evq (fun w' hw => rn_load rfl rfl (run_loadVar1 T45 ((a_76.step (hp.stp hw)).2 0 _ rfl))) ?_
                  obtain ⟨x_77, q_78, q_6z⟩ := bind_some q_6z
                  refine evq_indexO rfl rfl rfl Tryz.underlying22 T45 o_3g q_78 ?_
                  intro g_79 c_7a h_7b d_7c l_7d
                  refine evq (fun w' hw => rn_load rfl rfl (run_loadVar1 T45 ((hp.ext hw).cellE (i := 1) rfl h_7b d_7c (j := 0) rfl))) ?_
                  intro w_7e hc
                  have hs := hp.stp hc
                  replace hp := hp.ext hc
                  replace o_3g := o_3g.step hs
                  replace r_3a := r_3a.step hs
                  replace tb := tb.step hs
                  apply go
                  refine sel_of (fun hc => ?_) (fun hc => ?_)
                  ·
                    have q_6z := cond_t q_6z hc
                    apply go
                    apply go
                    apply go
                    have q_7f := congrArg some (q_70 _ (Option.some.inj q_6z).symm)
                    obtain rfl := Option.some.inj q_7f
                    obtain rfl := Option.some.inj h
                    exact ⟨rfl, hp.ch⟩
                  ·
                    have q_6z := cond_f q_6z hc
                    apply go
                    apply go
                    exact ⟨_, (Option.some.inj q_6z).symm, (), (.c rfl (.c rfl (.c rfl .n))), ⟨hp, r_3a, o_3g, tb⟩⟩
                ·
                  have q_6z := cond_f q_6z hc
                  apply go
                  have q_7g := congrArg some (q_70 _ (Option.some.inj q_6z).symm)
                  obtain rfl := Option.some.inj q_7g
                  have hp := hp.sel [] (by decide)
                  exact ⟨(), .n, rfl, hp, tb⟩
              ·
                rintro ⟨⟩ w_7h ⟨hy, hp, tb⟩
                replace hy := hy.symm
                subst hy
                apply go
                apply go
                apply go
                obtain rfl := Option.some.inj h
                exact ⟨rfl, hp.ch⟩

end Go.Proofs.YthhghkcopfnbiaaGreatDoor
