/-
  Each function of the program computes the plain function of its name.
-/
import Derived.Test.YtkhmdpekfcahkaaDoorFactsA
import Derived.Lib.Builder
import Derived.WalkKit
import Derived.Laws.Externs
import Derived.Test.YtkhmdpekfcahkaaDoorWalkA
namespace Go.Proofs.YtkhmdpekfcahkaaDoor
open Go Go.Proofs.YtkhmdpekfcahkaaDoor.Gw Go.RowKit
set_option linter.unusedVariables false
attribute [local irreducible] Ev EvQ EvS EvH
def strings_Builder_copyCheck_S (f : Builder → Option Builder) : Prop := ∀ (w0 : World) (I0 : Nat → Prop) (x_0 : Builder) (g_1 : Nat) (E_2 : List Ent) (q_3 : qB w0 I0 g_1 E_2 x_0) (hp : Hp ⟨w0, I0, blks E_2⟩ I0 E_2 w0) (r : Builder), f x_0 = some r →
    Ret Tryd.prog 35 #[(.pointer (some ⟨g_1, 0, none⟩))] w0 fun v w1 => ∃ (I1 : Nat → Prop) (u_4 : List Ent), v = (.tuple #[]) ∧ Hp ⟨w0, I0, blks E_2⟩ I1 u_4 w1 ∧ qB w1 I1 g_1 u_4 r

theorem cc_info : ∃ j, Tryd.prog.info? 51 = some j ∧ j.size = 2 :=
  Option.map_eq_some_iff.1 (show (Tryd.prog.info? 51).map (·.size) = some 2 by kernel_rfl)
set_option maxHeartbeats 1000000 in
set_option maxRecDepth 100000 in
theorem cc_used (b : Nat) (w : World) (h0 : w.cell? ⟨b, 0, none⟩ = some (.pointer (some ⟨b, 0, none⟩))) :
    Calls Tryd.prog 35 #[.pointer (some ⟨b, 0, none⟩)] w fun e w' => e = .returned (.tuple #[]) ∧ w' = w := by
  obtain ⟨j, hj, _⟩ := cc_info
  go_enter Tryd.func35, Tryd.ntmps35
  go_wp2
  rw [Lib.run_neq_ptr_same w _ Tryd.underlying48 hj]
  go_wp2
  go_end0
  exact ⟨rfl, rfl⟩
set_option maxHeartbeats 1000000 in
set_option maxRecDepth 100000 in
theorem cc_fresh (b : Nat) (w : World) (h0 : w.cell? ⟨b, 0, none⟩ = some (.pointer none)) (hsh : w.shape? b = some (51, 2)) (hfz : w.frozen? ⟨b, 0, none⟩ = false) :
    Calls Tryd.prog 35 #[.pointer (some ⟨b, 0, none⟩)] w fun e w' => e = .returned (.tuple #[]) ∧ w' = w.setCell ⟨b, 0, none⟩ (.pointer (some ⟨b, 0, none⟩)) := by
  obtain ⟨j, hj, hjs⟩ := cc_info
  go_enter Tryd.func35, Tryd.ntmps35
  go_wp2
  rw [Lib.run_to_unsafe w ⟨b, 0, none⟩ Tryd.underlying48 Tryd.underlying85 hj (by rw [hjs]; decide) hsh (Nat.zero_lt_succ 1)]
  simp only [Result.andThen]
  rw [Oper.upon_value]
  go_wp2
  rw [run_callFunc_extern Tryd.func43 (by kernel_rfl) (by kernel_rfl) (by kernel_rfl) (e := Extern.AbiNoEscape.same) (by kernel_rfl)]
  rw [Lib.run_noEscape]
  simp only [Result.andThen]
  rw [Oper.upon_value]
  go_wp2
  rw [Lib.run_from_unsafe w ⟨b, 0, none⟩ Tryd.underlying85 Tryd.underlying48 hj hsh (by kernel_rfl)]
  simp only [Result.andThen]
  rw [Oper.upon_value]
  go_wp2
  go_end0
  exact ⟨rfl, rfl⟩
theorem strings_Builder_copyCheck_ok (n : Nat) : strings_Builder_copyCheck_S (strings_Builder_copyCheck n) := by
  intro w0 I0 x g E q hp r h
  obtain rfl := Option.some.inj h
  obtain ⟨va, v, e, rfl, hs, ho⟩ := q
  have hh : w0.heap[g]? = some (.cells [va, v].toArray 51 (0, 0)) := (hp.own 0 g _ _ rfl).1
  rcases hs with rfl | rfl
  · refine Calls.mono (cc_fresh g w0 ?_ ?_ ?_) ?_
    · simp [World.cell?, hh]
    · simp only [World.shape?, hh]; rfl
    · simp [World.frozen?, hh]
    · rintro ev w1 ⟨rfl, rfl⟩
      have hp2 := hp.set (i := 0) (cs' := [.pointer (some ⟨g, 0, none⟩), v]) (w' := w0.setCell ⟨g, 0, none⟩ (.pointer (some ⟨g, 0, none⟩))) rfl (by simp [World.setCell]) rfl rfl rfl
        (by simp [World.setCell, Array.getElem?_modify, hh]) (fun k hk => by simp only [World.setCell, Array.getElem?_modify]; rw [if_neg (fun e0 => hk e0.symm)])
      exact ⟨_, rfl, I0, _, rfl, hp2.1, _, _, _, rfl, .inr rfl, ho.step hp2.2⟩
  · refine Calls.mono (cc_used g w0 ?_) ?_
    · simp [World.cell?, hh]
    · rintro ev w1 ⟨rfl, rfl⟩
      exact ⟨_, rfl, I0, _, rfl, hp, _, _, _, rfl, .inr rfl, ho⟩

end Go.Proofs.YtkhmdpekfcahkaaDoor

namespace Go.Proofs.YtkhmdpekfcahkaaDoor
open Go Go.Proofs.YtkhmdpekfcahkaaDoor.Gw Go.RowKit
set_option linter.unusedVariables false
attribute [local irreducible] Ev EvQ EvS EvH
def strings_Builder_WriteByte_S (f : Builder → Int → Option (Unit × Builder)) : Prop := ∀ (w0 : World) (I0 : Nat → Prop) (x_0 : Builder) (g_1 : Nat) (E_2 : List Ent) (q_3 : qB w0 I0 g_1 E_2 x_0) (x_4 : Int) (hp : Hp ⟨w0, I0, blks E_2⟩ I0 E_2 w0) (r : (Unit × Builder)), f x_0 x_4 = some r →
    Ret Tryd.prog 26 #[(.pointer (some ⟨g_1, 0, none⟩)), (.int .u8 x_4)] w0 fun v w1 => ∃ (I1 : Nat → Prop) (u_5 : List Ent), v = .nilIface ∧ Hp ⟨w0, I0, blks E_2⟩ I1 u_5 w1 ∧ qB w1 I1 g_1 u_5 r.2
theorem strings_Builder_WriteByte_ok (n : Nat) : strings_Builder_WriteByte_S (strings_Builder_WriteByte n) := by
  intro w0 I0 x_0 g_1 E_2 q_3 x_4 hp r h
  unfold strings_Builder_WriteByte at h
  refine enter Tryd.func26 rfl (Nat.le_of_ble_eq_true rfl) ?_
  generalize blks E_2 = B at hp ⊢
  obtain ⟨v_5, v_6, e_7, rfl, z_8, o_9⟩ := q_3
  have hp : Hp ⟨w0, I0, B⟩ I0 [some (g_1, [v_5, v_6], 51), e_7] w0 := hp
  apply go
  apply go
  apply go
  apply go
  obtain ⟨x_a, q_b, h⟩ := bind_some h
  refine ev_call rfl rfl C35 (((strings_Builder_copyCheck_ok n) _ _  (Builder.mk () x_0.buf) g_1 [some (g_1, [v_5, v_6], 51), e_7] ⟨v_5, v_6, e_7, rfl, z_8, o_9⟩ (hp.lendL [0, 1] (by decide)) _ q_b).mono ?_)
  rintro _ w_c ⟨I_d, F_e, hv, hq7398, q_f⟩
  replace hv := hv.symm
  subst hv
  obtain ⟨v_g, v_h, e_i, rfl, z_j, o_k⟩ := q_f
  have hs := hq7398.st
  have hp := hp.backL [0, 1] [] (by decide) hq7398
  apply go
  apply go
  refine ev0 (rn_field rfl rfl FO51_1) ?_
  refine ev (rn_load rfl rfl (run_loadVar1 T49 (hp.cell (i := 0) (off := 1) rfl rfl))) ?_
  refine ev_litN (d := (dI .u8)) (xs := [x_4]) (cs := [(.int .u8 x_4)]) hp rfl rfl Tryd.underlying49 T5 (by decide) rfl rfl (Elems.cons (d := (dI .u8)) (xs := _) rfl (Elems.nil _ _ _ _)) ?_
  intro v_l I_m w_n hp hs r_o
  replace o_k := o_k.step hs
  obtain ⟨x_p, q_q, h⟩ := bind_some h
  refine ev_append hp (i := 1) rfl rfl rfl rfl Tryd.underlying49 T5 rfl rfl o_k r_o q_q ?_
  rintro v_r e_s w_t hp hs o_u
  replace o_k := o_k.step hs
  refine ev0 (rn_field rfl rfl FO51_1) ?_
  refine ev_store1 hp (i := 0) (off := 1) rfl rfl rfl rfl T49 o_u.one (Nat.le_of_ble_eq_true rfl) ?_
  intro w_v hp hs
  replace o_u := o_u.step hs
  apply go
  apply go
  apply go
  obtain rfl := Option.some.inj h
  exact ⟨I_m, [some (g_1, [v_g, v_r], 51), e_s], rfl, hp, ⟨v_g, v_r, e_s, rfl, z_j, o_u⟩⟩

end Go.Proofs.YtkhmdpekfcahkaaDoor

namespace Go.Proofs.YtkhmdpekfcahkaaDoor
open Go Go.Proofs.YtkhmdpekfcahkaaDoor.Gw Go.RowKit
set_option linter.unusedVariables false
attribute [local irreducible] Ev EvQ EvS EvH
def tree_letter_S (f : Int → Option Int) : Prop := ∀ (w0 : World) (I0 : Nat → Prop) (x_0 : Int) (hI : ∀ g, I0 g → g < w0.heap.size) (r : Int), f x_0 = some r →
    Ret Tryd.prog 27 #[(.int .i64 x_0)] w0 fun v w1 => v = (.int .u8 r) ∧ Ch [] w0 w1
theorem tree_letter_ok (n : Nat) : tree_letter_S (tree_letter n) := by
  intro w0 I0 x_0 hI r h
  unfold tree_letter at h
  refine enter Tryd.func27 rfl (Nat.le_of_ble_eq_true rfl) ?_
  have hp : Hp ⟨w0, I0, []⟩ I0 [] w0 := Hp.start hI
  apply go
  apply go
  apply go
  apply go
  obtain ⟨x_1, q_2, h⟩ := bind_some h
  refine ev0 (rn_indexS rfl rfl rfl Tryd.underlying9 q_2) ?_
  apply go
  obtain rfl := Option.some.inj h
  exact ⟨rfl, hp.ch⟩

end Go.Proofs.YtkhmdpekfcahkaaDoor

namespace Go.Proofs.YtkhmdpekfcahkaaDoor
open Go Go.Proofs.YtkhmdpekfcahkaaDoor.Gw Go.RowKit
set_option linter.unusedVariables false
attribute [local irreducible] Ev EvQ EvS EvH
def strings_Builder_WriteString_S (f : Builder → ByteArray → Option (Int × Unit × Builder)) : Prop := ∀ (w0 : World) (I0 : Nat → Prop) (x_0 : Builder) (g_1 : Nat) (E_2 : List Ent) (q_3 : qB w0 I0 g_1 E_2 x_0) (x_4 : ByteArray) (hp : Hp ⟨w0, I0, blks E_2⟩ I0 E_2 w0) (r : (Int × Unit × Builder)), f x_0 x_4 = some r →
    Ret Tryd.prog 28 #[(.pointer (some ⟨g_1, 0, none⟩)), (.string x_4)] w0 fun v w1 => ∃ (I1 : Nat → Prop) (u_5 : List Ent), v = (.tuple #[(.int .i64 r.1), .nilIface]) ∧ Hp ⟨w0, I0, blks E_2⟩ I1 u_5 w1 ∧ qB w1 I1 g_1 u_5 r.2.2
theorem strings_Builder_WriteString_ok (n : Nat) : strings_Builder_WriteString_S (strings_Builder_WriteString n) := by
  intro w0 I0 x_0 g_1 E_2 q_3 x_4 hp r h
  unfold strings_Builder_WriteString at h
  refine enter Tryd.func28 rfl (Nat.le_of_ble_eq_true rfl) ?_
  generalize blks E_2 = B at hp ⊢
  obtain ⟨v_5, v_6, e_7, rfl, z_8, o_9⟩ := q_3
  have hp : Hp ⟨w0, I0, B⟩ I0 [some (g_1, [v_5, v_6], 51), e_7] w0 := hp
  apply go
  apply go
  apply go
  apply go
  obtain ⟨x_a, q_b, h⟩ := bind_some h
  refine ev_call rfl rfl C35 (((strings_Builder_copyCheck_ok n) _ _  (Builder.mk () x_0.buf) g_1 [some (g_1, [v_5, v_6], 51), e_7] ⟨v_5, v_6, e_7, rfl, z_8, o_9⟩ (hp.lendL [0, 1] (by decide)) _ q_b).mono ?_)
  rintro _ w_c ⟨I_d, F_e, hv, hq7433, q_f⟩
  replace hv := hv.symm
  subst hv
  obtain ⟨v_g, v_h, e_i, rfl, z_j, o_k⟩ := q_f
  have hs := hq7433.st
  have hp := hp.backL [0, 1] [] (by decide) hq7433
  apply go
  apply go
  refine ev0 (rn_field rfl rfl FO51_1) ?_
  refine ev (rn_load rfl rfl (run_loadVar1 T49 (hp.cell (i := 0) (off := 1) rfl rfl))) ?_
  obtain ⟨x_l, q_m, h⟩ := bind_some h
  refine ev_appendS hp (i := 1) rfl rfl rfl rfl Tryd.underlying49 Tryd.underlying9 T5 o_k q_m ?_
  rintro v_n e_o w_p hp hs o_q
  replace o_k := o_k.step hs
  refine ev0 (rn_field rfl rfl FO51_1) ?_
  refine ev_store1 hp (i := 0) (off := 1) rfl rfl rfl rfl T49 o_q.one (Nat.le_of_ble_eq_true rfl) ?_
  intro w_r hp hs
  replace o_q := o_q.step hs
  apply go
  apply go
  refine ev0 (rn_lenS rfl rfl Tryd.underlying9) ?_
  apply go
  obtain rfl := Option.some.inj h
  exact ⟨I_d, [some (g_1, [v_g, v_n], 51), e_o], rfl, hp, ⟨v_g, v_n, e_o, rfl, z_j, o_q⟩⟩

end Go.Proofs.YtkhmdpekfcahkaaDoor

namespace Go.Proofs.YtkhmdpekfcahkaaDoor
open Go Go.Proofs.YtkhmdpekfcahkaaDoor.Gw Go.RowKit
set_option linter.unusedVariables false
attribute [local irreducible] Ev EvQ EvS EvH
def strconv_Itoa_S (f : Int → Option ByteArray) : Prop := ∀ (w0 : World) (I0 : Nat → Prop) (tb : Tb w0 I0 0 .u64 pow10) (x_0 : Int) (hI : ∀ g, I0 g → g < w0.heap.size) (r : ByteArray), f x_0 = some r →
    Ret Tryd.prog 29 #[(.int .i64 x_0)] w0 fun v w1 => v = (.string r) ∧ Ch [] w0 w1

theorem strconv_Itoa_ok (n : Nat) : strconv_Itoa_S (strconv_Itoa n) := by
  intro w0 I0 tb x hI r h
  unfold strconv_Itoa at h
  split at h
  · rename_i hx
    obtain rfl := Option.some.inj h
    apply ret_below
    refine Calls.mono (sh_strconv_Itoa x hx.1 hx.2 w0 (tb.tab (zs := Lib.pow10Tab) (by kernel_rfl))) ?_
    rintro e w1 ⟨rfl, k, os, rfl⟩
    exact ⟨rfl, below_grow w0 k os⟩
  · cases h

end Go.Proofs.YtkhmdpekfcahkaaDoor

namespace Go.Proofs.YtkhmdpekfcahkaaDoor
open Go Go.Proofs.YtkhmdpekfcahkaaDoor.Gw Go.RowKit
set_option linter.unusedVariables false
attribute [local irreducible] Ev EvQ EvS EvH
def tree_write_S (f : Builder → Node → Option Builder) : Prop := ∀ (w0 : World) (I0 : Nat → Prop) (tb : Tb w0 I0 0 .u64 pow10) (x_0 : Builder) (g_1 : Nat) (E_2 : List Ent) (q_3 : qB w0 I0 g_1 E_2 x_0) (x_4 : Node) (v_5 : Value) (r_6 : RepS dNode w0 I0 v_5 x_4.Kids) (hp : Hp ⟨w0, I0, blks E_2⟩ I0 E_2 w0) (r : Builder), f x_0 x_4 = some r →
    Ret Tryd.prog 17 #[(.pointer (some ⟨g_1, 0, none⟩)), (.agg #[(.int .i64 x_4.Kind), (.int .i64 x_4.Name), (.int .i64 x_4.Count), v_5])] w0 fun v w1 => ∃ (I1 : Nat → Prop) (u_7 : List Ent), v = (.tuple #[]) ∧ Hp ⟨w0, I0, blks E_2⟩ I1 u_7 w1 ∧ qB w1 I1 g_1 u_7 r
theorem tree_write_F_ok (n : Nat) (self : Builder → Node → Option Builder) (ih : tree_write_S self) : tree_write_S (tree_write_F n self) := by
  intro w0 I0 tb x_0 g_1 E_2 q_3 x_4 v_5 r_6 hp r h
  unfold tree_write_F at h
  refine enter Tryd.func17 rfl (Nat.le_of_ble_eq_true rfl) ?_
  generalize blks E_2 = B at hp ⊢
  obtain ⟨v_7, v_8, e_9, rfl, z_a, o_b⟩ := q_3
  have hp : Hp ⟨w0, I0, B⟩ I0 [some (g_1, [v_7, v_8], 51), e_9] w0 := hp
  apply go
  apply go
  refine ev_boxI hp rfl rfl ?_
  intro p_c I_d w_e hp hs a_f
  replace r_6 := r_6.step hs
  replace o_b := o_b.step hs
  replace tb := tb.step hs
  apply go
  obtain ⟨y_g, q_h, h⟩ := bind_some h
  refine W.cut (γ := Bool) (fun g => [(0, (.pointer (some ⟨g_1, 0, none⟩))), (3, (.pointer (some (p_c)))), (13, (.bool (g)))]) (fun g w' => y_g = (g) ∧ w_e = w') ?_ ?_
  ·
    apply go
    refine ev0 (rn_field rfl rfl FO26_0) ?_
    refine ev (rn_load rfl rfl (run_loadVar1 T3 (a_f.2 0 _ rfl))) ?_
    refine sel_of (fun hc => ?_) (fun hc => ?_)
    ·
      have q_h := cond_t q_h hc
      obtain rfl := Option.some.inj q_h
      exact ⟨true, (.c rfl (.c rfl (.c rfl .n))), rfl, rfl⟩
    ·
      have q_h := cond_f q_h hc
      refine ev0 (rn_field rfl rfl FO26_0) ?_
      refine ev (rn_load rfl rfl (run_loadVar1 T3 (a_f.2 0 _ rfl))) ?_
      obtain rfl := Option.some.inj q_h
      exact ⟨(x_4.Kind == 2), (.c rfl (.c rfl (.c rfl .n))), rfl, rfl⟩
  ·
    rintro x_i _ ⟨hy, rfl⟩
    replace hy := hy.symm
    subst hy
    apply go
    refine sel_of (fun hc => ?_) (fun hc => ?_)
    ·
      have h := cond_t h hc
      apply go
      apply go
      refine ev0 (rn_field rfl rfl FO26_0) ?_
      refine ev (rn_load rfl rfl (run_loadVar1 T3 (a_f.2 0 _ rfl))) ?_
      obtain ⟨x_j, q_k, h⟩ := bind_some h
      refine ev_call rfl rfl C27 (((tree_letter_ok n) _ _  x_4.Kind hp.imm _ q_k).mono ?_)
      rintro _ w_l ⟨rfl, hc⟩
      have hs := hp.stp hc
      replace hp := hp.ext hc
      replace a_f := a_f.step hs
      replace r_6 := r_6.step hs
      replace o_b := o_b.step hs
      replace tb := tb.step hs
      obtain ⟨⟨x_m, x_n⟩, q_o, h⟩ := bind_some h
      refine ev_call rfl rfl C26 (((strings_Builder_WriteByte_ok n) _ _  (Builder.mk () x_0.buf) g_1 [some (g_1, [v_7, v_8], 51), e_9] ⟨v_7, v_8, e_9, rfl, z_a, o_b⟩ x_j (hp.lendL [0, 1] (by decide)) _ q_o).mono ?_)
      rintro _ w_p ⟨I_q, F_r, hv, hq7477, q_s⟩
      replace hv := hv.symm
      subst hv
      obtain ⟨v_t, v_u, e_v, rfl, z_w, o_x⟩ := q_s
      have hs := hq7477.st
      have hp := hp.backL [0, 1] [] (by decide) hq7477
      replace a_f := a_f.step hs
      replace r_6 := r_6.step hs
      replace tb := tb.step hs
      apply go
      apply go
      refine ev0 (rn_field rfl rfl FO26_1) ?_
      refine ev (rn_load rfl rfl (run_loadVar1 T3 (a_f.2 1 _ rfl))) ?_
      obtain ⟨x_y, q_z, h⟩ := bind_some h
      refine ev_call rfl rfl C29 (((strconv_Itoa_ok n) _ _ tb x_4.Name hp.imm _ q_z).mono ?_)
      rintro _ w_10 ⟨rfl, hc⟩
      have hs := hp.stp hc
      replace hp := hp.ext hc
      replace o_x := o_x.step hs
      replace tb := tb.step hs
      obtain ⟨⟨x_11, x_12, x_13⟩, q_14, h⟩ := bind_some h
      refine ev_call rfl rfl C28 (((strings_Builder_WriteString_ok n) _ _  (Builder.mk () x_n.buf) g_1 [some (g_1, [v_t, v_u], 51), e_v] ⟨v_t, v_u, e_v, rfl, z_w, o_x⟩ x_y (hp.lendL [0, 1] (by decide)) _ q_14).mono ?_)
      rintro _ w_15 ⟨I_16, F_17, hv, hq7494, q_18⟩
      replace hv := hv.symm
      subst hv
      obtain ⟨v_19, v_1a, e_1b, rfl, z_1c, o_1d⟩ := q_18
      have hs := hq7494.st
      have hp := hp.backL [0, 1] [] (by decide) hq7494
      replace tb := tb.step hs
      apply go
      obtain rfl := Option.some.inj h
      exact ⟨I_16, [some (g_1, [v_19, v_1a], 51), e_1b], rfl, hp, ⟨v_19, v_1a, e_1b, rfl, z_1c, o_1d⟩⟩
    ·
      have h := cond_f h hc
      apply go
      apply go
      apply go
      obtain ⟨⟨x_1e, x_1f⟩, q_1g, h⟩ := bind_some h
      refine ev_call rfl rfl C26 (((strings_Builder_WriteByte_ok n) _ _  (Builder.mk () x_0.buf) g_1 [some (g_1, [v_7, v_8], 51), e_9] ⟨v_7, v_8, e_9, rfl, z_a, o_b⟩ 40 (hp.lendL [0, 1] (by decide)) _ q_1g).mono ?_)
      rintro _ w_1h ⟨I_1i, F_1j, hv, hq7507, q_1k⟩
      replace hv := hv.symm
      subst hv
      obtain ⟨v_1l, v_1m, e_1n, rfl, z_1o, o_1p⟩ := q_1k
      have hs := hq7507.st
      have hp := hp.backL [0, 1] [] (by decide) hq7507
      replace a_f := a_f.step hs
      replace r_6 := r_6.step hs
      replace tb := tb.step hs
      apply go
      apply go
      refine ev0 (rn_field rfl rfl FO26_0) ?_
      refine ev (rn_load rfl rfl (run_loadVar1 T3 (a_f.2 0 _ rfl))) ?_
      obtain ⟨x_1q, q_1r, h⟩ := bind_some h
      refine ev_call rfl rfl C27 (((tree_letter_ok n) _ _  x_4.Kind hp.imm _ q_1r).mono ?_)
      rintro _ w_1s ⟨rfl, hc⟩
      have hs := hp.stp hc
      replace hp := hp.ext hc
      replace a_f := a_f.step hs
      replace r_6 := r_6.step hs
      replace o_1p := o_1p.step hs
      replace tb := tb.step hs
      obtain ⟨⟨x_1t, x_1u⟩, q_1v, h⟩ := bind_some h
      refine ev_call rfl rfl C26 (((strings_Builder_WriteByte_ok n) _ _  (Builder.mk () x_1f.buf) g_1 [some (g_1, [v_1l, v_1m], 51), e_1n] ⟨v_1l, v_1m, e_1n, rfl, z_1o, o_1p⟩ x_1q (hp.lendL [0, 1] (by decide)) _ q_1v).mono ?_)
      rintro _ w_1w ⟨I_1x, F_1y, hv, hq7523, q_1z⟩
      replace hv := hv.symm
      subst hv
      obtain ⟨v_20, v_21, e_22, rfl, z_23, o_24⟩ := q_1z
      have hs := hq7523.st
      have hp := hp.backL [0, 1] [] (by decide) hq7523
      replace a_f := a_f.step hs
      replace r_6 := r_6.step hs
      replace tb := tb.step hs
      obtain ⟨y_25, q_26, h⟩ := bind_some h
      refine W.cut (γ := ((List Int) × Value × Value × Ent × (Nat → Prop))) (fun g => [(0, (.pointer (some ⟨g_1, 0, none⟩))), (3, (.pointer (some (p_c))))]) (fun g w' => y_25 = (g.1) ∧ Hp ⟨w0, I0, B⟩ (g.2.2.2.2) [(g.2.2.2.1), some (g_1, [(g.2.1), (g.2.2.1)], 51)] w' ∧ SelfP g_1 (g.2.1) ∧ OwnS (dI .u8) 5 w' (g.2.2.2.2) (g.2.2.1) (g.2.2.2.1) (g.1) ∧ RepS dNode w' (g.2.2.2.2) v_5 x_4.Kids ∧ At w' (g.2.2.2.2) p_c [(.int .i64 x_4.Kind), (.int .i64 x_4.Name), (.int .i64 x_4.Count), v_5] ∧ Tb w' (g.2.2.2.2) 0 .u64 pow10) ?_ ?_
      ·
        apply go
        apply go
        refine ev0 (rn_field rfl rfl FO26_2) ?_
        refine ev (rn_load rfl rfl (run_loadVar1 T3 (a_f.2 2 _ rfl))) ?_
        apply go
        refine sel_of (fun hc => ?_) (fun hc => ?_)
        ·
          have q_26 := cond_t q_26 hc
          apply go
          refine ev0 (rn_field rfl rfl FO26_2) ?_
          refine ev (rn_load rfl rfl (run_loadVar1 T3 (a_f.2 2 _ rfl))) ?_
          obtain ⟨x_27, q_28, q_26⟩ := bind_some q_26
          refine ev_call rfl rfl C29 (((strconv_Itoa_ok n) _ _ tb x_4.Count hp.imm _ q_28).mono ?_)
          rintro _ w_29 ⟨rfl, hc⟩
          have hs := hp.stp hc
          replace hp := hp.ext hc
          replace a_f := a_f.step hs
          replace r_6 := r_6.step hs
          replace o_24 := o_24.step hs
          replace tb := tb.step hs
          obtain ⟨⟨x_2a, x_2b, x_2c⟩, q_2d, q_26⟩ := bind_some q_26
          refine ev_call rfl rfl C28 (((strings_Builder_WriteString_ok n) _ _  (Builder.mk () x_1u.buf) g_1 [some (g_1, [v_20, v_21], 51), e_22] ⟨v_20, v_21, e_22, rfl, z_23, o_24⟩ x_27 (hp.lendL [0, 1] (by decide)) _ q_2d).mono ?_)
          rintro _ w_2e ⟨I_2f, F_2g, hv, hq7567, q_2h⟩
          replace hv := hv.symm
          subst hv
          obtain ⟨v_2i, v_2j, e_2k, rfl, z_2l, o_2m⟩ := q_2h
          have hs := hq7567.st
          have hp := hp.backL [0, 1] [] (by decide) hq7567
          replace a_f := a_f.step hs
          replace r_6 := r_6.step hs
          replace tb := tb.step hs
          obtain rfl := Option.some.inj q_26
          have hp := hp.perm [1, 0] (by decide)
          exact ⟨(x_2c.buf, v_2i, v_2j, e_2k, I_2f), (.c rfl (.c rfl .n)), rfl, hp, z_2l, o_2m, r_6, a_f, tb⟩
        ·
          have q_26 := cond_f q_26 hc
          apply go
          obtain rfl := Option.some.inj q_26
          have hp := hp.perm [1, 0] (by decide)
          exact ⟨(x_1u.buf, v_20, v_21, e_22, I_1x), (.c rfl (.c rfl .n)), rfl, hp, z_23, o_24, r_6, a_f, tb⟩
      ·
        rintro ⟨x_2n, v_2o, v_2p, e_2q, I_2r⟩ w_2s ⟨hy, hp, z_2t, o_2u, r_6, a_f, tb⟩
        replace hy := hy.symm
        subst hy
        obtain ⟨y_2v, q_2w, h⟩ := bind_some h
        refine W.cut (γ := ((List Int) × Value × Value × Ent × (Nat → Prop))) (fun g => [(0, (.pointer (some ⟨g_1, 0, none⟩)))]) (fun g w' => y_2v = (g.1) ∧ Hp ⟨w0, I0, B⟩ (g.2.2.2.2) [(g.2.2.2.1), some (g_1, [(g.2.1), (g.2.2.1)], 51)] w' ∧ SelfP g_1 (g.2.1) ∧ OwnS (dI .u8) 5 w' (g.2.2.2.2) (g.2.2.1) (g.2.2.2.1) (g.1) ∧ Tb w' (g.2.2.2.2) 0 .u64 pow10) ?_ ?_
        ·
          apply go
          apply go
          refine ev0 (rn_field rfl rfl FO26_3) ?_
          refine ev (rn_load rfl rfl (run_loadVar1 T24 (a_f.2 3 _ rfl))) ?_
          refine ev0 (rn_len rfl rfl Tryd.underlying24 r_6) ?_
          apply go
          refine W.loop q_2w (γ := (Value × Value × Ent × (Nat → Prop))) (fun s g => [(0, (.pointer (some ⟨g_1, 0, none⟩))), (40, v_5), (41, (.int .i64 (x_4.Kids.length : Int))), (42, (.int .i64 (s.2)))]) (fun s g w' => Hp ⟨w0, I0, B⟩ (g.2.2.2) [(g.2.2.1), some (g_1, [(g.1), (g.2.1)], 51)] w' ∧ SelfP g_1 (g.1) ∧ OwnS (dI .u8) 5 w' (g.2.2.2) (g.2.1) (g.2.2.1) (s.1) ∧ RepS dNode w' (g.2.2.2) v_5 x_4.Kids ∧ Tb w' (g.2.2.2) 0 .u64 pow10) (v_2o, v_2p, e_2q, I_2r) (.c rfl (.c rfl (.c rfl (.c rfl .n)))) ⟨hp, z_2t, o_2u, r_6, tb⟩ ?_
          rintro ⟨x_2x, x_2y⟩ ⟨v_2z, v_30, e_31, I_32⟩ w_33 y_34 ⟨hp, z_35, o_36, r_6, tb⟩ q_37 q_38
          unfold tree_write_L1 at q_37
          apply go
          apply go
          apply go
          apply go
          refine sel_of (fun hc => ?_) (fun hc => ?_)
          ·
            have q_37 := cond_t q_37 hc
            apply go
            apply go
            apply go
            apply go
            apply go
            obtain ⟨x_39, q_3a, q_37⟩ := bind_some q_37
            refine ev_index rfl rfl rfl Tryd.underlying24 T26 r_6 q_3a ?_
            intro p_3b c_3c d_3d a_3e
            obtain ⟨v_3f, rfl, r_3g⟩ := dNode_o d_3d
            refine ev (rn_load rfl rfl (run_loadVarA T26 rfl a_3e)) ?_
            refine ev_alloc hp rfl T26 ?_
            intro g_3h w_3i hp hs
            replace r_6 := r_6.step hs
            replace r_3g := r_3g.step hs
            replace o_36 := o_36.step hs
            replace tb := tb.step hs
            refine ev_storeA hp (i := 0) (off := 0) (vs := [(.int .i64 x_39.Kind), (.int .i64 x_39.Name), (.int .i64 x_39.Count), v_3f]) rfl rfl rfl rfl T26 rfl (Nat.le_of_ble_eq_true rfl) (ones_cons rfl (ones_cons rfl (ones_cons rfl (ones_cons r_3g.one ones_nil)))) ?_
            intro w_3j hp hs
            replace r_6 := r_6.step hs
            replace r_3g := r_3g.step hs
            replace o_36 := o_36.step hs
            replace tb := tb.step hs
            apply go
            apply go
            obtain ⟨⟨x_3k, x_3l⟩, q_3m, q_37⟩ := bind_some q_37
            refine ev_call rfl rfl C26 (((strings_Builder_WriteByte_ok n) _ _  (Builder.mk () x_2x) g_1 [some (g_1, [v_2z, v_30], 51), e_31] ⟨v_2z, v_30, e_31, rfl, z_35, o_36⟩ 32 (hp.lendL [2, 1] (by decide)) _ q_3m).mono ?_)
            rintro _ w_3n ⟨I_3o, F_3p, hv, hq7822, q_3q⟩
            replace hv := hv.symm
            subst hv
            obtain ⟨v_3r, v_3s, e_3t, rfl, z_3u, o_3v⟩ := q_3q
            have hs := hq7822.st
            have hp := hp.backL [2, 1] [0] (by decide) hq7822
            replace r_6 := r_6.step hs
            replace r_3g := r_3g.step hs
            replace tb := tb.step hs
            apply go
            refine ev (rn_load rfl rfl (run_loadVarA T26 rfl (hp.at_ (i := 2) rfl))) ?_
            obtain ⟨x_3w, q_3x, q_37⟩ := bind_some q_37
            refine ev_call rfl rfl C17 ((ih _ _ tb (Builder.mk () x_3l.buf) g_1 [some (g_1, [v_3r, v_3s], 51), e_3t] ⟨v_3r, v_3s, e_3t, rfl, z_3u, o_3v⟩ (Node.mk x_39.Kind x_39.Name x_39.Count x_39.Kids) v_3f r_3g (hp.lendL [0, 1] (by decide)) _ q_3x).mono ?_)
            rintro _ w_3y ⟨I_3z, F_40, hv, hq7834, q_41⟩
            replace hv := hv.symm
            subst hv
            obtain ⟨v_42, v_43, e_44, rfl, z_45, o_46⟩ := q_41
            have hs := hq7834.st
            have hp := hp.backL [0, 1] [2] (by decide) hq7834
            replace r_6 := r_6.step hs
            replace r_3g := r_3g.step hs
            replace tb := tb.step hs
            apply go
            have hp := hp.perm [1, 0] (by decide)
            exact ⟨_, (Option.some.inj q_37).symm, (v_42, v_43, e_44, I_3z), (.c rfl (.c rfl (.c rfl (.c rfl .n)))), ⟨hp, z_45, o_46, r_6, tb⟩⟩
          ·
            have q_37 := cond_f q_37 hc
            apply go
            have q_47 := congrArg some (q_38 _ (Option.some.inj q_37).symm)
            obtain rfl := Option.some.inj q_47
            exact ⟨(x_2x, v_2z, v_30, e_31, I_32), (.c rfl .n), rfl, hp, z_35, o_36, tb⟩
        ·
          rintro ⟨x_48, v_49, v_4a, e_4b, I_4c⟩ w_4d ⟨hy, hp, z_4e, o_4f, tb⟩
          replace hy := hy.symm
          subst hy
          apply go
          obtain ⟨⟨x_4g, x_4h⟩, q_4i, h⟩ := bind_some h
          refine ev_call rfl rfl C26 (((strings_Builder_WriteByte_ok n) _ _  (Builder.mk () x_48) g_1 [some (g_1, [v_49, v_4a], 51), e_4b] ⟨v_49, v_4a, e_4b, rfl, z_4e, o_4f⟩ 41 (hp.lendL [1, 0] (by decide)) _ q_4i).mono ?_)
          rintro _ w_4j ⟨I_4k, F_4l, hv, hq7848, q_4m⟩
          replace hv := hv.symm
          subst hv
          obtain ⟨v_4n, v_4o, e_4p, rfl, z_4q, o_4r⟩ := q_4m
          have hs := hq7848.st
          have hp := hp.backL [1, 0] [] (by decide) hq7848
          replace tb := tb.step hs
          obtain rfl := Option.some.inj h
          exact ⟨I_4k, [some (g_1, [v_4n, v_4o], 51), e_4p], rfl, hp, ⟨v_4n, v_4o, e_4p, rfl, z_4q, o_4r⟩⟩
theorem tree_write_ok : ∀ n, tree_write_S (tree_write n)
  | 0 => by intro w0 I0 tb x_0 g_1 E_2 q_3 x_4 v_5 r_6 hp r h; cases h
  | n + 1 => tree_write_F_ok n _ (tree_write_ok n)

end Go.Proofs.YtkhmdpekfcahkaaDoor

namespace Go.Proofs.YtkhmdpekfcahkaaDoor
open Go Go.Proofs.YtkhmdpekfcahkaaDoor.Gw Go.RowKit
set_option linter.unusedVariables false
attribute [local irreducible] Ev EvQ EvS EvH
def tree_Text_S (f : Node → Option ByteArray) : Prop := ∀ (w0 : World) (I0 : Nat → Prop) (tb : Tb w0 I0 0 .u64 pow10) (x_0 : Node) (v_1 : Value) (r_2 : RepS dNode w0 I0 v_1 x_0.Kids) (hI : ∀ g, I0 g → g < w0.heap.size) (r : ByteArray), f x_0 = some r →
    Ret Tryd.prog 8 #[(.agg #[(.int .i64 x_0.Kind), (.int .i64 x_0.Name), (.int .i64 x_0.Count), v_1])] w0 fun v w1 => v = (.string r) ∧ Ch [] w0 w1

theorem CBuilderString : CF Tryd.prog 18 := ⟨_, Tryd.func18, rfl, by kernel_rfl⟩
theorem TBuilder : TI Tryd.prog 51 2 32 (.agg #[.pointer none, .slice none 0 0]) true := ⟨by kernel_rfl, by kernel_rfl, rfl⟩
theorem tree_Text_ok (n : Nat) : tree_Text_S (tree_Text n) := by
  intro w0 I0 tb t v rt hI r h
  unfold tree_Text at h
  refine enter Tryd.func8 rfl (Nat.le_of_ble_eq_true rfl) ?_
  have hp : Hp ⟨w0, I0, []⟩ I0 [] w0 := Hp.start hI
  apply go
  apply go
  refine ev_boxI hp rfl rfl ?_
  intro p I1 w1 hp hs a
  replace rt := rt.step hs
  replace tb := tb.step hs
  apply go
  apply go
  apply go
  refine ev (rn_load rfl rfl (run_loadVarA T26 rfl a)) ?_
  obtain ⟨ok, q, h⟩ := bind_some h
  refine ev_call rfl rfl C7 (((tree_Valid_ok n) _ _  t v rt hp.imm _ q).mono ?_)
  rintro _ w2 ⟨rfl, hc⟩
  have hs := hp.stp hc
  replace hp := hp.ext hc
  replace a := a.step hs
  replace rt := rt.step hs
  replace tb := tb.step hs
  apply go
  refine sel_of (fun hc => ?_) (fun hc => ?_)
  ·
    have hf : ok = false := by simpa using hc
    subst hf
    replace h : some ByteArray.empty = some r := h
    apply go
    apply go
    apply go
    obtain rfl := Option.some.inj h
    exact ⟨rfl, hp.ch⟩
  ·
    have hf : ok = true := by simpa using hc
    subst hf
    replace h : ((tree_write n (Builder.mk () []) t).bind fun b => strO b.buf) = some r := h
    obtain ⟨b, q2, h⟩ := bind_some h
    apply go
    apply go
    apply go
    refine ev_alloc hp rfl TBuilder ?_
    intro g w3 hp3 hs
    replace a := a.step hs
    replace rt := rt.step hs
    replace tb := tb.step hs
    have hgw : w0.heap.size ≤ g := by
      rcases (hp3.own 0 g _ _ rfl).2.2 with h0 | h0
      · exact h0
      · cases h0
    replace hp := hp3.none_
    have o := OwnS.nil (dI .u8) 5 w3 I1
    have hp : Hp ⟨w0, I0, []⟩ I1 [some (g, [.pointer none, .slice none 0 0], 51), none] w3 := hp.perm [1, 0] (by decide)
    apply go
    apply go
    refine ev (rn_load rfl rfl (run_loadVarA T26 rfl a)) ?_
    refine ev_call rfl rfl C17 (((tree_write_ok n) _ _ tb (Builder.mk () []) g _ ⟨_, _, _, rfl, .inl rfl, o⟩ t v rt (hp.lendL [0, 1] (by decide)) _ q2).mono ?_)
    rintro _ w4 ⟨I2, F, hv, hq, hb⟩
    replace hv := hv.symm; subst hv
    have hp := hp.backL [0, 1] [] (by decide) hq
    obtain ⟨va, v4, e4, rfl, hsf, ho4⟩ := hb
    obtain ⟨l, hl, rfl⟩ := Option.map_eq_some_iff.1 h
    have hB : Lib.IsBuilder 51 5 w0.heap.size g (Lib.byteCells l) w4 := hp.builder hsf ho4 hl hgw (fun g' cs t' e => by
      subst e
      rcases (hp.own 1 g' cs t' rfl).2.2 with h0 | h0
      · exact h0
      · cases h0)
    apply go
    apply go
    have hstr : Ret Tryd.prog 18 #[.pointer (some ⟨g, 0, none⟩)] w4 (fun v w' => v = .string ⟨l.toArray⟩ ∧ Below w0.heap.size w4 w') := Calls.mono (sh_Builder_String_any w0.heap.size g l w4 hB hp.ch.size) (fun _ w' hx => ⟨_, hx.1, rfl, hx.2⟩)
    refine ev_call rfl rfl CBuilderString (hstr.mono ?_)
    rintro _ w5 ⟨rfl, hb5⟩
    apply go
    exact ⟨rfl, ch_below (hp.ch.below.trans hb5)⟩

end Go.Proofs.YtkhmdpekfcahkaaDoor

namespace Go.Proofs.YtkhmdpekfcahkaaDoor
open Go Go.Proofs.YtkhmdpekfcahkaaDoor.Gw Go.RowKit
set_option linter.unusedVariables false
attribute [local irreducible] Ev EvQ EvS EvH
def ref41_size_S (f : Node → Int → Option Int) : Prop := ∀ (w0 : World) (I0 : Nat → Prop) (x_0 : Node) (v_1 : Value) (r_2 : RepS dNode w0 I0 v_1 x_0.Kids) (x_3 : Int) (hI : ∀ g, I0 g → g < w0.heap.size) (r : Int), f x_0 x_3 = some r →
    Ret Tryd.prog 45 #[(.agg #[(.int .i64 x_0.Kind), (.int .i64 x_0.Name), (.int .i64 x_0.Count), v_1]), (.int .i64 x_3)] w0 fun v w1 => v = (.int .i64 r) ∧ Ch [] w0 w1
theorem ref41_size_F_ok (n : Nat) (self : Node → Int → Option Int) (ih : ref41_size_S self) : ref41_size_S (ref41_size_F n self) := by
  intro w0 I0 x_0 v_1 r_2 x_3 hI r h
  unfold ref41_size_F at h
  refine enter Tryd.func45 rfl (Nat.le_of_ble_eq_true rfl) ?_
  have hp : Hp ⟨w0, I0, []⟩ I0 [] w0 := Hp.start hI
  apply go
  apply go
  refine ev_boxI hp rfl rfl ?_
  intro p_4 I_5 w_6 hp hs a_7
  replace r_2 := r_2.step hs
  apply go
  apply go
  obtain ⟨y_8, q_9, h⟩ := bind_some h
  refine W.cut (γ := Int) (fun g => [(5, (.int .i64 (g)))]) (fun g w' => y_8 = (g) ∧ Hp ⟨w0, I0, []⟩ I_5 [] w') ?_ ?_
  ·
    apply go
    apply go
    apply go
    refine W.loop q_9 (γ := Unit) (fun s _ => [(1, (.int .i64 x_3)), (2, (.pointer (some (p_4)))), (5, (.int .i64 (s.1))), (6, (.int .i64 (s.2)))]) (fun s _ w' => Hp ⟨w0, I0, []⟩ I_5 [] w' ∧ RepS dNode w' I_5 v_1 x_0.Kids ∧ At w' I_5 p_4 [(.int .i64 x_0.Kind), (.int .i64 x_0.Name), (.int .i64 x_0.Count), v_1]) () (.c rfl (.c rfl (.c rfl (.c rfl .n)))) ⟨hp, r_2, a_7⟩ ?_
    rintro ⟨x_a, x_b⟩ ⟨⟩ w_c y_d ⟨hp, r_2, a_7⟩ q_e q_f
    unfold ref41_size_L1 at q_e
    apply go
    obtain ⟨y_g, q_h, q_e⟩ := bind_some q_e
    refine W.cut (γ := Bool) (fun g => [(1, (.int .i64 x_3)), (2, (.pointer (some (p_4)))), (5, (.int .i64 x_a)), (6, (.int .i64 x_b)), (16, (.bool (g)))]) (fun g w' => y_g = (g) ∧ w_c = w') ?_ ?_
    ·
      apply go
      refine ev0 (rn_field rfl rfl FO26_3) ?_
      refine ev (rn_load rfl rfl (run_loadVar1 T24 (a_7.2 3 _ rfl))) ?_
      refine ev0 (rn_len rfl rfl Tryd.underlying24 r_2) ?_
      refine sel_of (fun hc => ?_) (fun hc => ?_)
      ·
        have q_h := cond_t q_h hc
        obtain rfl := Option.some.inj q_h
        exact ⟨(decide (x_a < x_3)), (.c rfl (.c rfl (.c rfl (.c rfl (.c rfl .n))))), rfl, rfl⟩
      ·
        have q_h := cond_f q_h hc
        obtain rfl := Option.some.inj q_h
        exact ⟨false, (.c rfl (.c rfl (.c rfl (.c rfl (.c rfl .n))))), rfl, rfl⟩
    ·
      rintro x_i _ ⟨hy, rfl⟩
      replace hy := hy.symm
      subst hy
      apply go
      refine sel_of (fun hc => ?_) (fun hc => ?_)
      ·
        have q_e := cond_t q_e hc
        apply go
        apply go
        apply go
        apply go
        refine ev0 (rn_field rfl rfl FO26_3) ?_
        refine ev (rn_load rfl rfl (run_loadVar1 T24 (a_7.2 3 _ rfl))) ?_
        obtain ⟨x_j, q_k, q_e⟩ := bind_some q_e
        refine ev_index rfl rfl rfl Tryd.underlying24 T26 r_2 q_k ?_
        intro p_l c_m d_n a_o
        obtain ⟨v_p, rfl, r_q⟩ := dNode_o d_n
        refine ev (rn_load rfl rfl (run_loadVarA T26 rfl a_o)) ?_
        obtain ⟨x_r, q_s, q_e⟩ := bind_some q_e
        refine ev_call rfl rfl C45 ((ih _ _  (Node.mk x_j.Kind x_j.Name x_j.Count x_j.Kids) v_p r_q (IntKind.i64.wrap (x_3 - x_a)) hp.imm _ q_s).mono ?_)
        rintro _ w_t ⟨rfl, hc⟩
        have hs := hp.stp hc
        replace hp := hp.ext hc
        replace a_7 := a_7.step hs
        replace r_2 := r_2.step hs
        apply go
        exact ⟨_, (Option.some.inj q_e).symm, (), (.c rfl (.c rfl (.c rfl (.c rfl .n)))), ⟨hp, r_2, a_7⟩⟩
      ·
        have q_e := cond_f q_e hc
        apply go
        have q_u := congrArg some (q_f _ (Option.some.inj q_e).symm)
        obtain rfl := Option.some.inj q_u
        exact ⟨x_a, (.c rfl .n), rfl, hp⟩
  ·
    rintro x_v w_w ⟨hy, hp⟩
    replace hy := hy.symm
    subst hy
    apply go
    apply go
    apply go
    obtain rfl := Option.some.inj h
    exact ⟨rfl, hp.ch⟩
theorem ref41_size_ok : ∀ n, ref41_size_S (ref41_size n)
  | 0 => by intro w0 I0 x_0 v_1 r_2 x_3 hI r h; cases h
  | n + 1 => ref41_size_F_ok n _ (ref41_size_ok n)

end Go.Proofs.YtkhmdpekfcahkaaDoor

namespace Go.Proofs.YtkhmdpekfcahkaaDoor
open Go Go.Proofs.YtkhmdpekfcahkaaDoor.Gw Go.RowKit
set_option linter.unusedVariables false
attribute [local irreducible] Ev EvQ EvS EvH
def ref41_Size_S (f : Node → Option Int) : Prop := ∀ (w0 : World) (I0 : Nat → Prop) (x_0 : Node) (v_1 : Value) (r_2 : RepS dNode w0 I0 v_1 x_0.Kids) (hI : ∀ g, I0 g → g < w0.heap.size) (r : Int), f x_0 = some r →
    Ret Tryd.prog 37 #[(.agg #[(.int .i64 x_0.Kind), (.int .i64 x_0.Name), (.int .i64 x_0.Count), v_1])] w0 fun v w1 => v = (.int .i64 r) ∧ Ch [] w0 w1
theorem ref41_Size_ok (n : Nat) : ref41_Size_S (ref41_Size n) := by
  intro w0 I0 x_0 v_1 r_2 hI r h
  unfold ref41_Size at h
  refine enter Tryd.func37 rfl (Nat.le_of_ble_eq_true rfl) ?_
  have hp : Hp ⟨w0, I0, []⟩ I0 [] w0 := Hp.start hI
  apply go
  apply go
  refine ev_boxI hp rfl rfl ?_
  intro p_3 I_4 w_5 hp hs a_6
  replace r_2 := r_2.step hs
  apply go
  apply go
  refine ev (rn_load rfl rfl (run_loadVarA T26 rfl a_6)) ?_
  obtain ⟨x_7, q_8, h⟩ := bind_some h
  refine ev_call rfl rfl C45 (((ref41_size_ok n) _ _  (Node.mk x_0.Kind x_0.Name x_0.Count x_0.Kids) v_1 r_2 65 hp.imm _ q_8).mono ?_)
  rintro _ w_9 ⟨rfl, hc⟩
  have hs := hp.stp hc
  replace hp := hp.ext hc
  apply go
  obtain rfl := Option.some.inj h
  exact ⟨rfl, hp.ch⟩

end Go.Proofs.YtkhmdpekfcahkaaDoor

namespace Go.Proofs.YtkhmdpekfcahkaaDoor
open Go Go.Proofs.YtkhmdpekfcahkaaDoor.Gw Go.RowKit
set_option linter.unusedVariables false
attribute [local irreducible] Ev EvQ EvS EvH
def ref41_between_S (f : Int → Int → Int → Option Bool) : Prop := ∀ (w0 : World) (I0 : Nat → Prop) (x_0 : Int) (x_1 : Int) (x_2 : Int) (hI : ∀ g, I0 g → g < w0.heap.size) (r : Bool), f x_0 x_1 x_2 = some r →
    Ret Tryd.prog 51 #[(.int .i64 x_0), (.int .i64 x_1), (.int .i64 x_2)] w0 fun v w1 => v = (.bool r) ∧ Ch [] w0 w1
theorem ref41_between_ok (n : Nat) : ref41_between_S (ref41_between n) := by
  intro w0 I0 x_0 x_1 x_2 hI r h
  unfold ref41_between at h
  refine enter Tryd.func51 rfl (Nat.le_of_ble_eq_true rfl) ?_
  have hp : Hp ⟨w0, I0, []⟩ I0 [] w0 := Hp.start hI
  apply go
  apply go
  obtain ⟨y_3, q_4, h⟩ := bind_some h
  refine W.cut (γ := Bool) (fun g => [(6, (.bool (g)))]) (fun g w' => y_3 = (g) ∧ w0 = w') ?_ ?_
  ·
    apply go
    refine sel_of (fun hc => ?_) (fun hc => ?_)
    ·
      have q_4 := cond_t q_4 hc
      obtain rfl := Option.some.inj q_4
      exact ⟨(decide (x_0 ≤ x_2)), (.c rfl .n), rfl, rfl⟩
    ·
      have q_4 := cond_f q_4 hc
      obtain rfl := Option.some.inj q_4
      exact ⟨false, (.c rfl .n), rfl, rfl⟩
  ·
    rintro x_5 _ ⟨hy, rfl⟩
    replace hy := hy.symm
    subst hy
    apply go
    obtain rfl := Option.some.inj h
    exact ⟨rfl, hp.ch⟩

end Go.Proofs.YtkhmdpekfcahkaaDoor

namespace Go.Proofs.YtkhmdpekfcahkaaDoor
open Go Go.Proofs.YtkhmdpekfcahkaaDoor.Gw Go.RowKit
set_option linter.unusedVariables false
attribute [local irreducible] Ev EvQ EvS EvH
def ref41_single_S (f : Node → Option Bool) : Prop := ∀ (w0 : World) (I0 : Nat → Prop) (x_0 : Node) (v_1 : Value) (r_2 : RepS dNode w0 I0 v_1 x_0.Kids) (hI : ∀ g, I0 g → g < w0.heap.size) (r : Bool), f x_0 = some r →
    Ret Tryd.prog 46 #[(.agg #[(.int .i64 x_0.Kind), (.int .i64 x_0.Name), (.int .i64 x_0.Count), v_1])] w0 fun v w1 => v = (.bool r) ∧ Ch [] w0 w1
theorem ref41_single_ok (n : Nat) : ref41_single_S (ref41_single n) := by
  intro w0 I0 x_0 v_1 r_2 hI r h
  unfold ref41_single at h
  refine enter Tryd.func46 rfl (Nat.le_of_ble_eq_true rfl) ?_
  have hp : Hp ⟨w0, I0, []⟩ I0 [] w0 := Hp.start hI
  apply go
  apply go
  refine ev_boxI hp rfl rfl ?_
  intro p_3 I_4 w_5 hp hs a_6
  replace r_2 := r_2.step hs
  apply go
  apply go
  refine ev0 (rn_field rfl rfl FO26_3) ?_
  refine ev (rn_load rfl rfl (run_loadVar1 T24 (a_6.2 3 _ rfl))) ?_
  refine ev0 (rn_len rfl rfl Tryd.underlying24 r_2) ?_
  apply go
  apply go
  apply go
  refine ev0 (rn_field rfl rfl FO26_0) ?_
  refine ev (rn_load rfl rfl (run_loadVar1 T3 (a_6.2 0 _ rfl))) ?_
  apply go
  obtain ⟨y_7, q_8, h⟩ := bind_some h
  refine W.cut (γ := Bool) (fun g => [(1, (.pointer (some (p_3)))), (3, (.int .i64 (x_0.Kids.length : Int))), (8, (.int .i64 x_0.Kind)), (9, (.bool (g)))]) (fun g w' => y_7 = (g) ∧ w_5 = w') ?_ ?_
  ·
    apply go
    apply go
    apply go
    refine sel_of (fun hc => ?_) (fun hc => ?_)
    ·
      have q_8 := cond_t q_8 hc
      apply go
      obtain rfl := Option.some.inj q_8
      exact ⟨(x_0.Kind == 1), (.c rfl (.c rfl (.c rfl (.c rfl .n)))), rfl, rfl⟩
    ·
      have q_8 := cond_f q_8 hc
      apply go
      obtain rfl := Option.some.inj q_8
      exact ⟨(x_0.Kind == 2), (.c rfl (.c rfl (.c rfl (.c rfl .n)))), rfl, rfl⟩
  ·
    rintro x_9 _ ⟨hy, rfl⟩
    replace hy := hy.symm
    subst hy
    apply go
    refine sel_of (fun hc => ?_) (fun hc => ?_)
    ·
      have h := cond_t h hc
      obtain ⟨y_a, q_b, h⟩ := bind_some h
      refine W.cut (γ := Bool) (fun g => [(2, (.bool (g)))]) (fun g w' => y_a = (g) ∧ Hp ⟨w0, I0, []⟩ I_4 [] w') ?_ ?_
      ·
        apply go
        refine sel_of (fun hc => ?_) (fun hc => ?_)
        ·
          have q_b := cond_t q_b hc
          refine ev0 (rn_field rfl rfl FO26_1) ?_
          refine ev (rn_load rfl rfl (run_loadVar1 T3 (a_6.2 1 _ rfl))) ?_
          obtain ⟨x_c, q_d, q_b⟩ := bind_some q_b
          refine ev_call rfl rfl C51 (((ref41_between_ok n) _ _  x_0.Name 0 63 hp.imm _ q_d).mono ?_)
          rintro _ w_e ⟨rfl, hc⟩
          have hs := hp.stp hc
          replace hp := hp.ext hc
          replace a_6 := a_6.step hs
          replace r_2 := r_2.step hs
          refine sel_of (fun hc => ?_) (fun hc => ?_)
          ·
            have q_b := cond_t q_b hc
            refine ev0 (rn_field rfl rfl FO26_2) ?_
            refine ev (rn_load rfl rfl (run_loadVar1 T3 (a_6.2 2 _ rfl))) ?_
            obtain rfl := Option.some.inj q_b
            exact ⟨(x_0.Count == 0), (.c rfl .n), rfl, hp⟩
          ·
            have q_b := cond_f q_b hc
            obtain rfl := Option.some.inj q_b
            exact ⟨false, (.c rfl .n), rfl, hp⟩
        ·
          have q_b := cond_f q_b hc
          obtain rfl := Option.some.inj q_b
          exact ⟨false, (.c rfl .n), rfl, hp⟩
      ·
        rintro x_f w_g ⟨hy, hp⟩
        replace hy := hy.symm
        subst hy
        apply go
        obtain rfl := Option.some.inj h
        exact ⟨rfl, hp.ch⟩
    ·
      have h := cond_f h hc
      obtain ⟨y_h, q_i, h⟩ := bind_some h
      refine W.cut (γ := Bool) (fun g => [(1, (.pointer (some (p_3)))), (3, (.int .i64 (x_0.Kids.length : Int))), (8, (.int .i64 x_0.Kind)), (24, (.bool (g)))]) (fun g w' => y_h = (g) ∧ w_5 = w') ?_ ?_
      ·
        apply go
        apply go
        apply go
        refine sel_of (fun hc => ?_) (fun hc => ?_)
        ·
          have q_i := cond_t q_i hc
          apply go
          obtain rfl := Option.some.inj q_i
          exact ⟨(x_0.Kind == 3), (.c rfl (.c rfl (.c rfl (.c rfl .n)))), rfl, rfl⟩
        ·
          have q_i := cond_f q_i hc
          apply go
          obtain rfl := Option.some.inj q_i
          exact ⟨(x_0.Kind == 4), (.c rfl (.c rfl (.c rfl (.c rfl .n)))), rfl, rfl⟩
      ·
        rintro x_j _ ⟨hy, rfl⟩
        replace hy := hy.symm
        subst hy
        apply go
        refine sel_of (fun hc => ?_) (fun hc => ?_)
        ·
          have h := cond_t h hc
          obtain ⟨y_k, q_l, h⟩ := bind_some h
          refine W.cut (γ := Bool) (fun g => [(2, (.bool (g)))]) (fun g w' => y_k = (g) ∧ w_5 = w') ?_ ?_
          ·
            apply go
            refine ev0 (rn_field rfl rfl FO26_1) ?_
            refine ev (rn_load rfl rfl (run_loadVar1 T3 (a_6.2 1 _ rfl))) ?_
            refine sel_of (fun hc => ?_) (fun hc => ?_)
            ·
              have q_l := cond_t q_l hc
              refine ev0 (rn_field rfl rfl FO26_2) ?_
              refine ev (rn_load rfl rfl (run_loadVar1 T3 (a_6.2 2 _ rfl))) ?_
              obtain rfl := Option.some.inj q_l
              exact ⟨(x_0.Count == 0), (.c rfl .n), rfl, rfl⟩
            ·
              have q_l := cond_f q_l hc
              obtain rfl := Option.some.inj q_l
              exact ⟨false, (.c rfl .n), rfl, rfl⟩
          ·
            rintro x_m _ ⟨hy, rfl⟩
            replace hy := hy.symm
            subst hy
            apply go
            obtain rfl := Option.some.inj h
            exact ⟨rfl, hp.ch⟩
        ·
          have h := cond_f h hc
          apply go
          apply go
          apply go
          refine sel_of (fun hc => ?_) (fun hc => ?_)
          ·
            have h := cond_t h hc
            obtain ⟨y_n, q_o, h⟩ := bind_some h
            refine W.cut (γ := Bool) (fun g => [(2, (.bool (g)))]) (fun g w' => y_n = (g) ∧ Hp ⟨w0, I0, []⟩ I_4 [] w') ?_ ?_
            ·
              apply go
              refine sel_of (fun hc => ?_) (fun hc => ?_)
              ·
                have q_o := cond_t q_o hc
                refine ev0 (rn_field rfl rfl FO26_1) ?_
                refine ev (rn_load rfl rfl (run_loadVar1 T3 (a_6.2 1 _ rfl))) ?_
                refine sel_of (fun hc => ?_) (fun hc => ?_)
                ·
                  have q_o := cond_t q_o hc
                  refine ev0 (rn_field rfl rfl FO26_2) ?_
                  refine ev (rn_load rfl rfl (run_loadVar1 T3 (a_6.2 2 _ rfl))) ?_
                  obtain ⟨x_p, q_q, q_o⟩ := bind_some q_o
                  refine ev_call rfl rfl C51 (((ref41_between_ok n) _ _  x_0.Count 1 (x_0.Kids.length : Int) hp.imm _ q_q).mono ?_)
                  rintro _ w_r ⟨rfl, hc⟩
                  have hs := hp.stp hc
                  replace hp := hp.ext hc
                  obtain rfl := Option.some.inj q_o
                  exact ⟨x_p, (.c rfl .n), rfl, hp⟩
                ·
                  have q_o := cond_f q_o hc
                  obtain rfl := Option.some.inj q_o
                  exact ⟨false, (.c rfl .n), rfl, hp⟩
              ·
                have q_o := cond_f q_o hc
                obtain rfl := Option.some.inj q_o
                exact ⟨false, (.c rfl .n), rfl, hp⟩
            ·
              rintro x_s w_t ⟨hy, hp⟩
              replace hy := hy.symm
              subst hy
              apply go
              obtain rfl := Option.some.inj h
              exact ⟨rfl, hp.ch⟩
          ·
            have h := cond_f h hc
            apply go
            apply go
            apply go
            refine sel_of (fun hc => ?_) (fun hc => ?_)
            ·
              have h := cond_t h hc
              obtain ⟨y_u, q_v, h⟩ := bind_some h
              refine W.cut (γ := Bool) (fun g => [(2, (.bool (g)))]) (fun g w' => y_u = (g) ∧ w_5 = w') ?_ ?_
              ·
                apply go
                refine sel_of (fun hc => ?_) (fun hc => ?_)
                ·
                  have q_v := cond_t q_v hc
                  refine ev0 (rn_field rfl rfl FO26_1) ?_
                  refine ev (rn_load rfl rfl (run_loadVar1 T3 (a_6.2 1 _ rfl))) ?_
                  refine sel_of (fun hc => ?_) (fun hc => ?_)
                  ·
                    have q_v := cond_t q_v hc
                    refine ev0 (rn_field rfl rfl FO26_2) ?_
                    refine ev (rn_load rfl rfl (run_loadVar1 T3 (a_6.2 2 _ rfl))) ?_
                    obtain rfl := Option.some.inj q_v
                    exact ⟨(x_0.Count == 0), (.c rfl .n), rfl, rfl⟩
                  ·
                    have q_v := cond_f q_v hc
                    obtain rfl := Option.some.inj q_v
                    exact ⟨false, (.c rfl .n), rfl, rfl⟩
                ·
                  have q_v := cond_f q_v hc
                  obtain rfl := Option.some.inj q_v
                  exact ⟨false, (.c rfl .n), rfl, rfl⟩
              ·
                rintro x_w _ ⟨hy, rfl⟩
                replace hy := hy.symm
                subst hy
                apply go
                obtain rfl := Option.some.inj h
                exact ⟨rfl, hp.ch⟩
            ·
              have h := cond_f h hc
              obtain ⟨y_x, q_y, h⟩ := bind_some h
              refine W.cut (γ := Bool) (fun g => [(1, (.pointer (some (p_3)))), (3, (.int .i64 (x_0.Kids.length : Int))), (64, (.bool (g)))]) (fun g w' => y_x = (g) ∧ w_5 = w') ?_ ?_
              ·
                apply go
                apply go
                apply go
                refine sel_of (fun hc => ?_) (fun hc => ?_)
                ·
                  have q_y := cond_t q_y hc
                  apply go
                  obtain rfl := Option.some.inj q_y
                  exact ⟨(x_0.Kind == 7), (.c rfl (.c rfl (.c rfl .n))), rfl, rfl⟩
                ·
                  have q_y := cond_f q_y hc
                  apply go
                  obtain rfl := Option.some.inj q_y
                  exact ⟨(x_0.Kind == 8), (.c rfl (.c rfl (.c rfl .n))), rfl, rfl⟩
              ·
                rintro x_z _ ⟨hy, rfl⟩
                replace hy := hy.symm
                subst hy
                apply go
                refine sel_of (fun hc => ?_) (fun hc => ?_)
                ·
                  have h := cond_t h hc
                  obtain ⟨y_10, q_11, h⟩ := bind_some h
                  refine W.cut (γ := Bool) (fun g => [(2, (.bool (g)))]) (fun g w' => y_10 = (g) ∧ Hp ⟨w0, I0, []⟩ I_4 [] w') ?_ ?_
                  ·
                    apply go
                    refine sel_of (fun hc => ?_) (fun hc => ?_)
                    ·
                      have q_11 := cond_t q_11 hc
                      refine ev0 (rn_field rfl rfl FO26_1) ?_
                      refine ev (rn_load rfl rfl (run_loadVar1 T3 (a_6.2 1 _ rfl))) ?_
                      refine sel_of (fun hc => ?_) (fun hc => ?_)
                      ·
                        have q_11 := cond_t q_11 hc
                        refine ev0 (rn_field rfl rfl FO26_2) ?_
                        refine ev (rn_load rfl rfl (run_loadVar1 T3 (a_6.2 2 _ rfl))) ?_
                        obtain ⟨x_12, q_13, q_11⟩ := bind_some q_11
                        refine ev_call rfl rfl C51 (((ref41_between_ok n) _ _  x_0.Count 1 1000 hp.imm _ q_13).mono ?_)
                        rintro _ w_14 ⟨rfl, hc⟩
                        have hs := hp.stp hc
                        replace hp := hp.ext hc
                        obtain rfl := Option.some.inj q_11
                        exact ⟨x_12, (.c rfl .n), rfl, hp⟩
                      ·
                        have q_11 := cond_f q_11 hc
                        obtain rfl := Option.some.inj q_11
                        exact ⟨false, (.c rfl .n), rfl, hp⟩
                    ·
                      have q_11 := cond_f q_11 hc
                      obtain rfl := Option.some.inj q_11
                      exact ⟨false, (.c rfl .n), rfl, hp⟩
                  ·
                    rintro x_15 w_16 ⟨hy, hp⟩
                    replace hy := hy.symm
                    subst hy
                    apply go
                    obtain rfl := Option.some.inj h
                    exact ⟨rfl, hp.ch⟩
                ·
                  have h := cond_f h hc
                  apply go
                  apply go
                  apply go
                  apply go
                  obtain rfl := Option.some.inj h
                  exact ⟨rfl, hp.ch⟩

end Go.Proofs.YtkhmdpekfcahkaaDoor

namespace Go.Proofs.YtkhmdpekfcahkaaDoor
open Go Go.Proofs.YtkhmdpekfcahkaaDoor.Gw Go.RowKit
set_option linter.unusedVariables false
attribute [local irreducible] Ev EvQ EvS EvH
def ref41_valid_S (f : Node → Int → Option Bool) : Prop := ∀ (w0 : World) (I0 : Nat → Prop) (x_0 : Node) (v_1 : Value) (r_2 : RepS dNode w0 I0 v_1 x_0.Kids) (x_3 : Int) (hI : ∀ g, I0 g → g < w0.heap.size) (r : Bool), f x_0 x_3 = some r →
    Ret Tryd.prog 38 #[(.agg #[(.int .i64 x_0.Kind), (.int .i64 x_0.Name), (.int .i64 x_0.Count), v_1]), (.int .i64 x_3)] w0 fun v w1 => v = (.bool r) ∧ Ch [] w0 w1
theorem ref41_valid_F_ok (n : Nat) (self : Node → Int → Option Bool) (ih : ref41_valid_S self) : ref41_valid_S (ref41_valid_F n self) := by
  intro w0 I0 x_0 v_1 r_2 x_3 hI r h
  unfold ref41_valid_F at h
  refine enter Tryd.func38 rfl (Nat.le_of_ble_eq_true rfl) ?_
  have hp : Hp ⟨w0, I0, []⟩ I0 [] w0 := Hp.start hI
  apply go
  apply go
  refine ev_boxI hp rfl rfl ?_
  intro p_4 I_5 w_6 hp hs a_7
  replace r_2 := r_2.step hs
  apply go
  obtain ⟨y_8, q_9, h⟩ := bind_some h
  refine W.cut (γ := Bool) (fun g => [(1, (.int .i64 x_3)), (2, (.pointer (some (p_4)))), (12, (.bool (g)))]) (fun g w' => y_8 = (g) ∧ Hp ⟨w0, I0, []⟩ I_5 [] w' ∧ RepS dNode w' I_5 v_1 x_0.Kids ∧ At w' I_5 p_4 [(.int .i64 x_0.Kind), (.int .i64 x_0.Name), (.int .i64 x_0.Count), v_1]) ?_ ?_
  ·
    apply go
    refine sel_of (fun hc => ?_) (fun hc => ?_)
    ·
      have q_9 := cond_t q_9 hc
      obtain rfl := Option.some.inj q_9
      exact ⟨true, (.c rfl (.c rfl (.c rfl .n))), rfl, hp, r_2, a_7⟩
    ·
      have q_9 := cond_f q_9 hc
      refine ev (rn_load rfl rfl (run_loadVarA T26 rfl a_7)) ?_
      obtain ⟨x_a, q_b, q_9⟩ := bind_some q_9
      refine ev_call rfl rfl C46 (((ref41_single_ok n) _ _  (Node.mk x_0.Kind x_0.Name x_0.Count x_0.Kids) v_1 r_2 hp.imm _ q_b).mono ?_)
      rintro _ w_c ⟨rfl, hc⟩
      have hs := hp.stp hc
      replace hp := hp.ext hc
      replace a_7 := a_7.step hs
      replace r_2 := r_2.step hs
      obtain rfl := Option.some.inj q_9
      exact ⟨(!x_a), (.c rfl (.c rfl (.c rfl .n))), rfl, hp, r_2, a_7⟩
  ·
    rintro x_d w_e ⟨hy, hp, r_2, a_7⟩
    replace hy := hy.symm
    subst hy
    apply go
    refine sel_of (fun hc => ?_) (fun hc => ?_)
    ·
      have h := cond_t h hc
      apply go
      apply go
      apply go
      obtain rfl := Option.some.inj h
      exact ⟨rfl, hp.ch⟩
    ·
      have h := cond_f h hc
      apply go
      obtain ⟨y_f, q_g, h⟩ := bind_some h
      refine W.cut (γ := Unit) (fun _ => []) (fun _ w' => y_f = .go () ∧ Hp ⟨w0, I0, []⟩ I_5 [] w') ?_ ?_
      ·
        apply go
        apply go
        apply go
        refine W.loop q_g (γ := Unit) (fun s _ => [(1, (.int .i64 x_3)), (2, (.pointer (some (p_4)))), (5, (.int .i64 (s)))]) (fun s _ w' => Hp ⟨w0, I0, []⟩ I_5 [] w' ∧ RepS dNode w' I_5 v_1 x_0.Kids ∧ At w' I_5 p_4 [(.int .i64 x_0.Kind), (.int .i64 x_0.Name), (.int .i64 x_0.Count), v_1]) () (.c rfl (.c rfl (.c rfl .n))) ⟨hp, r_2, a_7⟩ ?_
        rintro x_h ⟨⟩ w_i y_j ⟨hp, r_2, a_7⟩ q_k q_l
        unfold ref41_valid_L1 at q_k
        apply go
        apply go
        apply go
        refine ev0 (rn_field rfl rfl FO26_3) ?_
        refine ev (rn_load rfl rfl (run_loadVar1 T24 (a_7.2 3 _ rfl))) ?_
        refine ev0 (rn_len rfl rfl Tryd.underlying24 r_2) ?_
        apply go
        refine sel_of (fun hc => ?_) (fun hc => ?_)
        ·
          have q_k := cond_t q_k hc
          apply go
          apply go
          apply go
          apply go
          apply go
          refine ev0 (rn_field rfl rfl FO26_3) ?_
          refine ev (rn_load rfl rfl (run_loadVar1 T24 (a_7.2 3 _ rfl))) ?_
          obtain ⟨x_m, q_n, q_k⟩ := bind_some q_k
          refine ev_index rfl rfl rfl Tryd.underlying24 T26 r_2 q_n ?_
          intro p_o c_p d_q a_r
          obtain ⟨v_s, rfl, r_t⟩ := dNode_o d_q
          refine ev (rn_load rfl rfl (run_loadVarA T26 rfl a_r)) ?_
          obtain ⟨x_u, q_v, q_k⟩ := bind_some q_k
          refine ev_call rfl rfl C38 ((ih _ _  (Node.mk x_m.Kind x_m.Name x_m.Count x_m.Kids) v_s r_t (IntKind.i64.wrap (x_3 - 1)) hp.imm _ q_v).mono ?_)
          rintro _ w_w ⟨rfl, hc⟩
          have hs := hp.stp hc
          replace hp := hp.ext hc
          replace a_7 := a_7.step hs
          replace r_2 := r_2.step hs
          apply go
          refine sel_of (fun hc => ?_) (fun hc => ?_)
          ·
            have q_k := cond_t q_k hc
            apply go
            apply go
            apply go
            have q_x := congrArg some (q_l _ (Option.some.inj q_k).symm)
            obtain rfl := Option.some.inj q_x
            obtain rfl := Option.some.inj h
            exact ⟨rfl, hp.ch⟩
          ·
            have q_k := cond_f q_k hc
            apply go
            apply go
            exact ⟨_, (Option.some.inj q_k).symm, (), (.c rfl (.c rfl (.c rfl .n))), ⟨hp, r_2, a_7⟩⟩
        ·
          have q_k := cond_f q_k hc
          apply go
          have q_y := congrArg some (q_l _ (Option.some.inj q_k).symm)
          obtain rfl := Option.some.inj q_y
          exact ⟨(), .n, rfl, hp⟩
      ·
        rintro ⟨⟩ w_z ⟨hy, hp⟩
        replace hy := hy.symm
        subst hy
        apply go
        apply go
        apply go
        obtain rfl := Option.some.inj h
        exact ⟨rfl, hp.ch⟩
theorem ref41_valid_ok : ∀ n, ref41_valid_S (ref41_valid n)
  | 0 => by intro w0 I0 x_0 v_1 r_2 x_3 hI r h; cases h
  | n + 1 => ref41_valid_F_ok n _ (ref41_valid_ok n)

end Go.Proofs.YtkhmdpekfcahkaaDoor

namespace Go.Proofs.YtkhmdpekfcahkaaDoor
open Go Go.Proofs.YtkhmdpekfcahkaaDoor.Gw Go.RowKit
set_option linter.unusedVariables false
attribute [local irreducible] Ev EvQ EvS EvH
def ref41_Valid_S (f : Node → Option Bool) : Prop := ∀ (w0 : World) (I0 : Nat → Prop) (x_0 : Node) (v_1 : Value) (r_2 : RepS dNode w0 I0 v_1 x_0.Kids) (hI : ∀ g, I0 g → g < w0.heap.size) (r : Bool), f x_0 = some r →
    Ret Tryd.prog 30 #[(.agg #[(.int .i64 x_0.Kind), (.int .i64 x_0.Name), (.int .i64 x_0.Count), v_1])] w0 fun v w1 => v = (.bool r) ∧ Ch [] w0 w1
theorem ref41_Valid_ok (n : Nat) : ref41_Valid_S (ref41_Valid n) := by
  intro w0 I0 x_0 v_1 r_2 hI r h
  unfold ref41_Valid at h
  refine enter Tryd.func30 rfl (Nat.le_of_ble_eq_true rfl) ?_
  have hp : Hp ⟨w0, I0, []⟩ I0 [] w0 := Hp.start hI
  apply go
  apply go
  refine ev_boxI hp rfl rfl ?_
  intro p_3 I_4 w_5 hp hs a_6
  replace r_2 := r_2.step hs
  obtain ⟨y_7, q_8, h⟩ := bind_some h
  refine W.cut (γ := Bool) (fun g => [(2, (.bool (g)))]) (fun g w' => y_7 = (g) ∧ Hp ⟨w0, I0, []⟩ I_4 [] w') ?_ ?_
  ·
    apply go
    refine ev (rn_load rfl rfl (run_loadVarA T26 rfl a_6)) ?_
    obtain ⟨x_9, q_a, q_8⟩ := bind_some q_8
    refine ev_call rfl rfl C37 (((ref41_Size_ok n) _ _  (Node.mk x_0.Kind x_0.Name x_0.Count x_0.Kids) v_1 r_2 hp.imm _ q_a).mono ?_)
    rintro _ w_b ⟨rfl, hc⟩
    have hs := hp.stp hc
    replace hp := hp.ext hc
    replace a_6 := a_6.step hs
    replace r_2 := r_2.step hs
    refine sel_of (fun hc => ?_) (fun hc => ?_)
    ·
      have q_8 := cond_t q_8 hc
      refine ev (rn_load rfl rfl (run_loadVarA T26 rfl a_6)) ?_
      obtain ⟨x_c, q_d, q_8⟩ := bind_some q_8
      refine ev_call rfl rfl C38 (((ref41_valid_ok n) _ _  (Node.mk x_0.Kind x_0.Name x_0.Count x_0.Kids) v_1 r_2 16 hp.imm _ q_d).mono ?_)
      rintro _ w_e ⟨rfl, hc⟩
      have hs := hp.stp hc
      replace hp := hp.ext hc
      obtain rfl := Option.some.inj q_8
      exact ⟨x_c, (.c rfl .n), rfl, hp⟩
    ·
      have q_8 := cond_f q_8 hc
      obtain rfl := Option.some.inj q_8
      exact ⟨false, (.c rfl .n), rfl, hp⟩
  ·
    rintro x_f w_g ⟨hy, hp⟩
    replace hy := hy.symm
    subst hy
    apply go
    obtain rfl := Option.some.inj h
    exact ⟨rfl, hp.ch⟩

end Go.Proofs.YtkhmdpekfcahkaaDoor

namespace Go.Proofs.YtkhmdpekfcahkaaDoor
open Go Go.Proofs.YtkhmdpekfcahkaaDoor.Gw Go.RowKit
set_option linter.unusedVariables false
attribute [local irreducible] Ev EvQ EvS EvH
def ref41_Number_S (f : Int → Option ByteArray) : Prop := ∀ (w0 : World) (I0 : Nat → Prop) (x_0 : Int) (hI : ∀ g, I0 g → g < w0.heap.size) (r : ByteArray), f x_0 = some r →
    Ret Tryd.prog 39 #[(.int .i64 x_0)] w0 fun v w1 => v = (.string r) ∧ Ch [] w0 w1
theorem ref41_Number_F_ok (n : Nat) (self : Int → Option ByteArray) (ih : ref41_Number_S self) : ref41_Number_S (ref41_Number_F n self) := by
  intro w0 I0 x_0 hI r h
  unfold ref41_Number_F at h
  refine enter Tryd.func39 rfl (Nat.le_of_ble_eq_true rfl) ?_
  have hp : Hp ⟨w0, I0, []⟩ I0 [] w0 := Hp.start hI
  apply go
  apply go
  apply go
  apply go
  refine ⟨by decide, ?_⟩
  refine ev0 (rn_conv rfl rfl U3 Tryd.underlying5) ?_
  refine ev_litN (d := (dI .u8)) (xs := [(IntKind.u8.wrap (IntKind.i64.wrap (48 + (x_0.tmod 10))))]) (cs := [(.int .u8 (IntKind.u8.wrap (IntKind.i64.wrap (48 + (x_0.tmod 10)))))]) hp rfl rfl Tryd.underlying49 T5 (by decide) rfl rfl (Elems.cons (d := (dI .u8)) (xs := _) rfl (Elems.nil _ _ _ _)) ?_
  intro v_1 I_2 w_3 hp hs r_4
  refine ev (rn_bstr rfl rfl Tryd.underlying49 Tryd.underlying5 Tryd.underlying9 r_4) ?_
  apply go
  apply go
  apply go
  apply go
  refine sel_of (fun hc => ?_) (fun hc => ?_)
  ·
    have h := cond_t h hc
    apply go
    apply go
    apply go
    obtain rfl := Option.some.inj h
    exact ⟨rfl, hp.ch⟩
  ·
    have h := cond_f h hc
    apply go
    apply go
    apply go
    refine ⟨by decide, ?_⟩
    obtain ⟨x_5, q_6, h⟩ := bind_some h
    refine ev_call rfl rfl C39 ((ih _ _  (IntKind.i64.wrap (x_0.tdiv 10)) hp.imm _ q_6).mono ?_)
    rintro _ w_7 ⟨rfl, hc⟩
    have hs := hp.stp hc
    replace hp := hp.ext hc
    obtain ⟨q_8, _, h⟩ := need_some h
    refine ⟨q_8, ?_⟩
    apply go
    obtain rfl := Option.some.inj h
    exact ⟨rfl, hp.ch⟩
theorem ref41_Number_ok : ∀ n, ref41_Number_S (ref41_Number n)
  | 0 => by intro w0 I0 x_0 hI r h; cases h
  | n + 1 => ref41_Number_F_ok n _ (ref41_Number_ok n)

end Go.Proofs.YtkhmdpekfcahkaaDoor

namespace Go.Proofs.YtkhmdpekfcahkaaDoor
open Go Go.Proofs.YtkhmdpekfcahkaaDoor.Gw Go.RowKit
set_option linter.unusedVariables false
attribute [local irreducible] Ev EvQ EvS EvH
def ref41_text_S (f : Node → Option ByteArray) : Prop := ∀ (w0 : World) (I0 : Nat → Prop) (x_0 : Node) (v_1 : Value) (r_2 : RepS dNode w0 I0 v_1 x_0.Kids) (hI : ∀ g, I0 g → g < w0.heap.size) (r : ByteArray), f x_0 = some r →
    Ret Tryd.prog 31 #[(.agg #[(.int .i64 x_0.Kind), (.int .i64 x_0.Name), (.int .i64 x_0.Count), v_1])] w0 fun v w1 => v = (.string r) ∧ Ch [] w0 w1
theorem ref41_text_F_ok (n : Nat) (self : Node → Option ByteArray) (ih : ref41_text_S self) : ref41_text_S (ref41_text_F n self) := by
  intro w0 I0 x_0 v_1 r_2 hI r h
  unfold ref41_text_F at h
  refine enter Tryd.func31 rfl (Nat.le_of_ble_eq_true rfl) ?_
  have hp : Hp ⟨w0, I0, []⟩ I0 [] w0 := Hp.start hI
  apply go
  apply go
  refine ev_boxI hp rfl rfl ?_
  intro p_3 I_4 w_5 hp hs a_6
  replace r_2 := r_2.step hs
  apply go
  apply go
  apply go
  refine ev0 (rn_field rfl rfl FO26_0) ?_
  refine ev (rn_load rfl rfl (run_loadVar1 T3 (a_6.2 0 _ rfl))) ?_
  apply go
  refine sel_of (fun hc => ?_) (fun hc => ?_)
  ·
    have h := cond_t h hc
    apply go
    apply go
    refine ev0 (rn_field rfl rfl FO26_1) ?_
    refine ev (rn_load rfl rfl (run_loadVar1 T3 (a_6.2 1 _ rfl))) ?_
    obtain ⟨x_7, q_8, h⟩ := bind_some h
    refine ev_call rfl rfl C39 (((ref41_Number_ok n) _ _  x_0.Name hp.imm _ q_8).mono ?_)
    rintro _ w_9 ⟨rfl, hc⟩
    have hs := hp.stp hc
    replace hp := hp.ext hc
    obtain ⟨q_a, _, h⟩ := need_some h
    refine ⟨q_a, ?_⟩
    apply go
    obtain rfl := Option.some.inj h
    exact ⟨rfl, hp.ch⟩
  ·
    have h := cond_f h hc
    apply go
    apply go
    apply go
    apply go
    refine ev0 (rn_field rfl rfl FO26_0) ?_
    refine ev (rn_load rfl rfl (run_loadVar1 T3 (a_6.2 0 _ rfl))) ?_
    apply go
    refine sel_of (fun hc => ?_) (fun hc => ?_)
    ·
      have h := cond_t h hc
      apply go
      apply go
      refine ev0 (rn_field rfl rfl FO26_1) ?_
      refine ev (rn_load rfl rfl (run_loadVar1 T3 (a_6.2 1 _ rfl))) ?_
      obtain ⟨x_b, q_c, h⟩ := bind_some h
      refine ev_call rfl rfl C39 (((ref41_Number_ok n) _ _  x_0.Name hp.imm _ q_c).mono ?_)
      rintro _ w_d ⟨rfl, hc⟩
      have hs := hp.stp hc
      replace hp := hp.ext hc
      obtain ⟨q_e, _, h⟩ := need_some h
      refine ⟨q_e, ?_⟩
      apply go
      obtain rfl := Option.some.inj h
      exact ⟨rfl, hp.ch⟩
    ·
      have h := cond_f h hc
      apply go
      apply go
      apply go
      refine ev0 (rn_field rfl rfl FO26_0) ?_
      refine ev (rn_load rfl rfl (run_loadVar1 T3 (a_6.2 0 _ rfl))) ?_
      obtain ⟨x_f, q_g, h⟩ := bind_some h
      refine ev0 (rn_indexS rfl rfl rfl Tryd.underlying9 q_g) ?_
      refine ev_litN (d := (dI .u8)) (xs := [x_f]) (cs := [(.int .u8 x_f)]) hp rfl rfl Tryd.underlying49 T5 (by decide) rfl rfl (Elems.cons (d := (dI .u8)) (xs := _) rfl (Elems.nil _ _ _ _)) ?_
      intro v_h I_i w_j hp hs r_k
      replace a_6 := a_6.step hs
      replace r_2 := r_2.step hs
      refine ev (rn_bstr rfl rfl Tryd.underlying49 Tryd.underlying5 Tryd.underlying9 r_k) ?_
      obtain ⟨q_l, _, h⟩ := need_some h
      refine ⟨q_l, ?_⟩
      obtain ⟨y_m, q_n, h⟩ := bind_some h
      refine W.cut (γ := ByteArray) (fun g => [(1, (.pointer (some (p_3)))), (3, (.string (g)))]) (fun g w' => y_m = (g) ∧ Hp ⟨w0, I0, []⟩ I_i [] w' ∧ RepS dNode w' I_i v_1 x_0.Kids ∧ At w' I_i p_3 [(.int .i64 x_0.Kind), (.int .i64 x_0.Name), (.int .i64 x_0.Count), v_1]) ?_ ?_
      ·
        apply go
        apply go
        refine ev0 (rn_field rfl rfl FO26_2) ?_
        refine ev (rn_load rfl rfl (run_loadVar1 T3 (a_6.2 2 _ rfl))) ?_
        apply go
        refine sel_of (fun hc => ?_) (fun hc => ?_)
        ·
          have q_n := cond_t q_n hc
          apply go
          refine ev0 (rn_field rfl rfl FO26_2) ?_
          refine ev (rn_load rfl rfl (run_loadVar1 T3 (a_6.2 2 _ rfl))) ?_
          obtain ⟨x_o, q_p, q_n⟩ := bind_some q_n
          refine ev_call rfl rfl C39 (((ref41_Number_ok n) _ _  x_0.Count hp.imm _ q_p).mono ?_)
          rintro _ w_q ⟨rfl, hc⟩
          have hs := hp.stp hc
          replace hp := hp.ext hc
          replace a_6 := a_6.step hs
          replace r_2 := r_2.step hs
          obtain ⟨q_r, _, q_n⟩ := need_some q_n
          refine ⟨q_r, ?_⟩
          obtain rfl := Option.some.inj q_n
          exact ⟨(((ByteArray.mk #[40]) ++ (strOfNums [x_f])) ++ x_o), (.c rfl (.c rfl .n)), rfl, hp, r_2, a_6⟩
        ·
          have q_n := cond_f q_n hc
          apply go
          obtain rfl := Option.some.inj q_n
          exact ⟨((ByteArray.mk #[40]) ++ (strOfNums [x_f])), (.c rfl (.c rfl .n)), rfl, hp, r_2, a_6⟩
      ·
        rintro x_s w_t ⟨hy, hp, r_2, a_6⟩
        replace hy := hy.symm
        subst hy
        obtain ⟨y_u, q_v, h⟩ := bind_some h
        refine W.cut (γ := ByteArray) (fun g => [(3, (.string (g)))]) (fun g w' => y_u = (g) ∧ Hp ⟨w0, I0, []⟩ I_i [] w') ?_ ?_
        ·
          apply go
          apply go
          apply go
          refine W.loop q_v (γ := Unit) (fun s _ => [(1, (.pointer (some (p_3)))), (3, (.string (s.1))), (4, (.int .i64 (s.2)))]) (fun s _ w' => Hp ⟨w0, I0, []⟩ I_i [] w' ∧ RepS dNode w' I_i v_1 x_0.Kids ∧ At w' I_i p_3 [(.int .i64 x_0.Kind), (.int .i64 x_0.Name), (.int .i64 x_0.Count), v_1]) () (.c rfl (.c rfl (.c rfl .n))) ⟨hp, r_2, a_6⟩ ?_
          rintro ⟨x_w, x_x⟩ ⟨⟩ w_y y_z ⟨hp, r_2, a_6⟩ q_10 q_11
          unfold ref41_text_L1 at q_10
          apply go
          apply go
          apply go
          refine ev0 (rn_field rfl rfl FO26_3) ?_
          refine ev (rn_load rfl rfl (run_loadVar1 T24 (a_6.2 3 _ rfl))) ?_
          refine ev0 (rn_len rfl rfl Tryd.underlying24 r_2) ?_
          apply go
          refine sel_of (fun hc => ?_) (fun hc => ?_)
          ·
            have q_10 := cond_t q_10 hc
            apply go
            apply go
            apply go
            apply go
            refine ev0 (rn_field rfl rfl FO26_3) ?_
            refine ev (rn_load rfl rfl (run_loadVar1 T24 (a_6.2 3 _ rfl))) ?_
            obtain ⟨x_12, q_13, q_10⟩ := bind_some q_10
            refine ev_index rfl rfl rfl Tryd.underlying24 T26 r_2 q_13 ?_
            intro p_14 c_15 d_16 a_17
            obtain ⟨v_18, rfl, r_19⟩ := dNode_o d_16
            refine ev (rn_load rfl rfl (run_loadVarA T26 rfl a_17)) ?_
            obtain ⟨x_1a, q_1b, q_10⟩ := bind_some q_10
            refine ev_call rfl rfl C31 ((ih _ _  (Node.mk x_12.Kind x_12.Name x_12.Count x_12.Kids) v_18 r_19 hp.imm _ q_1b).mono ?_)
            rintro _ w_1c ⟨rfl, hc⟩
            have hs := hp.stp hc
            replace hp := hp.ext hc
            replace a_6 := a_6.step hs
            replace r_2 := r_2.step hs
            obtain ⟨q_1d, _, q_10⟩ := need_some q_10
            refine ⟨q_1d, ?_⟩
            obtain ⟨q_1e, _, q_10⟩ := need_some q_10
            refine ⟨q_1e, ?_⟩
            apply go
            exact ⟨_, (Option.some.inj q_10).symm, (), (.c rfl (.c rfl (.c rfl .n))), ⟨hp, r_2, a_6⟩⟩
          ·
            have q_10 := cond_f q_10 hc
            apply go
            have q_1f := congrArg some (q_11 _ (Option.some.inj q_10).symm)
            obtain rfl := Option.some.inj q_1f
            exact ⟨x_w, (.c rfl .n), rfl, hp⟩
        ·
          rintro x_1g w_1h ⟨hy, hp⟩
          replace hy := hy.symm
          subst hy
          apply go
          apply go
          obtain ⟨q_1i, _, h⟩ := need_some h
          refine ⟨q_1i, ?_⟩
          apply go
          obtain rfl := Option.some.inj h
          exact ⟨rfl, hp.ch⟩
theorem ref41_text_ok : ∀ n, ref41_text_S (ref41_text n)
  | 0 => by intro w0 I0 x_0 v_1 r_2 hI r h; cases h
  | n + 1 => ref41_text_F_ok n _ (ref41_text_ok n)

end Go.Proofs.YtkhmdpekfcahkaaDoor

namespace Go.Proofs.YtkhmdpekfcahkaaDoor
open Go Go.Proofs.YtkhmdpekfcahkaaDoor.Gw Go.RowKit
set_option linter.unusedVariables false
attribute [local irreducible] Ev EvQ EvS EvH
def ref41_Text_S (f : Node → Option ByteArray) : Prop := ∀ (w0 : World) (I0 : Nat → Prop) (x_0 : Node) (v_1 : Value) (r_2 : RepS dNode w0 I0 v_1 x_0.Kids) (hI : ∀ g, I0 g → g < w0.heap.size) (r : ByteArray), f x_0 = some r →
    Ret Tryd.prog 19 #[(.agg #[(.int .i64 x_0.Kind), (.int .i64 x_0.Name), (.int .i64 x_0.Count), v_1])] w0 fun v w1 => v = (.string r) ∧ Ch [] w0 w1
theorem ref41_Text_ok (n : Nat) : ref41_Text_S (ref41_Text n) := by
  intro w0 I0 x_0 v_1 r_2 hI r h
  unfold ref41_Text at h
  refine enter Tryd.func19 rfl (Nat.le_of_ble_eq_true rfl) ?_
  have hp : Hp ⟨w0, I0, []⟩ I0 [] w0 := Hp.start hI
  apply go
  apply go
  refine ev_boxI hp rfl rfl ?_
  intro p_3 I_4 w_5 hp hs a_6
  replace r_2 := r_2.step hs
  apply go
  apply go
  apply go
  refine ev (rn_load rfl rfl (run_loadVarA T26 rfl a_6)) ?_
  obtain ⟨x_7, q_8, h⟩ := bind_some h
  refine ev_call rfl rfl C30 (((ref41_Valid_ok n) _ _  (Node.mk x_0.Kind x_0.Name x_0.Count x_0.Kids) v_1 r_2 hp.imm _ q_8).mono ?_)
  rintro _ w_9 ⟨rfl, hc⟩
  have hs := hp.stp hc
  replace hp := hp.ext hc
  replace a_6 := a_6.step hs
  replace r_2 := r_2.step hs
  apply go
  refine sel_of (fun hc => ?_) (fun hc => ?_)
  ·
    have h := cond_t h hc
    apply go
    apply go
    apply go
    obtain rfl := Option.some.inj h
    exact ⟨rfl, hp.ch⟩
  ·
    have h := cond_f h hc
    apply go
    apply go
    apply go
    refine ev (rn_load rfl rfl (run_loadVarA T26 rfl a_6)) ?_
    obtain ⟨x_a, q_b, h⟩ := bind_some h
    refine ev_call rfl rfl C31 (((ref41_text_ok n) _ _  (Node.mk x_0.Kind x_0.Name x_0.Count x_0.Kids) v_1 r_2 hp.imm _ q_b).mono ?_)
    rintro _ w_c ⟨rfl, hc⟩
    have hs := hp.stp hc
    replace hp := hp.ext hc
    apply go
    obtain rfl := Option.some.inj h
    exact ⟨rfl, hp.ch⟩

end Go.Proofs.YtkhmdpekfcahkaaDoor

namespace Go.Proofs.YtkhmdpekfcahkaaDoor
open Go Go.Proofs.YtkhmdpekfcahkaaDoor.Gw Go.RowKit
set_option linter.unusedVariables false
attribute [local irreducible] Ev EvQ EvS EvH
def ref42_Same_S (f : Node → Node → Option Bool) : Prop := ∀ (w0 : World) (I0 : Nat → Prop) (x_0 : Node) (v_1 : Value) (r_2 : RepS dNode w0 I0 v_1 x_0.Kids) (x_3 : Node) (v_4 : Value) (r_5 : RepS dNode w0 I0 v_4 x_3.Kids) (hI : ∀ g, I0 g → g < w0.heap.size) (r : Bool), f x_0 x_3 = some r →
    Ret Tryd.prog 9 #[(.agg #[(.int .i64 x_0.Kind), (.int .i64 x_0.Name), (.int .i64 x_0.Count), v_1]), (.agg #[(.int .i64 x_3.Kind), (.int .i64 x_3.Name), (.int .i64 x_3.Count), v_4])] w0 fun v w1 => v = (.bool r) ∧ Ch [] w0 w1
theorem ref42_Same_ok (n : Nat) : ref42_Same_S (ref42_Same n) := by
  intro w0 I0 x_0 v_1 r_2 x_3 v_4 r_5 hI r h
  unfold ref42_Same at h
  refine enter Tryd.func9 rfl (Nat.le_of_ble_eq_true rfl) ?_
  have hp : Hp ⟨w0, I0, []⟩ I0 [] w0 := Hp.start hI
  apply go
  apply go
  refine ev_boxI hp rfl rfl ?_
  intro p_6 I_7 w_8 hp hs a_9
  replace r_5 := r_5.step hs
  replace r_2 := r_2.step hs
  refine ev_boxI hp rfl rfl ?_
  intro p_a I_b w_c hp hs a_d
  replace a_9 := a_9.step hs
  replace r_2 := r_2.step hs
  replace r_5 := r_5.step hs
  apply go
  refine W.quiet (fun w' => Ch [] w_c w') MX (by kernel_rfl) (Ch.drew [] w_c) ?_
  refine evq (fun w' hw => rn_load rfl rfl (run_loadVarA T26 rfl (a_9.step (hp.stp hw)))) ?_
  obtain ⟨x_e, q_f, h⟩ := bind_some h
  refine evq_call rfl rfl C19 (fun w' hw => ((ref41_Text_ok n) _ _  (Node.mk x_0.Kind x_0.Name x_0.Count x_0.Kids) v_1 (r_2.step (hp.stp hw)) (hp.ext hw).imm _ q_f).mono fun _ _ ⟨e, hc⟩ => ⟨e, hw.trans hc⟩) ?_
  refine evq (fun w' hw => rn_load rfl rfl (run_loadVarA T26 rfl (a_d.step (hp.stp hw)))) ?_
  obtain ⟨x_g, q_h, h⟩ := bind_some h
  refine evq_call rfl rfl C19 (fun w' hw => ((ref41_Text_ok n) _ _  (Node.mk x_3.Kind x_3.Name x_3.Count x_3.Kids) v_4 (r_5.step (hp.stp hw)) (hp.ext hw).imm _ q_h).mono fun _ _ ⟨e, hc⟩ => ⟨e, hw.trans hc⟩) ?_
  intro w_i hc
  have hs := hp.stp hc
  replace hp := hp.ext hc
  apply go
  obtain rfl := Option.some.inj h
  exact ⟨rfl, hp.ch⟩

end Go.Proofs.YtkhmdpekfcahkaaDoor

namespace Go.Proofs.YtkhmdpekfcahkaaDoor
open Go Go.Proofs.YtkhmdpekfcahkaaDoor.Gw Go.RowKit
set_option linter.unusedVariables false
attribute [local irreducible] Ev EvQ EvS EvH
def law42_MissionBuilds_S (f : (List Task) → Option Bool) : Prop := ∀ (w0 : World) (I0 : Nat → Prop) (tb : Tb w0 I0 0 .u64 pow10) (x_0 : (List Task)) (v_1 : Value) (r_2 : RepS dTask w0 I0 v_1 x_0) (hI : ∀ g, I0 g → g < w0.heap.size) (r : Bool), f x_0 = some r →
    Ret Tryd.prog 3 #[v_1] w0 fun v w1 => v = (.bool r) ∧ Ch [] w0 w1
theorem law42_MissionBuilds_ok (n : Nat) : law42_MissionBuilds_S (law42_MissionBuilds n) := by
  intro w0 I0 tb x_0 v_1 r_2 hI r h
  unfold law42_MissionBuilds at h
  refine enter Tryd.func3 rfl (Nat.le_of_ble_eq_true rfl) ?_
  have hp : Hp ⟨w0, I0, []⟩ I0 [] w0 := Hp.start hI
  apply go
  apply go
  apply go
  obtain ⟨y_3, q_4, h⟩ := bind_some h
  refine W.cut (γ := Bool) (fun g => [(0, v_1), (13, (.bool (g)))]) (fun g w' => y_3 = (g) ∧ Hp ⟨w0, I0, []⟩ I0 [] w' ∧ RepS dTask w' I0 v_1 x_0 ∧ Tb w' I0 0 .u64 pow10) ?_ ?_
  ·
    apply go
    obtain ⟨x_5, q_6, q_4⟩ := bind_some q_4
    refine ev_call rfl rfl C4 (((law42_awake_ok n) _ _   hp.imm _ q_6).mono ?_)
    rintro _ w_7 ⟨rfl, hc⟩
    have hs := hp.stp hc
    replace hp := hp.ext hc
    replace r_2 := r_2.step hs
    replace tb := tb.step hs
    refine sel_of (fun hc => ?_) (fun hc => ?_)
    ·
      have q_4 := cond_t q_4 hc
      obtain rfl := Option.some.inj q_4
      exact ⟨true, (.c rfl (.c rfl .n)), rfl, hp, r_2, tb⟩
    ·
      have q_4 := cond_f q_4 hc
      refine ev0 (rn_len rfl rfl Tryd.underlying22 r_2) ?_
      obtain rfl := Option.some.inj q_4
      exact ⟨(decide ((x_0.length : Int) > 9)), (.c rfl (.c rfl .n)), rfl, hp, r_2, tb⟩
  ·
    rintro x_8 w_9 ⟨hy, hp, r_2, tb⟩
    replace hy := hy.symm
    subst hy
    apply go
    refine sel_of (fun hc => ?_) (fun hc => ?_)
    ·
      have h := cond_t h hc
      apply go
      apply go
      obtain ⟨x_a, q_b, h⟩ := bind_some h
      refine ev_call rfl rfl C4 (((law42_awake_ok n) _ _   hp.imm _ q_b).mono ?_)
      rintro _ w_c ⟨rfl, hc⟩
      have hs := hp.stp hc
      replace hp := hp.ext hc
      replace tb := tb.step hs
      apply go
      obtain rfl := Option.some.inj h
      exact ⟨rfl, hp.ch⟩
    ·
      have h := cond_f h hc
      apply go
      apply go
      apply go
      obtain ⟨⟨x_d, x_e⟩, q_f, h⟩ := bind_some h
      refine ev_call rfl rfl C5 (((mission_Build_ok n) _ _  x_0 v_1 r_2 hp.imm _ q_f).mono ?_)
      rintro _ w_g ⟨I_h, v_i, hv, hq, r_j⟩
      replace hv := hv.symm
      subst hv
      have hs := hq.st
      have hp := hp.join0 hq
      replace r_2 := r_2.step hs
      replace tb := tb.step hs
      refine ev_alloc hp rfl T26 ?_
      intro g_k w_l hp hs
      replace r_2 := r_2.step hs
      replace r_j := r_j.step hs
      replace tb := tb.step hs
      refine ev_storeA hp (i := 0) (off := 0) (vs := [(.int .i64 x_d.Kind), (.int .i64 x_d.Name), (.int .i64 x_d.Count), v_i]) rfl rfl rfl rfl T26 rfl (Nat.le_of_ble_eq_true rfl) (ones_cons rfl (ones_cons rfl (ones_cons rfl (ones_cons r_j.one ones_nil)))) ?_
      intro w_m hp hs
      replace r_2 := r_2.step hs
      replace r_j := r_j.step hs
      replace tb := tb.step hs
      apply go
      apply go
      obtain ⟨⟨x_n, x_o⟩, q_p, h⟩ := bind_some h
      refine ev_call rfl rfl C6 (((ref42_Build_ok n) _ _  x_0 v_1 r_2 hp.imm _ q_p).mono ?_)
      rintro _ w_q ⟨I_r, v_s, hv, hq, r_t⟩
      replace hv := hv.symm
      subst hv
      have hs := hq.st
      have hp := hp.join0 hq
      replace r_j := r_j.step hs
      replace tb := tb.step hs
      refine ev_alloc hp rfl T26 ?_
      intro g_u w_v hp hs
      replace r_t := r_t.step hs
      replace r_j := r_j.step hs
      replace tb := tb.step hs
      refine ev_storeA hp (i := 0) (off := 0) (vs := [(.int .i64 x_n.Kind), (.int .i64 x_n.Name), (.int .i64 x_n.Count), v_s]) rfl rfl rfl rfl T26 rfl (Nat.le_of_ble_eq_true rfl) (ones_cons rfl (ones_cons rfl (ones_cons rfl (ones_cons r_t.one ones_nil)))) ?_
      intro w_w hp hs
      replace r_t := r_t.step hs
      replace r_j := r_j.step hs
      replace tb := tb.step hs
      apply go
      apply go
      apply go
      apply go
      refine sel_of (fun hc => ?_) (fun hc => ?_)
      ·
        have h := cond_t h hc
        apply go
        apply go
        apply go
        obtain rfl := Option.some.inj h
        exact ⟨rfl, hp.ch⟩
      ·
        have h := cond_f h hc
        apply go
        apply go
        apply go
        apply go
        apply go
        refine sel_of (fun hc => ?_) (fun hc => ?_)
        ·
          have h := cond_t h hc
          obtain ⟨y_x, q_y, h⟩ := bind_some h
          refine W.cut (γ := Bool) (fun g => [(2, (.bool (g)))]) (fun g w' => y_x = (g) ∧ w_w = w') ?_ ?_
          ·
            apply go
            refine ev0 (rn_field rfl rfl FO26_0) ?_
            refine ev (rn_load rfl rfl (run_loadVar1 T3 (hp.cell (i := 1) (off := 0) rfl rfl))) ?_
            refine sel_of (fun hc => ?_) (fun hc => ?_)
            ·
              have q_y := cond_t q_y hc
              refine ev0 (rn_field rfl rfl FO26_3) ?_
              refine ev (rn_load rfl rfl (run_loadVar1 T24 (hp.cell (i := 1) (off := 3) rfl rfl))) ?_
              refine ev0 (rn_len rfl rfl Tryd.underlying24 r_j) ?_
              obtain rfl := Option.some.inj q_y
              exact ⟨((x_d.Kids.length : Int) == 0), (.c rfl .n), rfl, rfl⟩
            ·
              have q_y := cond_f q_y hc
              obtain rfl := Option.some.inj q_y
              exact ⟨false, (.c rfl .n), rfl, rfl⟩
          ·
            rintro x_z _ ⟨hy, rfl⟩
            replace hy := hy.symm
            subst hy
            apply go
            obtain rfl := Option.some.inj h
            exact ⟨rfl, hp.ch⟩
        ·
          have h := cond_f h hc
          apply go
          obtain ⟨y_10, q_11, h⟩ := bind_some h
          refine W.cut (γ := Bool) (fun g => [(2, (.bool (g)))]) (fun g w' => y_10 = (g) ∧ Hp ⟨w0, I0, []⟩ I_r [] w' ∧ Tb w' I_r 0 .u64 pow10) ?_ ?_
          ·
            refine W.quiet (fun w' => Ch [] w_w w') MX (by kernel_rfl) (Ch.drew [] w_w) ?_
            refine evq (fun w' hw => rn_load rfl rfl (run_loadVarA T26 rfl ((hp.ext hw).at_ (i := 1) rfl))) ?_
            obtain ⟨x_12, q_13, q_11⟩ := bind_some q_11
            refine evq_call rfl rfl C7 (fun w' hw => ((tree_Valid_ok n) _ _  (Node.mk x_d.Kind x_d.Name x_d.Count x_d.Kids) v_i (r_j.step (hp.stp hw)) (hp.ext hw).imm _ q_13).mono fun _ _ ⟨e, hc⟩ => ⟨e, hw.trans hc⟩) ?_
            refine sel_of (fun hc => ?_) (fun hc => ?_)
            ·
              have q_11 := cond_t q_11 hc
              refine evq (fun w' hw => rn_load rfl rfl (run_loadVarA T26 rfl ((hp.ext hw).at_ (i := 1) rfl))) ?_
              obtain ⟨x_14, q_15, q_11⟩ := bind_some q_11
              refine evq_call rfl rfl C8 (fun w' hw => ((tree_Text_ok n) _ _ (tb.step (hp.stp hw)) (Node.mk x_d.Kind x_d.Name x_d.Count x_d.Kids) v_i (r_j.step (hp.stp hw)) (hp.ext hw).imm _ q_15).mono fun _ _ ⟨e, hc⟩ => ⟨e, hw.trans hc⟩) ?_
              refine evq (fun w' hw => rn_load rfl rfl (run_loadVarA T26 rfl ((hp.ext hw).at_ (i := 0) rfl))) ?_
              obtain ⟨x_16, q_17, q_11⟩ := bind_some q_11
              refine evq_call rfl rfl C8 (fun w' hw => ((tree_Text_ok n) _ _ (tb.step (hp.stp hw)) (Node.mk x_n.Kind x_n.Name x_n.Count x_n.Kids) v_s (r_t.step (hp.stp hw)) (hp.ext hw).imm _ q_17).mono fun _ _ ⟨e, hc⟩ => ⟨e, hw.trans hc⟩) ?_
              refine sel_of (fun hc => ?_) (fun hc => ?_)
              ·
                have q_11 := cond_t q_11 hc
                refine evq (fun w' hw => rn_load rfl rfl (run_loadVarA T26 rfl ((hp.ext hw).at_ (i := 1) rfl))) ?_
                refine evq (fun w' hw => rn_load rfl rfl (run_loadVarA T26 rfl ((hp.ext hw).at_ (i := 0) rfl))) ?_
                obtain ⟨x_18, q_19, q_11⟩ := bind_some q_11
                refine evq_call rfl rfl C9 (fun w' hw => ((ref42_Same_ok n) _ _  (Node.mk x_d.Kind x_d.Name x_d.Count x_d.Kids) v_i (r_j.step (hp.stp hw)) (Node.mk x_n.Kind x_n.Name x_n.Count x_n.Kids) v_s (r_t.step (hp.stp hw)) (hp.ext hw).imm _ q_19).mono fun _ _ ⟨e, hc⟩ => ⟨e, hw.trans hc⟩) ?_
                intro w_1a hc
                have hs := hp.stp hc
                replace hp := hp.ext hc
                replace r_t := r_t.step hs
                replace r_j := r_j.step hs
                replace tb := tb.step hs
                obtain rfl := Option.some.inj q_11
                have hp := hp.sel [] (by decide)
                exact ⟨x_18, (.c rfl .n), rfl, hp, tb⟩
              ·
                have q_11 := cond_f q_11 hc
                intro w_1b hc
                have hs := hp.stp hc
                replace hp := hp.ext hc
                replace r_t := r_t.step hs
                replace r_j := r_j.step hs
                replace tb := tb.step hs
                obtain rfl := Option.some.inj q_11
                have hp := hp.sel [] (by decide)
                exact ⟨false, (.c rfl .n), rfl, hp, tb⟩
            ·
              have q_11 := cond_f q_11 hc
              intro w_1c hc
              have hs := hp.stp hc
              replace hp := hp.ext hc
              replace r_t := r_t.step hs
              replace r_j := r_j.step hs
              replace tb := tb.step hs
              obtain rfl := Option.some.inj q_11
              have hp := hp.sel [] (by decide)
              exact ⟨false, (.c rfl .n), rfl, hp, tb⟩
          ·
            rintro x_1d w_1e ⟨hy, hp, tb⟩
            replace hy := hy.symm
            subst hy
            apply go
            obtain rfl := Option.some.inj h
            exact ⟨rfl, hp.ch⟩

end Go.Proofs.YtkhmdpekfcahkaaDoor
