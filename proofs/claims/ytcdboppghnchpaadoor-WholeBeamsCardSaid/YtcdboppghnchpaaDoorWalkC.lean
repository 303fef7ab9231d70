/-
  Each function of the program computes the plain function of its name.
-/
import Derived.Test.YtcdboppghnchpaaDoorFactsA
import Derived.Test.YtcdboppghnchpaaDoorWalkA
import Derived.Test.YtcdboppghnchpaaDoorWalkB
namespace Go.Proofs.YtcdboppghnchpaaDoor
open Go Go.Proofs.YtcdboppghnchpaaDoor.Gw Go.RowKit
set_option linter.unusedVariables false
attribute [local irreducible] Ev EvQ EvS EvH
def rotation_Inverse_S (f : Rot → Option Rot) : Prop := ∀ (w0 : World) (I0 : Nat → Prop) (x_0 : Rot) (v_1 : Value) (r_2 : RepS (dI .u32) w0 I0 v_1 x_0.P.Mag) (v_3 : Value) (r_4 : RepS (dI .u32) w0 I0 v_3 x_0.Q.Mag) (hI : ∀ g, I0 g → g < w0.heap.size) (r : Rot), f x_0 = some r →
    Ret Tryd.prog 40 #[(.agg #[(.bool x_0.P.Neg), v_1, (.bool x_0.Q.Neg), v_3])] w0 fun v w1 => ∃ (I1 : Nat → Prop) (u_5 : Value) (u_6 : Value), v = (.agg #[(.bool r.P.Neg), u_5, (.bool r.Q.Neg), u_6]) ∧ Hp ⟨w0, I0, []⟩ I1 [] w1 ∧ RepS (dI .u32) w1 I1 u_5 r.P.Mag ∧ RepS (dI .u32) w1 I1 u_6 r.Q.Mag
theorem rotation_Inverse_ok (n : Nat) : rotation_Inverse_S (rotation_Inverse n) := by
  intro w0 I0 x_0 v_1 r_2 v_3 r_4 hI r h
  unfold rotation_Inverse at h
  refine enter Tryd.func40 rfl (Nat.le_of_ble_eq_true rfl) ?_
  have hp : Hp ⟨w0, I0, []⟩ I0 [] w0 := Hp.start hI
  apply go
  apply go
  refine ev_boxI hp rfl rfl ?_
  intro p_5 I_6 w_7 hp hs a_8
  replace r_2 := r_2.step hs
  replace r_4 := r_4.step hs
  refine ev_alloc hp rfl T38 ?_
  intro g_9 w_a hp hs
  replace a_8 := a_8.step hs
  replace r_2 := r_2.step hs
  replace r_4 := r_4.step hs
  apply go
  apply go
  refine ev (rn_load rfl rfl (run_loadVarA T38 rfl a_8)) ?_
  obtain ⟨x_b, q_c, h⟩ := bind_some h
  refine ev_call rfl rfl C55 (((rotation_of_ok n) _ _  (Rot.mk (Int_2.mk x_0.P.Neg x_0.P.Mag) (Int_2.mk x_0.Q.Neg x_0.Q.Mag)) v_1 r_2 v_3 r_4 hp.imm _ q_c).mono ?_)
  rintro _ w_d ⟨I_e, v_f, v_g, hv, hq, r_h, r_i⟩
  replace hv := hv.symm
  subst hv
  have hs := hq.st
  have hp := hp.join0 hq
  refine ev_alloc hp rfl T121 ?_
  intro g_j w_k hp hs
  replace r_h := r_h.step hs
  replace r_i := r_i.step hs
  refine ev_storeA hp (i := 0) (off := 0) (vs := [(.bool x_b.re.Neg), v_f, (.bool x_b.im.Neg), v_g]) rfl rfl rfl rfl T121 rfl (Nat.le_of_ble_eq_true rfl) (ones_cons rfl (ones_cons r_h.one (ones_cons rfl (ones_cons r_i.one ones_nil)))) ?_
  intro w_l hp hs
  replace r_h := r_h.step hs
  replace r_i := r_i.step hs
  apply go
  apply go
  refine ev0 (rn_field rfl rfl FO121_1) ?_
  refine ev (rn_load rfl rfl (run_loadVarA T29 rfl (((hp.at_ (i := 0) rfl).drop 2).take 2))) ?_
  obtain ⟨x_m, q_n, h⟩ := bind_some h
  refine ev_call rfl rfl C60 (((integer_Neg_ok n) _ _  (Int_2.mk x_b.im.Neg x_b.im.Mag) v_g r_i hp.imm _ q_n).mono ?_)
  rintro _ w_o ⟨I_p, v_q, hv, hq, r_r⟩
  replace hv := hv.symm
  subst hv
  have hs := hq.st
  have hp := hp.join0 hq
  replace r_h := r_h.step hs
  replace r_i := r_i.step hs
  refine ev0 (rn_field rfl rfl FO121_1) ?_
  refine ev_storeA hp (i := 0) (off := 2) (vs := [(.bool x_m.Neg), v_q]) rfl rfl rfl rfl T29 rfl (Nat.le_of_ble_eq_true rfl) (ones_cons rfl (ones_cons r_r.one ones_nil)) ?_
  intro w_s hp hs
  replace r_h := r_h.step hs
  replace r_r := r_r.step hs
  apply go
  apply go
  refine ev (rn_load rfl rfl (run_loadVarA T121 rfl (hp.at_ (i := 0) rfl))) ?_
  obtain ⟨x_t, q_u, h⟩ := bind_some h
  refine ev_call rfl rfl C72 (((rotation_gauss_rot_ok n) _ _  (Gauss.mk (Int_2.mk x_b.re.Neg x_b.re.Mag) (Int_2.mk x_m.Neg x_m.Mag)) v_f r_h v_q r_r hp.imm _ q_u).mono ?_)
  rintro _ w_v ⟨I_w, v_x, v_y, hv, hq, r_z, r_10⟩
  replace hv := hv.symm
  subst hv
  have hs := hq.st
  have hp := hp.join0 hq
  replace r_h := r_h.step hs
  replace r_r := r_r.step hs
  refine ev_storeA hp (i := 1) (off := 0) (vs := [(.bool x_t.P.Neg), v_x, (.bool x_t.Q.Neg), v_y]) rfl rfl rfl rfl T38 rfl (Nat.le_of_ble_eq_true rfl) (ones_cons rfl (ones_cons r_z.one (ones_cons rfl (ones_cons r_10.one ones_nil)))) ?_
  intro w_11 hp hs
  replace r_h := r_h.step hs
  replace r_r := r_r.step hs
  replace r_z := r_z.step hs
  replace r_10 := r_10.step hs
  apply go
  obtain rfl := Option.some.inj h
  refine ⟨_, run_loadVarA T38 rfl (hp.at_ (i := 1) rfl), ?_⟩
  have hp := hp.sel [] (by decide)
  exact ⟨I_w, v_x, v_y, rfl, hp, r_z, r_10⟩

end Go.Proofs.YtcdboppghnchpaaDoor

namespace Go.Proofs.YtcdboppghnchpaaDoor
open Go Go.Proofs.YtcdboppghnchpaaDoor.Gw Go.RowKit
set_option linter.unusedVariables false
attribute [local irreducible] Ev EvQ EvS EvH
def rotation_Back_S (f : Transform → Option Transform) : Prop := ∀ (w0 : World) (I0 : Nat → Prop) (x_0 : Transform) (v_1 : Value) (r_2 : RepS (dI .u32) w0 I0 v_1 x_0.R.P.Mag) (v_3 : Value) (r_4 : RepS (dI .u32) w0 I0 v_3 x_0.R.Q.Mag) (v_5 : Value) (r_6 : RepS (dI .u32) w0 I0 v_5 x_0.X.Num.Mag) (v_7 : Value) (r_8 : RepS (dI .u32) w0 I0 v_7 x_0.X.Den.Mag) (v_9 : Value) (r_a : RepS (dI .u32) w0 I0 v_9 x_0.Y.Num.Mag) (v_b : Value) (r_c : RepS (dI .u32) w0 I0 v_b x_0.Y.Den.Mag) (hI : ∀ g, I0 g → g < w0.heap.size) (r : Transform), f x_0 = some r →
    Ret Tryd.prog 15 #[(.agg #[(.bool x_0.R.P.Neg), v_1, (.bool x_0.R.Q.Neg), v_3, (.bool x_0.X.Num.Neg), v_5, (.bool x_0.X.Den.Neg), v_7, (.bool x_0.Y.Num.Neg), v_9, (.bool x_0.Y.Den.Neg), v_b])] w0 fun v w1 => ∃ (I1 : Nat → Prop) (u_d : Value) (u_e : Value) (u_f : Value) (u_g : Value) (u_h : Value) (u_i : Value), v = (.agg #[(.bool r.R.P.Neg), u_d, (.bool r.R.Q.Neg), u_e, (.bool r.X.Num.Neg), u_f, (.bool r.X.Den.Neg), u_g, (.bool r.Y.Num.Neg), u_h, (.bool r.Y.Den.Neg), u_i]) ∧ Hp ⟨w0, I0, []⟩ I1 [] w1 ∧ RepS (dI .u32) w1 I1 u_d r.R.P.Mag ∧ RepS (dI .u32) w1 I1 u_e r.R.Q.Mag ∧ RepS (dI .u32) w1 I1 u_f r.X.Num.Mag ∧ RepS (dI .u32) w1 I1 u_g r.X.Den.Mag ∧ RepS (dI .u32) w1 I1 u_h r.Y.Num.Mag ∧ RepS (dI .u32) w1 I1 u_i r.Y.Den.Mag
set_option maxHeartbeats 6400000 in
theorem rotation_Back_ok (n : Nat) : rotation_Back_S (rotation_Back n) := by
  intro w0 I0 x_0 v_1 r_2 v_3 r_4 v_5 r_6 v_7 r_8 v_9 r_a v_b r_c hI r h
  unfold rotation_Back at h
  refine enter Tryd.func15 rfl (Nat.le_of_ble_eq_true rfl) ?_
  have hp : Hp ⟨w0, I0, []⟩ I0 [] w0 := Hp.start hI
  apply go
  apply go
  refine ev_boxI hp rfl rfl ?_
  intro p_d I_e w_f hp hs a_g
  replace r_2 := r_2.step hs
  replace r_4 := r_4.step hs
  replace r_6 := r_6.step hs
  replace r_8 := r_8.step hs
  replace r_a := r_a.step hs
  replace r_c := r_c.step hs
  refine ev_alloc hp rfl T41 ?_
  intro g_h w_i hp hs
  replace a_g := a_g.step hs
  replace r_2 := r_2.step hs
  replace r_4 := r_4.step hs
  replace r_6 := r_6.step hs
  replace r_8 := r_8.step hs
  replace r_a := r_a.step hs
  replace r_c := r_c.step hs
  apply go
  apply go
  refine ev0 (rn_field rfl rfl FO41_0) ?_
  refine ev (rn_load rfl rfl (run_loadVarA T38 rfl ((a_g.drop 0).take 4))) ?_
  obtain ⟨x_j, q_k, h⟩ := bind_some h
  refine ev_call rfl rfl C40 (((rotation_Inverse_ok n) _ _  (Rot.mk (Int_2.mk x_0.R.P.Neg x_0.R.P.Mag) (Int_2.mk x_0.R.Q.Neg x_0.R.Q.Mag)) v_1 r_2 v_3 r_4 hp.imm _ q_k).mono ?_)
  rintro _ w_l ⟨I_m, v_n, v_o, hv, hq, r_p, r_q⟩
  replace hv := hv.symm
  subst hv
  have hs := hq.st
  have hp := hp.join0 hq
  replace a_g := a_g.step hs
  replace r_2 := r_2.step hs
  replace r_4 := r_4.step hs
  replace r_6 := r_6.step hs
  replace r_8 := r_8.step hs
  replace r_a := r_a.step hs
  replace r_c := r_c.step hs
  refine ev_alloc hp rfl T38 ?_
  intro g_r w_s hp hs
  replace a_g := a_g.step hs
  replace r_2 := r_2.step hs
  replace r_4 := r_4.step hs
  replace r_6 := r_6.step hs
  replace r_8 := r_8.step hs
  replace r_a := r_a.step hs
  replace r_c := r_c.step hs
  replace r_p := r_p.step hs
  replace r_q := r_q.step hs
  refine ev_storeA hp (i := 0) (off := 0) (vs := [(.bool x_j.P.Neg), v_n, (.bool x_j.Q.Neg), v_o]) rfl rfl rfl rfl T38 rfl (Nat.le_of_ble_eq_true rfl) (ones_cons rfl (ones_cons r_p.one (ones_cons rfl (ones_cons r_q.one ones_nil)))) ?_
  intro w_t hp hs
  replace a_g := a_g.step hs
  replace r_2 := r_2.step hs
  replace r_4 := r_4.step hs
  replace r_6 := r_6.step hs
  replace r_8 := r_8.step hs
  replace r_a := r_a.step hs
  replace r_c := r_c.step hs
  replace r_p := r_p.step hs
  replace r_q := r_q.step hs
  obtain ⟨y_u, q_v, h⟩ := bind_some h
  refine W.cut (γ := (Bool × (List Int) × Bool × (List Int) × Bool × (List Int) × Bool × (List Int) × Nat × Value × Value × Nat × Value × Value × (Nat → Prop))) (fun g => [(2, (.pointer (some ⟨g_h, 0, none⟩))), (3, (.pointer (some ⟨g_r, 0, none⟩))), (4, (.pointer (some ⟨(g.2.2.2.2.2.2.2.2.1), 0, none⟩))), (5, (.pointer (some ⟨(g.2.2.2.2.2.2.2.2.2.2.2.1), 0, none⟩)))]) (fun g w' => y_u = ((g.1), (g.2.1), (g.2.2.1), (g.2.2.2.1), (g.2.2.2.2.1), (g.2.2.2.2.2.1), (g.2.2.2.2.2.2.1), (g.2.2.2.2.2.2.2.1)) ∧ Hp ⟨w0, I0, []⟩ (g.2.2.2.2.2.2.2.2.2.2.2.2.2.2) [some (g_h, [(.bool false), (.slice none 0 0), (.bool false), (.slice none 0 0), (.bool false), (.slice none 0 0), (.bool false), (.slice none 0 0), (.bool false), (.slice none 0 0), (.bool false), (.slice none 0 0)], 41), some (g_r, [(.bool x_j.P.Neg), v_n, (.bool x_j.Q.Neg), v_o], 38), some ((g.2.2.2.2.2.2.2.2.1), [(.bool (g.1)), (g.2.2.2.2.2.2.2.2.2.1), (.bool (g.2.2.1)), (g.2.2.2.2.2.2.2.2.2.2.1)], 31), some ((g.2.2.2.2.2.2.2.2.2.2.2.1), [(.bool (g.2.2.2.2.1)), (g.2.2.2.2.2.2.2.2.2.2.2.2.1), (.bool (g.2.2.2.2.2.2.1)), (g.2.2.2.2.2.2.2.2.2.2.2.2.2.1)], 31)] w' ∧ RepS (dI .u32) w' (g.2.2.2.2.2.2.2.2.2.2.2.2.2.2) v_n x_j.P.Mag ∧ RepS (dI .u32) w' (g.2.2.2.2.2.2.2.2.2.2.2.2.2.2) v_o x_j.Q.Mag ∧ RepS (dI .u32) w' (g.2.2.2.2.2.2.2.2.2.2.2.2.2.2) (g.2.2.2.2.2.2.2.2.2.1) (g.2.1) ∧ RepS (dI .u32) w' (g.2.2.2.2.2.2.2.2.2.2.2.2.2.2) (g.2.2.2.2.2.2.2.2.2.2.1) (g.2.2.2.1) ∧ RepS (dI .u32) w' (g.2.2.2.2.2.2.2.2.2.2.2.2.2.2) (g.2.2.2.2.2.2.2.2.2.2.2.2.1) (g.2.2.2.2.2.1) ∧ RepS (dI .u32) w' (g.2.2.2.2.2.2.2.2.2.2.2.2.2.2) (g.2.2.2.2.2.2.2.2.2.2.2.2.2.1) (g.2.2.2.2.2.2.2.1)) ?_ ?_
  ·
    have hs := hp.stp (Ch.drew [] w_t)
    have hp := hp.drew
    replace a_g := a_g.step hs
    replace r_2 := r_2.step hs
    replace r_4 := r_4.step hs
    replace r_6 := r_6.step hs
    replace r_8 := r_8.step hs
    replace r_a := r_a.step hs
    replace r_c := r_c.step hs
    replace r_p := r_p.step hs
    replace r_q := r_q.step hs
    refine W.heldG (.q 0 (.q 1 (.q 2 (.q 4 (.q 5 (.l 3 (.l 6 (.l 7 (.q 8 (.q 9 (.q 10 (.l 11 (.l 12 (.l 13 (.l 14 .done .no) .no) .no) (.l 12 (.l 11 (.l 13 (.l 14 .done .no) .no) .no) .no))))) (.l 11 (.l 7 (.q 8 (.q 9 (.q 10 (.l 12 (.l 13 (.l 14 .done .no) .no) .no)))) (.l 12 (.l 7 (.q 8 (.q 9 (.q 10 (.l 13 (.l 14 .done .no) .no)))) .no) .no)) (.l 12 (.l 7 (.q 8 (.q 9 (.q 10 (.l 11 (.l 13 (.l 14 .done .no) .no) .no)))) (.l 11 (.l 7 (.q 8 (.q 9 (.q 10 (.l 13 (.l 14 .done .no) .no)))) .no) .no)) .no))) (.l 11 (.l 6 (.l 7 (.q 8 (.q 9 (.q 10 (.l 12 (.l 13 (.l 14 .done .no) .no) .no)))) (.l 12 (.l 7 (.q 8 (.q 9 (.q 10 (.l 13 (.l 14 .done .no) .no)))) .no) .no)) (.l 12 (.l 6 (.l 7 (.q 8 (.q 9 (.q 10 (.l 13 (.l 14 .done .no) .no)))) .no) .no) .no)) (.l 12 (.l 6 (.l 7 (.q 8 (.q 9 (.q 10 (.l 11 (.l 13 (.l 14 .done .no) .no) .no)))) (.l 11 (.l 7 (.q 8 (.q 9 (.q 10 (.l 13 (.l 14 .done .no) .no)))) .no) .no)) (.l 11 (.l 6 (.l 7 (.q 8 (.q 9 (.q 10 (.l 13 (.l 14 .done .no) .no)))) .no) .no) .no)) .no))) (.l 11 (.l 3 (.l 6 (.l 7 (.q 8 (.q 9 (.q 10 (.l 12 (.l 13 (.l 14 .done .no) .no) .no)))) (.l 12 (.l 7 (.q 8 (.q 9 (.q 10 (.l 13 (.l 14 .done .no) .no)))) .no) .no)) (.l 12 (.l 6 (.l 7 (.q 8 (.q 9 (.q 10 (.l 13 (.l 14 .done .no) .no)))) .no) .no) .no)) (.l 12 (.l 3 (.l 6 (.l 7 (.q 8 (.q 9 (.q 10 (.l 13 (.l 14 .done .no) .no)))) .no) .no) .no) .no)) (.l 12 (.l 3 (.l 6 (.l 7 (.q 8 (.q 9 (.q 10 (.l 11 (.l 13 (.l 14 .done .no) .no) .no)))) (.l 11 (.l 7 (.q 8 (.q 9 (.q 10 (.l 13 (.l 14 .done .no) .no)))) .no) .no)) (.l 11 (.l 6 (.l 7 (.q 8 (.q 9 (.q 10 (.l 13 (.l 14 .done .no) .no)))) .no) .no) .no)) (.l 11 (.l 3 (.l 6 (.l 7 (.q 8 (.q 9 (.q 10 (.l 13 (.l 14 .done .no) .no)))) .no) .no) .no) .no)) .no)))))))) (SK (Stp I_m w_t.drew I_m) [(g_r, [(.bool x_j.P.Neg), v_n, (.bool x_j.Q.Neg), v_o], 38)] [[]]) MX (by kernel_rfl) ⟨Stp.refl _ _, (kp_cons (fun _ => (hp.own 0 _ _ _ rfl).1) kp_nil)⟩ ?_
    have hz := Stp.refl I_m w_t.drew
    refine ⟨SK.same (by kernel_rfl), ?_⟩
    refine evh (fun w' hw => rn_load rfl rfl (run_loadVarA T38 rfl ((S0.keep (p := 0) hw rfl rfl (by kernel_rfl)).at_ (i := 0) rfl))) ?_
    refine ⟨SK.same (by kernel_rfl), ?_⟩
    refine evh0 (rn_field rfl rfl FO41_1) ?_
    refine ⟨SK.same (by kernel_rfl), ?_⟩
    refine evh (fun w' hw => rn_load rfl rfl (run_loadVarA T31 rfl (((a_g.step (S0.si hw)).drop 4).take 4))) ?_
    refine ⟨SK.same (by kernel_rfl), ?_⟩
    refine evh0 (rn_field rfl rfl FO41_2) ?_
    refine ⟨SK.same (by kernel_rfl), ?_⟩
    refine evh (fun w' hw => rn_load rfl rfl (run_loadVarA T31 rfl (((a_g.step (S0.si hw)).drop 8).take 4))) ?_
    refine ⟨?_, ?_⟩
    ·
      obtain ⟨x_w, q_x, q_v⟩ := bind_some q_v
      refine ev_call rfl rfl C41 (((rational_Neg_ok n) _ _  (Rational.mk (Int_2.mk x_0.X.Num.Neg x_0.X.Num.Mag) (Int_2.mk x_0.X.Den.Neg x_0.X.Den.Mag)) v_5 r_6 v_7 r_8 hp.imm _ q_x).mono ?_)
      rintro _ w_y ⟨I_z, v_10, v_11, hv, hq, r_12, r_13⟩
      replace hv := hv.symm
      subst hv
      have hs := hq.st
      have hp := hp.join0 hq
      replace hz := hz.trans hs
      replace r_p := r_p.step hs
      replace r_q := r_q.step hs
      replace r_a := r_a.step hs
      replace r_c := r_c.step hs
      refine ⟨SK (Stp I_z w_y I_z) [(g_r, [(.bool x_j.P.Neg), v_n, (.bool x_j.Q.Neg), v_o], 38)] [[]], ⟨Stp.refl _ _, (kp_cons (fun _ => (hp.own 0 _ _ _ rfl).1) kp_nil)⟩, fun L x h => ⟨hz.held h.1, h.2⟩, ?_⟩
      have hz := Stp.refl I_z w_y
      refine ⟨?_, ?_⟩
      ·
        obtain ⟨x_14, q_15, q_v⟩ := bind_some q_v
        refine ev_call rfl rfl C41 (((rational_Neg_ok n) _ _  (Rational.mk (Int_2.mk x_0.Y.Num.Neg x_0.Y.Num.Mag) (Int_2.mk x_0.Y.Den.Neg x_0.Y.Den.Mag)) v_9 r_a v_b r_c hp.imm _ q_15).mono ?_)
        rintro _ w_16 ⟨I_17, v_18, v_19, hv, hq, r_1a, r_1b⟩
        replace hv := hv.symm
        subst hv
        have hs := hq.st
        have hp := hp.join0 hq
        replace hz := hz.trans hs
        replace r_p := r_p.step hs
        replace r_q := r_q.step hs
        replace r_12 := r_12.step hs
        replace r_13 := r_13.step hs
        refine ⟨SK (Stp I_17 w_16 I_17) [(g_r, [(.bool x_j.P.Neg), v_n, (.bool x_j.Q.Neg), v_o], 38)] [[]], ⟨Stp.refl _ _, (kp_cons (fun _ => (hp.own 0 _ _ _ rfl).1) kp_nil)⟩, fun L x h => ⟨hz.held h.1, h.2⟩, ?_⟩
        have hz := Stp.refl I_17 w_16
        refine ⟨?_, ?_⟩
        ·
          obtain ⟨⟨x_1c, x_1d⟩, q_1e, q_v⟩ := bind_some q_v
          refine ev_call rfl rfl C12 (((rotation_Turn_ok n) _ _  (Rot.mk (Int_2.mk x_j.P.Neg x_j.P.Mag) (Int_2.mk x_j.Q.Neg x_j.Q.Mag)) v_n r_p v_o r_q x_w v_10 r_12 v_11 r_13 x_14 v_18 r_1a v_19 r_1b hp.imm _ q_1e).mono ?_)
          rintro _ w_1f ⟨I_1g, v_1h, v_1i, v_1j, v_1k, hv, hq, r_1l, r_1m, r_1n, r_1o⟩
          replace hv := hv.symm
          subst hv
          have hs := hq.st
          have hp := hp.join0 hq
          replace hz := hz.trans hs
          replace r_p := r_p.step hs
          replace r_q := r_q.step hs
          refine ⟨SK (Stp I_1g w_1f I_1g) [(g_r, [(.bool x_j.P.Neg), v_n, (.bool x_j.Q.Neg), v_o], 38)] [[]], ⟨Stp.refl _ _, (kp_cons (fun _ => (hp.own 0 _ _ _ rfl).1) kp_nil)⟩, fun L x h => ⟨hz.held h.1, h.2⟩, ?_⟩
          have hz := Stp.refl I_1g w_1f
          refine ⟨SK.same (by kernel_rfl), ?_⟩
          refine ⟨SK.same (by kernel_rfl), ?_⟩
          refine ⟨SK.same (by kernel_rfl), ?_⟩
          refine ⟨?_, ?_⟩
          ·
            refine ev_alloc hp rfl T31 ?_
            intro g_1p w_1q hp hs
            replace hz := hz.trans hs
            replace r_1l := r_1l.step hs
            replace r_1m := r_1m.step hs
            replace r_1n := r_1n.step hs
            replace r_1o := r_1o.step hs
            replace r_p := r_p.step hs
            replace r_q := r_q.step hs
            refine ⟨SK (Stp I_1g w_1q I_1g) [(g_r, [(.bool x_j.P.Neg), v_n, (.bool x_j.Q.Neg), v_o], 38)] [[]], ⟨Stp.refl _ _, (kp_cons (fun _ => (hp.own 1 _ _ _ rfl).1) kp_nil)⟩, fun L x h => ⟨hz.held h.1, h.2⟩, ?_⟩
            have hz := Stp.refl I_1g w_1q
            refine ⟨?_, trivial⟩
            refine ev_alloc hp rfl T31 ?_
            intro g_1r w_1s hp hs
            replace hz := hz.trans hs
            replace r_1l := r_1l.step hs
            replace r_1m := r_1m.step hs
            replace r_1n := r_1n.step hs
            replace r_1o := r_1o.step hs
            replace r_p := r_p.step hs
            replace r_q := r_q.step hs
            refine ⟨SK (Stp I_1g w_1s I_1g) [(g_r, [(.bool x_j.P.Neg), v_n, (.bool x_j.Q.Neg), v_o], 38)] [[]], ⟨Stp.refl _ _, (kp_cons (fun _ => (hp.own 2 _ _ _ rfl).1) kp_nil)⟩, fun L x h => ⟨hz.held h.1, h.2⟩, ?_⟩
            have hz := Stp.refl I_1g w_1s
            refine ⟨?_, trivial⟩
            refine ev_storeA hp (i := 1) (off := 0) (vs := [(.bool x_1c.Num.Neg), v_1h, (.bool x_1c.Den.Neg), v_1i]) rfl rfl rfl rfl T31 rfl (Nat.le_of_ble_eq_true rfl) (ones_cons rfl (ones_cons r_1l.one (ones_cons rfl (ones_cons r_1m.one ones_nil)))) ?_
            intro w_1t hp hs
            replace hz := hz.trans hs
            replace r_1n := r_1n.step hs
            replace r_1o := r_1o.step hs
            replace r_1l := r_1l.step hs
            replace r_1m := r_1m.step hs
            replace r_p := r_p.step hs
            replace r_q := r_q.step hs
            refine ⟨SK (Stp I_1g w_1t I_1g) [(g_r, [(.bool x_j.P.Neg), v_n, (.bool x_j.Q.Neg), v_o], 38)] [[]], ⟨Stp.refl _ _, (kp_cons (fun _ => (hp.own 2 _ _ _ rfl).1) kp_nil)⟩, fun L x h => ⟨hz.held h.1, h.2⟩, ?_⟩
            have hz := Stp.refl I_1g w_1t
            refine ⟨?_, trivial⟩
            refine ev_storeA hp (i := 0) (off := 0) (vs := [(.bool x_1d.Num.Neg), v_1j, (.bool x_1d.Den.Neg), v_1k]) rfl rfl rfl rfl T31 rfl (Nat.le_of_ble_eq_true rfl) (ones_cons rfl (ones_cons r_1n.one (ones_cons rfl (ones_cons r_1o.one ones_nil)))) ?_
            intro w_1u hp hs
            replace hz := hz.trans hs
            replace r_1n := r_1n.step hs
            replace r_1o := r_1o.step hs
            replace r_1l := r_1l.step hs
            replace r_1m := r_1m.step hs
            replace r_p := r_p.step hs
            replace r_q := r_q.step hs
            refine ⟨SK (Stp I_1g w_1u I_1g) [(g_r, [(.bool x_j.P.Neg), v_n, (.bool x_j.Q.Neg), v_o], 38)] [[]], ⟨Stp.refl _ _, (kp_cons (fun _ => (hp.own 2 _ _ _ rfl).1) kp_nil)⟩, fun L x h => ⟨hz.held h.1, h.2⟩, ?_⟩
            have hz := Stp.refl I_1g w_1u
            obtain rfl := Option.some.inj q_v
            have hp := hp.perm [3, 2, 1, 0] (by decide)
            exact ⟨(x_1c.Num.Neg, x_1c.Num.Mag, x_1c.Den.Neg, x_1c.Den.Mag, x_1d.Num.Neg, x_1d.Num.Mag, x_1d.Den.Neg, x_1d.Den.Mag, g_1p, v_1h, v_1i, g_1r, v_1j, v_1k, I_1g), (.c rfl (.c rfl (.c rfl (.c rfl .n)))), rfl, hp, r_p, r_q, r_1l, r_1m, r_1n, r_1o⟩
          refine ⟨?_, trivial⟩
          refine ev_alloc hp rfl T31 ?_
          intro g_1v w_1w hp hs
          replace hz := hz.trans hs
          replace r_1l := r_1l.step hs
          replace r_1m := r_1m.step hs
          replace r_1n := r_1n.step hs
          replace r_1o := r_1o.step hs
          replace r_p := r_p.step hs
          replace r_q := r_q.step hs
          refine ⟨SK (Stp I_1g w_1w I_1g) [(g_r, [(.bool x_j.P.Neg), v_n, (.bool x_j.Q.Neg), v_o], 38)] [[]], ⟨Stp.refl _ _, (kp_cons (fun _ => (hp.own 1 _ _ _ rfl).1) kp_nil)⟩, fun L x h => ⟨hz.held h.1, h.2⟩, ?_⟩
          have hz := Stp.refl I_1g w_1w
          refine ⟨?_, trivial⟩
          refine ev_alloc hp rfl T31 ?_
          intro g_1x w_1y hp hs
          replace hz := hz.trans hs
          replace r_1l := r_1l.step hs
          replace r_1m := r_1m.step hs
          replace r_1n := r_1n.step hs
          replace r_1o := r_1o.step hs
          replace r_p := r_p.step hs
          replace r_q := r_q.step hs
          refine ⟨SK (Stp I_1g w_1y I_1g) [(g_r, [(.bool x_j.P.Neg), v_n, (.bool x_j.Q.Neg), v_o], 38)] [[]], ⟨Stp.refl _ _, (kp_cons (fun _ => (hp.own 2 _ _ _ rfl).1) kp_nil)⟩, fun L x h => ⟨hz.held h.1, h.2⟩, ?_⟩
          have hz := Stp.refl I_1g w_1y
          refine ⟨?_, trivial⟩
          refine ev_storeA hp (i := 0) (off := 0) (vs := [(.bool x_1c.Num.Neg), v_1h, (.bool x_1c.Den.Neg), v_1i]) rfl rfl rfl rfl T31 rfl (Nat.le_of_ble_eq_true rfl) (ones_cons rfl (ones_cons r_1l.one (ones_cons rfl (ones_cons r_1m.one ones_nil)))) ?_
          intro w_1z hp hs
          replace hz := hz.trans hs
          replace r_1n := r_1n.step hs
          replace r_1o := r_1o.step hs
          replace r_1l := r_1l.step hs
          replace r_1m := r_1m.step hs
          replace r_p := r_p.step hs
          replace r_q := r_q.step hs
          refine ⟨SK (Stp I_1g w_1z I_1g) [(g_r, [(.bool x_j.P.Neg), v_n, (.bool x_j.Q.Neg), v_o], 38)] [[]], ⟨Stp.refl _ _, (kp_cons (fun _ => (hp.own 2 _ _ _ rfl).1) kp_nil)⟩, fun L x h => ⟨hz.held h.1, h.2⟩, ?_⟩
          have hz := Stp.refl I_1g w_1z
          refine ⟨?_, trivial⟩
          refine ev_storeA hp (i := 1) (off := 0) (vs := [(.bool x_1d.Num.Neg), v_1j, (.bool x_1d.Den.Neg), v_1k]) rfl rfl rfl rfl T31 rfl (Nat.le_of_ble_eq_true rfl) (ones_cons rfl (ones_cons r_1n.one (ones_cons rfl (ones_cons r_1o.one ones_nil)))) ?_
          intro w_20 hp hs
          replace hz := hz.trans hs
          replace r_1l := r_1l.step hs
          replace r_1m := r_1m.step hs
          replace r_1n := r_1n.step hs
          replace r_1o := r_1o.step hs
          replace r_p := r_p.step hs
          replace r_q := r_q.step hs
          refine ⟨SK (Stp I_1g w_20 I_1g) [(g_r, [(.bool x_j.P.Neg), v_n, (.bool x_j.Q.Neg), v_o], 38)] [[]], ⟨Stp.refl _ _, (kp_cons (fun _ => (hp.own 2 _ _ _ rfl).1) kp_nil)⟩, fun L x h => ⟨hz.held h.1, h.2⟩, ?_⟩
          have hz := Stp.refl I_1g w_20
          obtain rfl := Option.some.inj q_v
          have hp := hp.perm [3, 2, 0, 1] (by decide)
          exact ⟨(x_1c.Num.Neg, x_1c.Num.Mag, x_1c.Den.Neg, x_1c.Den.Mag, x_1d.Num.Neg, x_1d.Num.Mag, x_1d.Den.Neg, x_1d.Den.Mag, g_1x, v_1h, v_1i, g_1v, v_1j, v_1k, I_1g), (.c rfl (.c rfl (.c rfl (.c rfl .n)))), rfl, hp, r_p, r_q, r_1l, r_1m, r_1n, r_1o⟩
        refine ⟨?_, ?_⟩
        ·
          refine ev_alloc hp rfl T31 ?_
          intro g_21 w_22 hp hs
          replace hz := hz.trans hs
          replace r_p := r_p.step hs
          replace r_q := r_q.step hs
          replace r_12 := r_12.step hs
          replace r_13 := r_13.step hs
          replace r_1a := r_1a.step hs
          replace r_1b := r_1b.step hs
          refine ⟨SK (Stp I_17 w_22 I_17) [(g_r, [(.bool x_j.P.Neg), v_n, (.bool x_j.Q.Neg), v_o], 38)] [[]], ⟨Stp.refl _ _, (kp_cons (fun _ => (hp.own 1 _ _ _ rfl).1) kp_nil)⟩, fun L x h => ⟨hz.held h.1, h.2⟩, ?_⟩
          have hz := Stp.refl I_17 w_22
          refine ⟨?_, ?_⟩
          ·
            obtain ⟨⟨x_23, x_24⟩, q_25, q_v⟩ := bind_some q_v
            refine ev_call rfl rfl C12 (((rotation_Turn_ok n) _ _  (Rot.mk (Int_2.mk x_j.P.Neg x_j.P.Mag) (Int_2.mk x_j.Q.Neg x_j.Q.Mag)) v_n r_p v_o r_q x_w v_10 r_12 v_11 r_13 x_14 v_18 r_1a v_19 r_1b hp.imm _ q_25).mono ?_)
            rintro _ w_26 ⟨I_27, v_28, v_29, v_2a, v_2b, hv, hq, r_2c, r_2d, r_2e, r_2f⟩
            replace hv := hv.symm
            subst hv
            have hs := hq.st
            have hp := hp.join0 hq
            replace hz := hz.trans hs
            replace r_p := r_p.step hs
            replace r_q := r_q.step hs
            refine ⟨SK (Stp I_27 w_26 I_27) [(g_r, [(.bool x_j.P.Neg), v_n, (.bool x_j.Q.Neg), v_o], 38)] [[]], ⟨Stp.refl _ _, (kp_cons (fun _ => (hp.own 1 _ _ _ rfl).1) kp_nil)⟩, fun L x h => ⟨hz.held h.1, h.2⟩, ?_⟩
            have hz := Stp.refl I_27 w_26
            refine ⟨SK.same (by kernel_rfl), ?_⟩
            refine ⟨SK.same (by kernel_rfl), ?_⟩
            refine ⟨SK.same (by kernel_rfl), ?_⟩
            refine ⟨?_, trivial⟩
            refine ev_alloc hp rfl T31 ?_
            intro g_2g w_2h hp hs
            replace hz := hz.trans hs
            replace r_2c := r_2c.step hs
            replace r_2d := r_2d.step hs
            replace r_2e := r_2e.step hs
            replace r_2f := r_2f.step hs
            replace r_p := r_p.step hs
            replace r_q := r_q.step hs
            refine ⟨SK (Stp I_27 w_2h I_27) [(g_r, [(.bool x_j.P.Neg), v_n, (.bool x_j.Q.Neg), v_o], 38)] [[]], ⟨Stp.refl _ _, (kp_cons (fun _ => (hp.own 2 _ _ _ rfl).1) kp_nil)⟩, fun L x h => ⟨hz.held h.1, h.2⟩, ?_⟩
            have hz := Stp.refl I_27 w_2h
            refine ⟨?_, trivial⟩
            refine ev_storeA hp (i := 1) (off := 0) (vs := [(.bool x_23.Num.Neg), v_28, (.bool x_23.Den.Neg), v_29]) rfl rfl rfl rfl T31 rfl (Nat.le_of_ble_eq_true rfl) (ones_cons rfl (ones_cons r_2c.one (ones_cons rfl (ones_cons r_2d.one ones_nil)))) ?_
            intro w_2i hp hs
            replace hz := hz.trans hs
            replace r_2e := r_2e.step hs
            replace r_2f := r_2f.step hs
            replace r_2c := r_2c.step hs
            replace r_2d := r_2d.step hs
            replace r_p := r_p.step hs
            replace r_q := r_q.step hs
            refine ⟨SK (Stp I_27 w_2i I_27) [(g_r, [(.bool x_j.P.Neg), v_n, (.bool x_j.Q.Neg), v_o], 38)] [[]], ⟨Stp.refl _ _, (kp_cons (fun _ => (hp.own 2 _ _ _ rfl).1) kp_nil)⟩, fun L x h => ⟨hz.held h.1, h.2⟩, ?_⟩
            have hz := Stp.refl I_27 w_2i
            refine ⟨?_, trivial⟩
            refine ev_storeA hp (i := 0) (off := 0) (vs := [(.bool x_24.Num.Neg), v_2a, (.bool x_24.Den.Neg), v_2b]) rfl rfl rfl rfl T31 rfl (Nat.le_of_ble_eq_true rfl) (ones_cons rfl (ones_cons r_2e.one (ones_cons rfl (ones_cons r_2f.one ones_nil)))) ?_
            intro w_2j hp hs
            replace hz := hz.trans hs
            replace r_2e := r_2e.step hs
            replace r_2f := r_2f.step hs
            replace r_2c := r_2c.step hs
            replace r_2d := r_2d.step hs
            replace r_p := r_p.step hs
            replace r_q := r_q.step hs
            refine ⟨SK (Stp I_27 w_2j I_27) [(g_r, [(.bool x_j.P.Neg), v_n, (.bool x_j.Q.Neg), v_o], 38)] [[]], ⟨Stp.refl _ _, (kp_cons (fun _ => (hp.own 2 _ _ _ rfl).1) kp_nil)⟩, fun L x h => ⟨hz.held h.1, h.2⟩, ?_⟩
            have hz := Stp.refl I_27 w_2j
            obtain rfl := Option.some.inj q_v
            have hp := hp.perm [3, 2, 1, 0] (by decide)
            exact ⟨(x_23.Num.Neg, x_23.Num.Mag, x_23.Den.Neg, x_23.Den.Mag, x_24.Num.Neg, x_24.Num.Mag, x_24.Den.Neg, x_24.Den.Mag, g_21, v_28, v_29, g_2g, v_2a, v_2b, I_27), (.c rfl (.c rfl (.c rfl (.c rfl .n)))), rfl, hp, r_p, r_q, r_2c, r_2d, r_2e, r_2f⟩
          refine ⟨?_, trivial⟩
          refine ev_alloc hp rfl T31 ?_
          intro g_2k w_2l hp hs
          replace hz := hz.trans hs
          replace r_p := r_p.step hs
          replace r_q := r_q.step hs
          replace r_12 := r_12.step hs
          replace r_13 := r_13.step hs
          replace r_1a := r_1a.step hs
          replace r_1b := r_1b.step hs
          refine ⟨SK (Stp I_17 w_2l I_17) [(g_r, [(.bool x_j.P.Neg), v_n, (.bool x_j.Q.Neg), v_o], 38)] [[]], ⟨Stp.refl _ _, (kp_cons (fun _ => (hp.own 2 _ _ _ rfl).1) kp_nil)⟩, fun L x h => ⟨hz.held h.1, h.2⟩, ?_⟩
          have hz := Stp.refl I_17 w_2l
          refine ⟨?_, trivial⟩
          obtain ⟨⟨x_2m, x_2n⟩, q_2o, q_v⟩ := bind_some q_v
          refine ev_call rfl rfl C12 (((rotation_Turn_ok n) _ _  (Rot.mk (Int_2.mk x_j.P.Neg x_j.P.Mag) (Int_2.mk x_j.Q.Neg x_j.Q.Mag)) v_n r_p v_o r_q x_w v_10 r_12 v_11 r_13 x_14 v_18 r_1a v_19 r_1b hp.imm _ q_2o).mono ?_)
          rintro _ w_2p ⟨I_2q, v_2r, v_2s, v_2t, v_2u, hv, hq, r_2v, r_2w, r_2x, r_2y⟩
          replace hv := hv.symm
          subst hv
          have hs := hq.st
          have hp := hp.join0 hq
          replace hz := hz.trans hs
          replace r_p := r_p.step hs
          replace r_q := r_q.step hs
          refine ⟨SK (Stp I_2q w_2p I_2q) [(g_r, [(.bool x_j.P.Neg), v_n, (.bool x_j.Q.Neg), v_o], 38)] [[]], ⟨Stp.refl _ _, (kp_cons (fun _ => (hp.own 2 _ _ _ rfl).1) kp_nil)⟩, fun L x h => ⟨hz.held h.1, h.2⟩, ?_⟩
          have hz := Stp.refl I_2q w_2p
          refine ⟨SK.same (by kernel_rfl), ?_⟩
          refine ⟨SK.same (by kernel_rfl), ?_⟩
          refine ⟨SK.same (by kernel_rfl), ?_⟩
          refine ⟨?_, trivial⟩
          refine ev_storeA hp (i := 1) (off := 0) (vs := [(.bool x_2m.Num.Neg), v_2r, (.bool x_2m.Den.Neg), v_2s]) rfl rfl rfl rfl T31 rfl (Nat.le_of_ble_eq_true rfl) (ones_cons rfl (ones_cons r_2v.one (ones_cons rfl (ones_cons r_2w.one ones_nil)))) ?_
          intro w_2z hp hs
          replace hz := hz.trans hs
          replace r_2x := r_2x.step hs
          replace r_2y := r_2y.step hs
          replace r_2v := r_2v.step hs
          replace r_2w := r_2w.step hs
          replace r_p := r_p.step hs
          replace r_q := r_q.step hs
          refine ⟨SK (Stp I_2q w_2z I_2q) [(g_r, [(.bool x_j.P.Neg), v_n, (.bool x_j.Q.Neg), v_o], 38)] [[]], ⟨Stp.refl _ _, (kp_cons (fun _ => (hp.own 2 _ _ _ rfl).1) kp_nil)⟩, fun L x h => ⟨hz.held h.1, h.2⟩, ?_⟩
          have hz := Stp.refl I_2q w_2z
          refine ⟨?_, trivial⟩
          refine ev_storeA hp (i := 0) (off := 0) (vs := [(.bool x_2n.Num.Neg), v_2t, (.bool x_2n.Den.Neg), v_2u]) rfl rfl rfl rfl T31 rfl (Nat.le_of_ble_eq_true rfl) (ones_cons rfl (ones_cons r_2x.one (ones_cons rfl (ones_cons r_2y.one ones_nil)))) ?_
          intro w_30 hp hs
          replace hz := hz.trans hs
          replace r_2x := r_2x.step hs
          replace r_2y := r_2y.step hs
          replace r_2v := r_2v.step hs
          replace r_2w := r_2w.step hs
          replace r_p := r_p.step hs
          replace r_q := r_q.step hs
          refine ⟨SK (Stp I_2q w_30 I_2q) [(g_r, [(.bool x_j.P.Neg), v_n, (.bool x_j.Q.Neg), v_o], 38)] [[]], ⟨Stp.refl _ _, (kp_cons (fun _ => (hp.own 2 _ _ _ rfl).1) kp_nil)⟩, fun L x h => ⟨hz.held h.1, h.2⟩, ?_⟩
          have hz := Stp.refl I_2q w_30
          obtain rfl := Option.some.inj q_v
          have hp := hp.perm [3, 2, 1, 0] (by decide)
          exact ⟨(x_2m.Num.Neg, x_2m.Num.Mag, x_2m.Den.Neg, x_2m.Den.Mag, x_2n.Num.Neg, x_2n.Num.Mag, x_2n.Den.Neg, x_2n.Den.Mag, g_21, v_2r, v_2s, g_2k, v_2t, v_2u, I_2q), (.c rfl (.c rfl (.c rfl (.c rfl .n)))), rfl, hp, r_p, r_q, r_2v, r_2w, r_2x, r_2y⟩
        refine ⟨?_, trivial⟩
        refine ev_alloc hp rfl T31 ?_
        intro g_31 w_32 hp hs
        replace hz := hz.trans hs
        replace r_p := r_p.step hs
        replace r_q := r_q.step hs
        replace r_12 := r_12.step hs
        replace r_13 := r_13.step hs
        replace r_1a := r_1a.step hs
        replace r_1b := r_1b.step hs
        refine ⟨SK (Stp I_17 w_32 I_17) [(g_r, [(.bool x_j.P.Neg), v_n, (.bool x_j.Q.Neg), v_o], 38)] [[]], ⟨Stp.refl _ _, (kp_cons (fun _ => (hp.own 1 _ _ _ rfl).1) kp_nil)⟩, fun L x h => ⟨hz.held h.1, h.2⟩, ?_⟩
        have hz := Stp.refl I_17 w_32
        refine ⟨?_, ?_⟩
        ·
          obtain ⟨⟨x_33, x_34⟩, q_35, q_v⟩ := bind_some q_v
          refine ev_call rfl rfl C12 (((rotation_Turn_ok n) _ _  (Rot.mk (Int_2.mk x_j.P.Neg x_j.P.Mag) (Int_2.mk x_j.Q.Neg x_j.Q.Mag)) v_n r_p v_o r_q x_w v_10 r_12 v_11 r_13 x_14 v_18 r_1a v_19 r_1b hp.imm _ q_35).mono ?_)
          rintro _ w_36 ⟨I_37, v_38, v_39, v_3a, v_3b, hv, hq, r_3c, r_3d, r_3e, r_3f⟩
          replace hv := hv.symm
          subst hv
          have hs := hq.st
          have hp := hp.join0 hq
          replace hz := hz.trans hs
          replace r_p := r_p.step hs
          replace r_q := r_q.step hs
          refine ⟨SK (Stp I_37 w_36 I_37) [(g_r, [(.bool x_j.P.Neg), v_n, (.bool x_j.Q.Neg), v_o], 38)] [[]], ⟨Stp.refl _ _, (kp_cons (fun _ => (hp.own 1 _ _ _ rfl).1) kp_nil)⟩, fun L x h => ⟨hz.held h.1, h.2⟩, ?_⟩
          have hz := Stp.refl I_37 w_36
          refine ⟨SK.same (by kernel_rfl), ?_⟩
          refine ⟨SK.same (by kernel_rfl), ?_⟩
          refine ⟨SK.same (by kernel_rfl), ?_⟩
          refine ⟨?_, trivial⟩
          refine ev_alloc hp rfl T31 ?_
          intro g_3g w_3h hp hs
          replace hz := hz.trans hs
          replace r_3c := r_3c.step hs
          replace r_3d := r_3d.step hs
          replace r_3e := r_3e.step hs
          replace r_3f := r_3f.step hs
          replace r_p := r_p.step hs
          replace r_q := r_q.step hs
          refine ⟨SK (Stp I_37 w_3h I_37) [(g_r, [(.bool x_j.P.Neg), v_n, (.bool x_j.Q.Neg), v_o], 38)] [[]], ⟨Stp.refl _ _, (kp_cons (fun _ => (hp.own 2 _ _ _ rfl).1) kp_nil)⟩, fun L x h => ⟨hz.held h.1, h.2⟩, ?_⟩
          have hz := Stp.refl I_37 w_3h
          refine ⟨?_, trivial⟩
          refine ev_storeA hp (i := 0) (off := 0) (vs := [(.bool x_33.Num.Neg), v_38, (.bool x_33.Den.Neg), v_39]) rfl rfl rfl rfl T31 rfl (Nat.le_of_ble_eq_true rfl) (ones_cons rfl (ones_cons r_3c.one (ones_cons rfl (ones_cons r_3d.one ones_nil)))) ?_
          intro w_3i hp hs
          replace hz := hz.trans hs
          replace r_3e := r_3e.step hs
          replace r_3f := r_3f.step hs
          replace r_3c := r_3c.step hs
          replace r_3d := r_3d.step hs
          replace r_p := r_p.step hs
          replace r_q := r_q.step hs
          refine ⟨SK (Stp I_37 w_3i I_37) [(g_r, [(.bool x_j.P.Neg), v_n, (.bool x_j.Q.Neg), v_o], 38)] [[]], ⟨Stp.refl _ _, (kp_cons (fun _ => (hp.own 2 _ _ _ rfl).1) kp_nil)⟩, fun L x h => ⟨hz.held h.1, h.2⟩, ?_⟩
          have hz := Stp.refl I_37 w_3i
          refine ⟨?_, trivial⟩
          refine ev_storeA hp (i := 1) (off := 0) (vs := [(.bool x_34.Num.Neg), v_3a, (.bool x_34.Den.Neg), v_3b]) rfl rfl rfl rfl T31 rfl (Nat.le_of_ble_eq_true rfl) (ones_cons rfl (ones_cons r_3e.one (ones_cons rfl (ones_cons r_3f.one ones_nil)))) ?_
          intro w_3j hp hs
          replace hz := hz.trans hs
          replace r_3c := r_3c.step hs
          replace r_3d := r_3d.step hs
          replace r_3e := r_3e.step hs
          replace r_3f := r_3f.step hs
          replace r_p := r_p.step hs
          replace r_q := r_q.step hs
          refine ⟨SK (Stp I_37 w_3j I_37) [(g_r, [(.bool x_j.P.Neg), v_n, (.bool x_j.Q.Neg), v_o], 38)] [[]], ⟨Stp.refl _ _, (kp_cons (fun _ => (hp.own 2 _ _ _ rfl).1) kp_nil)⟩, fun L x h => ⟨hz.held h.1, h.2⟩, ?_⟩
          have hz := Stp.refl I_37 w_3j
          obtain rfl := Option.some.inj q_v
          have hp := hp.perm [3, 2, 0, 1] (by decide)
          exact ⟨(x_33.Num.Neg, x_33.Num.Mag, x_33.Den.Neg, x_33.Den.Mag, x_34.Num.Neg, x_34.Num.Mag, x_34.Den.Neg, x_34.Den.Mag, g_3g, v_38, v_39, g_31, v_3a, v_3b, I_37), (.c rfl (.c rfl (.c rfl (.c rfl .n)))), rfl, hp, r_p, r_q, r_3c, r_3d, r_3e, r_3f⟩
        refine ⟨?_, trivial⟩
        refine ev_alloc hp rfl T31 ?_
        intro g_3k w_3l hp hs
        replace hz := hz.trans hs
        replace r_p := r_p.step hs
        replace r_q := r_q.step hs
        replace r_12 := r_12.step hs
        replace r_13 := r_13.step hs
        replace r_1a := r_1a.step hs
        replace r_1b := r_1b.step hs
        refine ⟨SK (Stp I_17 w_3l I_17) [(g_r, [(.bool x_j.P.Neg), v_n, (.bool x_j.Q.Neg), v_o], 38)] [[]], ⟨Stp.refl _ _, (kp_cons (fun _ => (hp.own 2 _ _ _ rfl).1) kp_nil)⟩, fun L x h => ⟨hz.held h.1, h.2⟩, ?_⟩
        have hz := Stp.refl I_17 w_3l
        refine ⟨?_, trivial⟩
        obtain ⟨⟨x_3m, x_3n⟩, q_3o, q_v⟩ := bind_some q_v
        refine ev_call rfl rfl C12 (((rotation_Turn_ok n) _ _  (Rot.mk (Int_2.mk x_j.P.Neg x_j.P.Mag) (Int_2.mk x_j.Q.Neg x_j.Q.Mag)) v_n r_p v_o r_q x_w v_10 r_12 v_11 r_13 x_14 v_18 r_1a v_19 r_1b hp.imm _ q_3o).mono ?_)
        rintro _ w_3p ⟨I_3q, v_3r, v_3s, v_3t, v_3u, hv, hq, r_3v, r_3w, r_3x, r_3y⟩
        replace hv := hv.symm
        subst hv
        have hs := hq.st
        have hp := hp.join0 hq
        replace hz := hz.trans hs
        replace r_p := r_p.step hs
        replace r_q := r_q.step hs
        refine ⟨SK (Stp I_3q w_3p I_3q) [(g_r, [(.bool x_j.P.Neg), v_n, (.bool x_j.Q.Neg), v_o], 38)] [[]], ⟨Stp.refl _ _, (kp_cons (fun _ => (hp.own 2 _ _ _ rfl).1) kp_nil)⟩, fun L x h => ⟨hz.held h.1, h.2⟩, ?_⟩
        have hz := Stp.refl I_3q w_3p
        refine ⟨SK.same (by kernel_rfl), ?_⟩
        refine ⟨SK.same (by kernel_rfl), ?_⟩
        refine ⟨SK.same (by kernel_rfl), ?_⟩
        refine ⟨?_, trivial⟩
        refine ev_storeA hp (i := 0) (off := 0) (vs := [(.bool x_3m.Num.Neg), v_3r, (.bool x_3m.Den.Neg), v_3s]) rfl rfl rfl rfl T31 rfl (Nat.le_of_ble_eq_true rfl) (ones_cons rfl (ones_cons r_3v.one (ones_cons rfl (ones_cons r_3w.one ones_nil)))) ?_
        intro w_3z hp hs
        replace hz := hz.trans hs
        replace r_3x := r_3x.step hs
        replace r_3y := r_3y.step hs
        replace r_3v := r_3v.step hs
        replace r_3w := r_3w.step hs
        replace r_p := r_p.step hs
        replace r_q := r_q.step hs
        refine ⟨SK (Stp I_3q w_3z I_3q) [(g_r, [(.bool x_j.P.Neg), v_n, (.bool x_j.Q.Neg), v_o], 38)] [[]], ⟨Stp.refl _ _, (kp_cons (fun _ => (hp.own 2 _ _ _ rfl).1) kp_nil)⟩, fun L x h => ⟨hz.held h.1, h.2⟩, ?_⟩
        have hz := Stp.refl I_3q w_3z
        refine ⟨?_, trivial⟩
        refine ev_storeA hp (i := 1) (off := 0) (vs := [(.bool x_3n.Num.Neg), v_3t, (.bool x_3n.Den.Neg), v_3u]) rfl rfl rfl rfl T31 rfl (Nat.le_of_ble_eq_true rfl) (ones_cons rfl (ones_cons r_3x.one (ones_cons rfl (ones_cons r_3y.one ones_nil)))) ?_
        intro w_40 hp hs
        replace hz := hz.trans hs
        replace r_3v := r_3v.step hs
        replace r_3w := r_3w.step hs
        replace r_3x := r_3x.step hs
        replace r_3y := r_3y.step hs
        replace r_p := r_p.step hs
        replace r_q := r_q.step hs
        refine ⟨SK (Stp I_3q w_40 I_3q) [(g_r, [(.bool x_j.P.Neg), v_n, (.bool x_j.Q.Neg), v_o], 38)] [[]], ⟨Stp.refl _ _, (kp_cons (fun _ => (hp.own 2 _ _ _ rfl).1) kp_nil)⟩, fun L x h => ⟨hz.held h.1, h.2⟩, ?_⟩
        have hz := Stp.refl I_3q w_40
        obtain rfl := Option.some.inj q_v
        have hp := hp.perm [3, 2, 0, 1] (by decide)
        exact ⟨(x_3m.Num.Neg, x_3m.Num.Mag, x_3m.Den.Neg, x_3m.Den.Mag, x_3n.Num.Neg, x_3n.Num.Mag, x_3n.Den.Neg, x_3n.Den.Mag, g_3k, v_3r, v_3s, g_31, v_3t, v_3u, I_3q), (.c rfl (.c rfl (.c rfl (.c rfl .n)))), rfl, hp, r_p, r_q, r_3v, r_3w, r_3x, r_3y⟩
      refine ⟨?_, ?_⟩
      ·
        refine ev_alloc hp rfl T31 ?_
        intro g_41 w_42 hp hs
        replace hz := hz.trans hs
        replace r_p := r_p.step hs
        replace r_q := r_q.step hs
        replace r_a := r_a.step hs
        replace r_c := r_c.step hs
        replace r_12 := r_12.step hs
        replace r_13 := r_13.step hs
        refine ⟨SK (Stp I_z w_42 I_z) [(g_r, [(.bool x_j.P.Neg), v_n, (.bool x_j.Q.Neg), v_o], 38)] [[]], ⟨Stp.refl _ _, (kp_cons (fun _ => (hp.own 1 _ _ _ rfl).1) kp_nil)⟩, fun L x h => ⟨hz.held h.1, h.2⟩, ?_⟩
        have hz := Stp.refl I_z w_42
        refine ⟨?_, ?_⟩
        ·
          obtain ⟨x_43, q_44, q_v⟩ := bind_some q_v
          refine ev_call rfl rfl C41 (((rational_Neg_ok n) _ _  (Rational.mk (Int_2.mk x_0.Y.Num.Neg x_0.Y.Num.Mag) (Int_2.mk x_0.Y.Den.Neg x_0.Y.Den.Mag)) v_9 r_a v_b r_c hp.imm _ q_44).mono ?_)
          rintro _ w_45 ⟨I_46, v_47, v_48, hv, hq, r_49, r_4a⟩
          replace hv := hv.symm
          subst hv
          have hs := hq.st
          have hp := hp.join0 hq
          replace hz := hz.trans hs
          replace r_p := r_p.step hs
          replace r_q := r_q.step hs
          replace r_12 := r_12.step hs
          replace r_13 := r_13.step hs
          refine ⟨SK (Stp I_46 w_45 I_46) [(g_r, [(.bool x_j.P.Neg), v_n, (.bool x_j.Q.Neg), v_o], 38)] [[]], ⟨Stp.refl _ _, (kp_cons (fun _ => (hp.own 1 _ _ _ rfl).1) kp_nil)⟩, fun L x h => ⟨hz.held h.1, h.2⟩, ?_⟩
          have hz := Stp.refl I_46 w_45
          refine ⟨?_, ?_⟩
          ·
            obtain ⟨⟨x_4b, x_4c⟩, q_4d, q_v⟩ := bind_some q_v
            refine ev_call rfl rfl C12 (((rotation_Turn_ok n) _ _  (Rot.mk (Int_2.mk x_j.P.Neg x_j.P.Mag) (Int_2.mk x_j.Q.Neg x_j.Q.Mag)) v_n r_p v_o r_q x_w v_10 r_12 v_11 r_13 x_43 v_47 r_49 v_48 r_4a hp.imm _ q_4d).mono ?_)
            rintro _ w_4e ⟨I_4f, v_4g, v_4h, v_4i, v_4j, hv, hq, r_4k, r_4l, r_4m, r_4n⟩
            replace hv := hv.symm
            subst hv
            have hs := hq.st
            have hp := hp.join0 hq
            replace hz := hz.trans hs
            replace r_p := r_p.step hs
            replace r_q := r_q.step hs
            refine ⟨SK (Stp I_4f w_4e I_4f) [(g_r, [(.bool x_j.P.Neg), v_n, (.bool x_j.Q.Neg), v_o], 38)] [[]], ⟨Stp.refl _ _, (kp_cons (fun _ => (hp.own 1 _ _ _ rfl).1) kp_nil)⟩, fun L x h => ⟨hz.held h.1, h.2⟩, ?_⟩
            have hz := Stp.refl I_4f w_4e
            refine ⟨SK.same (by kernel_rfl), ?_⟩
            refine ⟨SK.same (by kernel_rfl), ?_⟩
            refine ⟨SK.same (by kernel_rfl), ?_⟩
            refine ⟨?_, trivial⟩
            refine ev_alloc hp rfl T31 ?_
            intro g_4o w_4p hp hs
            replace hz := hz.trans hs
            replace r_4k := r_4k.step hs
            replace r_4l := r_4l.step hs
            replace r_4m := r_4m.step hs
            replace r_4n := r_4n.step hs
            replace r_p := r_p.step hs
            replace r_q := r_q.step hs
            refine ⟨SK (Stp I_4f w_4p I_4f) [(g_r, [(.bool x_j.P.Neg), v_n, (.bool x_j.Q.Neg), v_o], 38)] [[]], ⟨Stp.refl _ _, (kp_cons (fun _ => (hp.own 2 _ _ _ rfl).1) kp_nil)⟩, fun L x h => ⟨hz.held h.1, h.2⟩, ?_⟩
            have hz := Stp.refl I_4f w_4p
            refine ⟨?_, trivial⟩
            refine ev_storeA hp (i := 1) (off := 0) (vs := [(.bool x_4b.Num.Neg), v_4g, (.bool x_4b.Den.Neg), v_4h]) rfl rfl rfl rfl T31 rfl (Nat.le_of_ble_eq_true rfl) (ones_cons rfl (ones_cons r_4k.one (ones_cons rfl (ones_cons r_4l.one ones_nil)))) ?_
            intro w_4q hp hs
            replace hz := hz.trans hs
            replace r_4m := r_4m.step hs
            replace r_4n := r_4n.step hs
            replace r_4k := r_4k.step hs
            replace r_4l := r_4l.step hs
            replace r_p := r_p.step hs
            replace r_q := r_q.step hs
            refine ⟨SK (Stp I_4f w_4q I_4f) [(g_r, [(.bool x_j.P.Neg), v_n, (.bool x_j.Q.Neg), v_o], 38)] [[]], ⟨Stp.refl _ _, (kp_cons (fun _ => (hp.own 2 _ _ _ rfl).1) kp_nil)⟩, fun L x h => ⟨hz.held h.1, h.2⟩, ?_⟩
            have hz := Stp.refl I_4f w_4q
            refine ⟨?_, trivial⟩
            refine ev_storeA hp (i := 0) (off := 0) (vs := [(.bool x_4c.Num.Neg), v_4i, (.bool x_4c.Den.Neg), v_4j]) rfl rfl rfl rfl T31 rfl (Nat.le_of_ble_eq_true rfl) (ones_cons rfl (ones_cons r_4m.one (ones_cons rfl (ones_cons r_4n.one ones_nil)))) ?_
            intro w_4r hp hs
            replace hz := hz.trans hs
            replace r_4m := r_4m.step hs
            replace r_4n := r_4n.step hs
            replace r_4k := r_4k.step hs
            replace r_4l := r_4l.step hs
            replace r_p := r_p.step hs
            replace r_q := r_q.step hs
            refine ⟨SK (Stp I_4f w_4r I_4f) [(g_r, [(.bool x_j.P.Neg), v_n, (.bool x_j.Q.Neg), v_o], 38)] [[]], ⟨Stp.refl _ _, (kp_cons (fun _ => (hp.own 2 _ _ _ rfl).1) kp_nil)⟩, fun L x h => ⟨hz.held h.1, h.2⟩, ?_⟩
            have hz := Stp.refl I_4f w_4r
            obtain rfl := Option.some.inj q_v
            have hp := hp.perm [3, 2, 1, 0] (by decide)
            exact ⟨(x_4b.Num.Neg, x_4b.Num.Mag, x_4b.Den.Neg, x_4b.Den.Mag, x_4c.Num.Neg, x_4c.Num.Mag, x_4c.Den.Neg, x_4c.Den.Mag, g_41, v_4g, v_4h, g_4o, v_4i, v_4j, I_4f), (.c rfl (.c rfl (.c rfl (.c rfl .n)))), rfl, hp, r_p, r_q, r_4k, r_4l, r_4m, r_4n⟩
          refine ⟨?_, trivial⟩
          refine ev_alloc hp rfl T31 ?_
          intro g_4s w_4t hp hs
          replace hz := hz.trans hs
          replace r_p := r_p.step hs
          replace r_q := r_q.step hs
          replace r_12 := r_12.step hs
          replace r_13 := r_13.step hs
          replace r_49 := r_49.step hs
          replace r_4a := r_4a.step hs
          refine ⟨SK (Stp I_46 w_4t I_46) [(g_r, [(.bool x_j.P.Neg), v_n, (.bool x_j.Q.Neg), v_o], 38)] [[]], ⟨Stp.refl _ _, (kp_cons (fun _ => (hp.own 2 _ _ _ rfl).1) kp_nil)⟩, fun L x h => ⟨hz.held h.1, h.2⟩, ?_⟩
          have hz := Stp.refl I_46 w_4t
          refine ⟨?_, trivial⟩
          obtain ⟨⟨x_4u, x_4v⟩, q_4w, q_v⟩ := bind_some q_v
          refine ev_call rfl rfl C12 (((rotation_Turn_ok n) _ _  (Rot.mk (Int_2.mk x_j.P.Neg x_j.P.Mag) (Int_2.mk x_j.Q.Neg x_j.Q.Mag)) v_n r_p v_o r_q x_w v_10 r_12 v_11 r_13 x_43 v_47 r_49 v_48 r_4a hp.imm _ q_4w).mono ?_)
          rintro _ w_4x ⟨I_4y, v_4z, v_50, v_51, v_52, hv, hq, r_53, r_54, r_55, r_56⟩
          replace hv := hv.symm
          subst hv
          have hs := hq.st
          have hp := hp.join0 hq
          replace hz := hz.trans hs
          replace r_p := r_p.step hs
          replace r_q := r_q.step hs
          refine ⟨SK (Stp I_4y w_4x I_4y) [(g_r, [(.bool x_j.P.Neg), v_n, (.bool x_j.Q.Neg), v_o], 38)] [[]], ⟨Stp.refl _ _, (kp_cons (fun _ => (hp.own 2 _ _ _ rfl).1) kp_nil)⟩, fun L x h => ⟨hz.held h.1, h.2⟩, ?_⟩
          have hz := Stp.refl I_4y w_4x
          refine ⟨SK.same (by kernel_rfl), ?_⟩
          refine ⟨SK.same (by kernel_rfl), ?_⟩
          refine ⟨SK.same (by kernel_rfl), ?_⟩
          refine ⟨?_, trivial⟩
          refine ev_storeA hp (i := 1) (off := 0) (vs := [(.bool x_4u.Num.Neg), v_4z, (.bool x_4u.Den.Neg), v_50]) rfl rfl rfl rfl T31 rfl (Nat.le_of_ble_eq_true rfl) (ones_cons rfl (ones_cons r_53.one (ones_cons rfl (ones_cons r_54.one ones_nil)))) ?_
          intro w_57 hp hs
          replace hz := hz.trans hs
          replace r_55 := r_55.step hs
          replace r_56 := r_56.step hs
          replace r_53 := r_53.step hs
          replace r_54 := r_54.step hs
          replace r_p := r_p.step hs
          replace r_q := r_q.step hs
          refine ⟨SK (Stp I_4y w_57 I_4y) [(g_r, [(.bool x_j.P.Neg), v_n, (.bool x_j.Q.Neg), v_o], 38)] [[]], ⟨Stp.refl _ _, (kp_cons (fun _ => (hp.own 2 _ _ _ rfl).1) kp_nil)⟩, fun L x h => ⟨hz.held h.1, h.2⟩, ?_⟩
          have hz := Stp.refl I_4y w_57
          refine ⟨?_, trivial⟩
          refine ev_storeA hp (i := 0) (off := 0) (vs := [(.bool x_4v.Num.Neg), v_51, (.bool x_4v.Den.Neg), v_52]) rfl rfl rfl rfl T31 rfl (Nat.le_of_ble_eq_true rfl) (ones_cons rfl (ones_cons r_55.one (ones_cons rfl (ones_cons r_56.one ones_nil)))) ?_
          intro w_58 hp hs
          replace hz := hz.trans hs
          replace r_55 := r_55.step hs
          replace r_56 := r_56.step hs
          replace r_53 := r_53.step hs
          replace r_54 := r_54.step hs
          replace r_p := r_p.step hs
          replace r_q := r_q.step hs
          refine ⟨SK (Stp I_4y w_58 I_4y) [(g_r, [(.bool x_j.P.Neg), v_n, (.bool x_j.Q.Neg), v_o], 38)] [[]], ⟨Stp.refl _ _, (kp_cons (fun _ => (hp.own 2 _ _ _ rfl).1) kp_nil)⟩, fun L x h => ⟨hz.held h.1, h.2⟩, ?_⟩
          have hz := Stp.refl I_4y w_58
          obtain rfl := Option.some.inj q_v
          have hp := hp.perm [3, 2, 1, 0] (by decide)
          exact ⟨(x_4u.Num.Neg, x_4u.Num.Mag, x_4u.Den.Neg, x_4u.Den.Mag, x_4v.Num.Neg, x_4v.Num.Mag, x_4v.Den.Neg, x_4v.Den.Mag, g_41, v_4z, v_50, g_4s, v_51, v_52, I_4y), (.c rfl (.c rfl (.c rfl (.c rfl .n)))), rfl, hp, r_p, r_q, r_53, r_54, r_55, r_56⟩
        refine ⟨?_, trivial⟩
        refine ev_alloc hp rfl T31 ?_
        intro g_59 w_5a hp hs
        replace hz := hz.trans hs
        replace r_p := r_p.step hs
        replace r_q := r_q.step hs
        replace r_a := r_a.step hs
        replace r_c := r_c.step hs
        replace r_12 := r_12.step hs
        replace r_13 := r_13.step hs
        refine ⟨SK (Stp I_z w_5a I_z) [(g_r, [(.bool x_j.P.Neg), v_n, (.bool x_j.Q.Neg), v_o], 38)] [[]], ⟨Stp.refl _ _, (kp_cons (fun _ => (hp.own 2 _ _ _ rfl).1) kp_nil)⟩, fun L x h => ⟨hz.held h.1, h.2⟩, ?_⟩
        have hz := Stp.refl I_z w_5a
        refine ⟨?_, trivial⟩
        obtain ⟨x_5b, q_5c, q_v⟩ := bind_some q_v
        refine ev_call rfl rfl C41 (((rational_Neg_ok n) _ _  (Rational.mk (Int_2.mk x_0.Y.Num.Neg x_0.Y.Num.Mag) (Int_2.mk x_0.Y.Den.Neg x_0.Y.Den.Mag)) v_9 r_a v_b r_c hp.imm _ q_5c).mono ?_)
        rintro _ w_5d ⟨I_5e, v_5f, v_5g, hv, hq, r_5h, r_5i⟩
        replace hv := hv.symm
        subst hv
        have hs := hq.st
        have hp := hp.join0 hq
        replace hz := hz.trans hs
        replace r_p := r_p.step hs
        replace r_q := r_q.step hs
        replace r_12 := r_12.step hs
        replace r_13 := r_13.step hs
        refine ⟨SK (Stp I_5e w_5d I_5e) [(g_r, [(.bool x_j.P.Neg), v_n, (.bool x_j.Q.Neg), v_o], 38)] [[]], ⟨Stp.refl _ _, (kp_cons (fun _ => (hp.own 2 _ _ _ rfl).1) kp_nil)⟩, fun L x h => ⟨hz.held h.1, h.2⟩, ?_⟩
        have hz := Stp.refl I_5e w_5d
        refine ⟨?_, trivial⟩
        obtain ⟨⟨x_5j, x_5k⟩, q_5l, q_v⟩ := bind_some q_v
        refine ev_call rfl rfl C12 (((rotation_Turn_ok n) _ _  (Rot.mk (Int_2.mk x_j.P.Neg x_j.P.Mag) (Int_2.mk x_j.Q.Neg x_j.Q.Mag)) v_n r_p v_o r_q x_w v_10 r_12 v_11 r_13 x_5b v_5f r_5h v_5g r_5i hp.imm _ q_5l).mono ?_)
        rintro _ w_5m ⟨I_5n, v_5o, v_5p, v_5q, v_5r, hv, hq, r_5s, r_5t, r_5u, r_5v⟩
        replace hv := hv.symm
        subst hv
        have hs := hq.st
        have hp := hp.join0 hq
        replace hz := hz.trans hs
        replace r_p := r_p.step hs
        replace r_q := r_q.step hs
        refine ⟨SK (Stp I_5n w_5m I_5n) [(g_r, [(.bool x_j.P.Neg), v_n, (.bool x_j.Q.Neg), v_o], 38)] [[]], ⟨Stp.refl _ _, (kp_cons (fun _ => (hp.own 2 _ _ _ rfl).1) kp_nil)⟩, fun L x h => ⟨hz.held h.1, h.2⟩, ?_⟩
        have hz := Stp.refl I_5n w_5m
        refine ⟨SK.same (by kernel_rfl), ?_⟩
        refine ⟨SK.same (by kernel_rfl), ?_⟩
        refine ⟨SK.same (by kernel_rfl), ?_⟩
        refine ⟨?_, trivial⟩
        refine ev_storeA hp (i := 1) (off := 0) (vs := [(.bool x_5j.Num.Neg), v_5o, (.bool x_5j.Den.Neg), v_5p]) rfl rfl rfl rfl T31 rfl (Nat.le_of_ble_eq_true rfl) (ones_cons rfl (ones_cons r_5s.one (ones_cons rfl (ones_cons r_5t.one ones_nil)))) ?_
        intro w_5w hp hs
        replace hz := hz.trans hs
        replace r_5u := r_5u.step hs
        replace r_5v := r_5v.step hs
        replace r_5s := r_5s.step hs
        replace r_5t := r_5t.step hs
        replace r_p := r_p.step hs
        replace r_q := r_q.step hs
        refine ⟨SK (Stp I_5n w_5w I_5n) [(g_r, [(.bool x_j.P.Neg), v_n, (.bool x_j.Q.Neg), v_o], 38)] [[]], ⟨Stp.refl _ _, (kp_cons (fun _ => (hp.own 2 _ _ _ rfl).1) kp_nil)⟩, fun L x h => ⟨hz.held h.1, h.2⟩, ?_⟩
        have hz := Stp.refl I_5n w_5w
        refine ⟨?_, trivial⟩
        refine ev_storeA hp (i := 0) (off := 0) (vs := [(.bool x_5k.Num.Neg), v_5q, (.bool x_5k.Den.Neg), v_5r]) rfl rfl rfl rfl T31 rfl (Nat.le_of_ble_eq_true rfl) (ones_cons rfl (ones_cons r_5u.one (ones_cons rfl (ones_cons r_5v.one ones_nil)))) ?_
        intro w_5x hp hs
        replace hz := hz.trans hs
        replace r_5u := r_5u.step hs
        replace r_5v := r_5v.step hs
        replace r_5s := r_5s.step hs
        replace r_5t := r_5t.step hs
        replace r_p := r_p.step hs
        replace r_q := r_q.step hs
        refine ⟨SK (Stp I_5n w_5x I_5n) [(g_r, [(.bool x_j.P.Neg), v_n, (.bool x_j.Q.Neg), v_o], 38)] [[]], ⟨Stp.refl _ _, (kp_cons (fun _ => (hp.own 2 _ _ _ rfl).1) kp_nil)⟩, fun L x h => ⟨hz.held h.1, h.2⟩, ?_⟩
        have hz := Stp.refl I_5n w_5x
        obtain rfl := Option.some.inj q_v
        have hp := hp.perm [3, 2, 1, 0] (by decide)
        exact ⟨(x_5j.Num.Neg, x_5j.Num.Mag, x_5j.Den.Neg, x_5j.Den.Mag, x_5k.Num.Neg, x_5k.Num.Mag, x_5k.Den.Neg, x_5k.Den.Mag, g_41, v_5o, v_5p, g_59, v_5q, v_5r, I_5n), (.c rfl (.c rfl (.c rfl (.c rfl .n)))), rfl, hp, r_p, r_q, r_5s, r_5t, r_5u, r_5v⟩
      refine ⟨?_, trivial⟩
      refine ev_alloc hp rfl T31 ?_
      intro g_5y w_5z hp hs
      replace hz := hz.trans hs
      replace r_p := r_p.step hs
      replace r_q := r_q.step hs
      replace r_a := r_a.step hs
      replace r_c := r_c.step hs
      replace r_12 := r_12.step hs
      replace r_13 := r_13.step hs
      refine ⟨SK (Stp I_z w_5z I_z) [(g_r, [(.bool x_j.P.Neg), v_n, (.bool x_j.Q.Neg), v_o], 38)] [[]], ⟨Stp.refl _ _, (kp_cons (fun _ => (hp.own 1 _ _ _ rfl).1) kp_nil)⟩, fun L x h => ⟨hz.held h.1, h.2⟩, ?_⟩
      have hz := Stp.refl I_z w_5z
      refine ⟨?_, ?_⟩
      ·
        obtain ⟨x_60, q_61, q_v⟩ := bind_some q_v
        refine ev_call rfl rfl C41 (((rational_Neg_ok n) _ _  (Rational.mk (Int_2.mk x_0.Y.Num.Neg x_0.Y.Num.Mag) (Int_2.mk x_0.Y.Den.Neg x_0.Y.Den.Mag)) v_9 r_a v_b r_c hp.imm _ q_61).mono ?_)
        rintro _ w_62 ⟨I_63, v_64, v_65, hv, hq, r_66, r_67⟩
        replace hv := hv.symm
        subst hv
        have hs := hq.st
        have hp := hp.join0 hq
        replace hz := hz.trans hs
        replace r_p := r_p.step hs
        replace r_q := r_q.step hs
        replace r_12 := r_12.step hs
        replace r_13 := r_13.step hs
        refine ⟨SK (Stp I_63 w_62 I_63) [(g_r, [(.bool x_j.P.Neg), v_n, (.bool x_j.Q.Neg), v_o], 38)] [[]], ⟨Stp.refl _ _, (kp_cons (fun _ => (hp.own 1 _ _ _ rfl).1) kp_nil)⟩, fun L x h => ⟨hz.held h.1, h.2⟩, ?_⟩
        have hz := Stp.refl I_63 w_62
        refine ⟨?_, ?_⟩
        ·
          obtain ⟨⟨x_68, x_69⟩, q_6a, q_v⟩ := bind_some q_v
          refine ev_call rfl rfl C12 (((rotation_Turn_ok n) _ _  (Rot.mk (Int_2.mk x_j.P.Neg x_j.P.Mag) (Int_2.mk x_j.Q.Neg x_j.Q.Mag)) v_n r_p v_o r_q x_w v_10 r_12 v_11 r_13 x_60 v_64 r_66 v_65 r_67 hp.imm _ q_6a).mono ?_)
          rintro _ w_6b ⟨I_6c, v_6d, v_6e, v_6f, v_6g, hv, hq, r_6h, r_6i, r_6j, r_6k⟩
          replace hv := hv.symm
          subst hv
          have hs := hq.st
          have hp := hp.join0 hq
          replace hz := hz.trans hs
          replace r_p := r_p.step hs
          replace r_q := r_q.step hs
          refine ⟨SK (Stp I_6c w_6b I_6c) [(g_r, [(.bool x_j.P.Neg), v_n, (.bool x_j.Q.Neg), v_o], 38)] [[]], ⟨Stp.refl _ _, (kp_cons (fun _ => (hp.own 1 _ _ _ rfl).1) kp_nil)⟩, fun L x h => ⟨hz.held h.1, h.2⟩, ?_⟩
          have hz := Stp.refl I_6c w_6b
          refine ⟨SK.same (by kernel_rfl), ?_⟩
          refine ⟨SK.same (by kernel_rfl), ?_⟩
          refine ⟨SK.same (by kernel_rfl), ?_⟩
          refine ⟨?_, trivial⟩
          refine ev_alloc hp rfl T31 ?_
          intro g_6l w_6m hp hs
          replace hz := hz.trans hs
          replace r_6h := r_6h.step hs
          replace r_6i := r_6i.step hs
          replace r_6j := r_6j.step hs
          replace r_6k := r_6k.step hs
          replace r_p := r_p.step hs
          replace r_q := r_q.step hs
          refine ⟨SK (Stp I_6c w_6m I_6c) [(g_r, [(.bool x_j.P.Neg), v_n, (.bool x_j.Q.Neg), v_o], 38)] [[]], ⟨Stp.refl _ _, (kp_cons (fun _ => (hp.own 2 _ _ _ rfl).1) kp_nil)⟩, fun L x h => ⟨hz.held h.1, h.2⟩, ?_⟩
          have hz := Stp.refl I_6c w_6m
          refine ⟨?_, trivial⟩
          refine ev_storeA hp (i := 0) (off := 0) (vs := [(.bool x_68.Num.Neg), v_6d, (.bool x_68.Den.Neg), v_6e]) rfl rfl rfl rfl T31 rfl (Nat.le_of_ble_eq_true rfl) (ones_cons rfl (ones_cons r_6h.one (ones_cons rfl (ones_cons r_6i.one ones_nil)))) ?_
          intro w_6n hp hs
          replace hz := hz.trans hs
          replace r_6j := r_6j.step hs
          replace r_6k := r_6k.step hs
          replace r_6h := r_6h.step hs
          replace r_6i := r_6i.step hs
          replace r_p := r_p.step hs
          replace r_q := r_q.step hs
          refine ⟨SK (Stp I_6c w_6n I_6c) [(g_r, [(.bool x_j.P.Neg), v_n, (.bool x_j.Q.Neg), v_o], 38)] [[]], ⟨Stp.refl _ _, (kp_cons (fun _ => (hp.own 2 _ _ _ rfl).1) kp_nil)⟩, fun L x h => ⟨hz.held h.1, h.2⟩, ?_⟩
          have hz := Stp.refl I_6c w_6n
          refine ⟨?_, trivial⟩
          refine ev_storeA hp (i := 1) (off := 0) (vs := [(.bool x_69.Num.Neg), v_6f, (.bool x_69.Den.Neg), v_6g]) rfl rfl rfl rfl T31 rfl (Nat.le_of_ble_eq_true rfl) (ones_cons rfl (ones_cons r_6j.one (ones_cons rfl (ones_cons r_6k.one ones_nil)))) ?_
          intro w_6o hp hs
          replace hz := hz.trans hs
          replace r_6h := r_6h.step hs
          replace r_6i := r_6i.step hs
          replace r_6j := r_6j.step hs
          replace r_6k := r_6k.step hs
          replace r_p := r_p.step hs
          replace r_q := r_q.step hs
          refine ⟨SK (Stp I_6c w_6o I_6c) [(g_r, [(.bool x_j.P.Neg), v_n, (.bool x_j.Q.Neg), v_o], 38)] [[]], ⟨Stp.refl _ _, (kp_cons (fun _ => (hp.own 2 _ _ _ rfl).1) kp_nil)⟩, fun L x h => ⟨hz.held h.1, h.2⟩, ?_⟩
          have hz := Stp.refl I_6c w_6o
          obtain rfl := Option.some.inj q_v
          have hp := hp.perm [3, 2, 0, 1] (by decide)
          exact ⟨(x_68.Num.Neg, x_68.Num.Mag, x_68.Den.Neg, x_68.Den.Mag, x_69.Num.Neg, x_69.Num.Mag, x_69.Den.Neg, x_69.Den.Mag, g_6l, v_6d, v_6e, g_5y, v_6f, v_6g, I_6c), (.c rfl (.c rfl (.c rfl (.c rfl .n)))), rfl, hp, r_p, r_q, r_6h, r_6i, r_6j, r_6k⟩
        refine ⟨?_, trivial⟩
        refine ev_alloc hp rfl T31 ?_
        intro g_6p w_6q hp hs
        replace hz := hz.trans hs
        replace r_p := r_p.step hs
        replace r_q := r_q.step hs
        replace r_12 := r_12.step hs
        replace r_13 := r_13.step hs
        replace r_66 := r_66.step hs
        replace r_67 := r_67.step hs
        refine ⟨SK (Stp I_63 w_6q I_63) [(g_r, [(.bool x_j.P.Neg), v_n, (.bool x_j.Q.Neg), v_o], 38)] [[]], ⟨Stp.refl _ _, (kp_cons (fun _ => (hp.own 2 _ _ _ rfl).1) kp_nil)⟩, fun L x h => ⟨hz.held h.1, h.2⟩, ?_⟩
        have hz := Stp.refl I_63 w_6q
        refine ⟨?_, trivial⟩
        obtain ⟨⟨x_6r, x_6s⟩, q_6t, q_v⟩ := bind_some q_v
        refine ev_call rfl rfl C12 (((rotation_Turn_ok n) _ _  (Rot.mk (Int_2.mk x_j.P.Neg x_j.P.Mag) (Int_2.mk x_j.Q.Neg x_j.Q.Mag)) v_n r_p v_o r_q x_w v_10 r_12 v_11 r_13 x_60 v_64 r_66 v_65 r_67 hp.imm _ q_6t).mono ?_)
        rintro _ w_6u ⟨I_6v, v_6w, v_6x, v_6y, v_6z, hv, hq, r_70, r_71, r_72, r_73⟩
        replace hv := hv.symm
        subst hv
        have hs := hq.st
        have hp := hp.join0 hq
        replace hz := hz.trans hs
        replace r_p := r_p.step hs
        replace r_q := r_q.step hs
        refine ⟨SK (Stp I_6v w_6u I_6v) [(g_r, [(.bool x_j.P.Neg), v_n, (.bool x_j.Q.Neg), v_o], 38)] [[]], ⟨Stp.refl _ _, (kp_cons (fun _ => (hp.own 2 _ _ _ rfl).1) kp_nil)⟩, fun L x h => ⟨hz.held h.1, h.2⟩, ?_⟩
        have hz := Stp.refl I_6v w_6u
        refine ⟨SK.same (by kernel_rfl), ?_⟩
        refine ⟨SK.same (by kernel_rfl), ?_⟩
        refine ⟨SK.same (by kernel_rfl), ?_⟩
        refine ⟨?_, trivial⟩
        refine ev_storeA hp (i := 0) (off := 0) (vs := [(.bool x_6r.Num.Neg), v_6w, (.bool x_6r.Den.Neg), v_6x]) rfl rfl rfl rfl T31 rfl (Nat.le_of_ble_eq_true rfl) (ones_cons rfl (ones_cons r_70.one (ones_cons rfl (ones_cons r_71.one ones_nil)))) ?_
        intro w_74 hp hs
        replace hz := hz.trans hs
        replace r_72 := r_72.step hs
        replace r_73 := r_73.step hs
        replace r_70 := r_70.step hs
        replace r_71 := r_71.step hs
        replace r_p := r_p.step hs
        replace r_q := r_q.step hs
        refine ⟨SK (Stp I_6v w_74 I_6v) [(g_r, [(.bool x_j.P.Neg), v_n, (.bool x_j.Q.Neg), v_o], 38)] [[]], ⟨Stp.refl _ _, (kp_cons (fun _ => (hp.own 2 _ _ _ rfl).1) kp_nil)⟩, fun L x h => ⟨hz.held h.1, h.2⟩, ?_⟩
        have hz := Stp.refl I_6v w_74
        refine ⟨?_, trivial⟩
        refine ev_storeA hp (i := 1) (off := 0) (vs := [(.bool x_6s.Num.Neg), v_6y, (.bool x_6s.Den.Neg), v_6z]) rfl rfl rfl rfl T31 rfl (Nat.le_of_ble_eq_true rfl) (ones_cons rfl (ones_cons r_72.one (ones_cons rfl (ones_cons r_73.one ones_nil)))) ?_
        intro w_75 hp hs
        replace hz := hz.trans hs
        replace r_70 := r_70.step hs
        replace r_71 := r_71.step hs
        replace r_72 := r_72.step hs
        replace r_73 := r_73.step hs
        replace r_p := r_p.step hs
        replace r_q := r_q.step hs
        refine ⟨SK (Stp I_6v w_75 I_6v) [(g_r, [(.bool x_j.P.Neg), v_n, (.bool x_j.Q.Neg), v_o], 38)] [[]], ⟨Stp.refl _ _, (kp_cons (fun _ => (hp.own 2 _ _ _ rfl).1) kp_nil)⟩, fun L x h => ⟨hz.held h.1, h.2⟩, ?_⟩
        have hz := Stp.refl I_6v w_75
        obtain rfl := Option.some.inj q_v
        have hp := hp.perm [3, 2, 0, 1] (by decide)
        exact ⟨(x_6r.Num.Neg, x_6r.Num.Mag, x_6r.Den.Neg, x_6r.Den.Mag, x_6s.Num.Neg, x_6s.Num.Mag, x_6s.Den.Neg, x_6s.Den.Mag, g_6p, v_6w, v_6x, g_5y, v_6y, v_6z, I_6v), (.c rfl (.c rfl (.c rfl (.c rfl .n)))), rfl, hp, r_p, r_q, r_70, r_71, r_72, r_73⟩
      refine ⟨?_, trivial⟩
      refine ev_alloc hp rfl T31 ?_
      intro g_76 w_77 hp hs
      replace hz := hz.trans hs
      replace r_p := r_p.step hs
      replace r_q := r_q.step hs
      replace r_a := r_a.step hs
      replace r_c := r_c.step hs
      replace r_12 := r_12.step hs
      replace r_13 := r_13.step hs
      refine ⟨SK (Stp I_z w_77 I_z) [(g_r, [(.bool x_j.P.Neg), v_n, (.bool x_j.Q.Neg), v_o], 38)] [[]], ⟨Stp.refl _ _, (kp_cons (fun _ => (hp.own 2 _ _ _ rfl).1) kp_nil)⟩, fun L x h => ⟨hz.held h.1, h.2⟩, ?_⟩
      have hz := Stp.refl I_z w_77
      refine ⟨?_, trivial⟩
      obtain ⟨x_78, q_79, q_v⟩ := bind_some q_v
      refine ev_call rfl rfl C41 (((rational_Neg_ok n) _ _  (Rational.mk (Int_2.mk x_0.Y.Num.Neg x_0.Y.Num.Mag) (Int_2.mk x_0.Y.Den.Neg x_0.Y.Den.Mag)) v_9 r_a v_b r_c hp.imm _ q_79).mono ?_)
      rintro _ w_7a ⟨I_7b, v_7c, v_7d, hv, hq, r_7e, r_7f⟩
      replace hv := hv.symm
      subst hv
      have hs := hq.st
      have hp := hp.join0 hq
      replace hz := hz.trans hs
      replace r_p := r_p.step hs
      replace r_q := r_q.step hs
      replace r_12 := r_12.step hs
      replace r_13 := r_13.step hs
      refine ⟨SK (Stp I_7b w_7a I_7b) [(g_r, [(.bool x_j.P.Neg), v_n, (.bool x_j.Q.Neg), v_o], 38)] [[]], ⟨Stp.refl _ _, (kp_cons (fun _ => (hp.own 2 _ _ _ rfl).1) kp_nil)⟩, fun L x h => ⟨hz.held h.1, h.2⟩, ?_⟩
      have hz := Stp.refl I_7b w_7a
      refine ⟨?_, trivial⟩
      obtain ⟨⟨x_7g, x_7h⟩, q_7i, q_v⟩ := bind_some q_v
      refine ev_call rfl rfl C12 (((rotation_Turn_ok n) _ _  (Rot.mk (Int_2.mk x_j.P.Neg x_j.P.Mag) (Int_2.mk x_j.Q.Neg x_j.Q.Mag)) v_n r_p v_o r_q x_w v_10 r_12 v_11 r_13 x_78 v_7c r_7e v_7d r_7f hp.imm _ q_7i).mono ?_)
      rintro _ w_7j ⟨I_7k, v_7l, v_7m, v_7n, v_7o, hv, hq, r_7p, r_7q, r_7r, r_7s⟩
      replace hv := hv.symm
      subst hv
      have hs := hq.st
      have hp := hp.join0 hq
      replace hz := hz.trans hs
      replace r_p := r_p.step hs
      replace r_q := r_q.step hs
      refine ⟨SK (Stp I_7k w_7j I_7k) [(g_r, [(.bool x_j.P.Neg), v_n, (.bool x_j.Q.Neg), v_o], 38)] [[]], ⟨Stp.refl _ _, (kp_cons (fun _ => (hp.own 2 _ _ _ rfl).1) kp_nil)⟩, fun L x h => ⟨hz.held h.1, h.2⟩, ?_⟩
      have hz := Stp.refl I_7k w_7j
      refine ⟨SK.same (by kernel_rfl), ?_⟩
      refine ⟨SK.same (by kernel_rfl), ?_⟩
      refine ⟨SK.same (by kernel_rfl), ?_⟩
      refine ⟨?_, trivial⟩
      refine ev_storeA hp (i := 0) (off := 0) (vs := [(.bool x_7g.Num.Neg), v_7l, (.bool x_7g.Den.Neg), v_7m]) rfl rfl rfl rfl T31 rfl (Nat.le_of_ble_eq_true rfl) (ones_cons rfl (ones_cons r_7p.one (ones_cons rfl (ones_cons r_7q.one ones_nil)))) ?_
      intro w_7t hp hs
      replace hz := hz.trans hs
      replace r_7r := r_7r.step hs
      replace r_7s := r_7s.step hs
      replace r_7p := r_7p.step hs
      replace r_7q := r_7q.step hs
      replace r_p := r_p.step hs
      replace r_q := r_q.step hs
      refine ⟨SK (Stp I_7k w_7t I_7k) [(g_r, [(.bool x_j.P.Neg), v_n, (.bool x_j.Q.Neg), v_o], 38)] [[]], ⟨Stp.refl _ _, (kp_cons (fun _ => (hp.own 2 _ _ _ rfl).1) kp_nil)⟩, fun L x h => ⟨hz.held h.1, h.2⟩, ?_⟩
      have hz := Stp.refl I_7k w_7t
      refine ⟨?_, trivial⟩
      refine ev_storeA hp (i := 1) (off := 0) (vs := [(.bool x_7h.Num.Neg), v_7n, (.bool x_7h.Den.Neg), v_7o]) rfl rfl rfl rfl T31 rfl (Nat.le_of_ble_eq_true rfl) (ones_cons rfl (ones_cons r_7r.one (ones_cons rfl (ones_cons r_7s.one ones_nil)))) ?_
      intro w_7u hp hs
      replace hz := hz.trans hs
      replace r_7p := r_7p.step hs
      replace r_7q := r_7q.step hs
      replace r_7r := r_7r.step hs
      replace r_7s := r_7s.step hs
      replace r_p := r_p.step hs
      replace r_q := r_q.step hs
      refine ⟨SK (Stp I_7k w_7u I_7k) [(g_r, [(.bool x_j.P.Neg), v_n, (.bool x_j.Q.Neg), v_o], 38)] [[]], ⟨Stp.refl _ _, (kp_cons (fun _ => (hp.own 2 _ _ _ rfl).1) kp_nil)⟩, fun L x h => ⟨hz.held h.1, h.2⟩, ?_⟩
      have hz := Stp.refl I_7k w_7u
      obtain rfl := Option.some.inj q_v
      have hp := hp.perm [3, 2, 0, 1] (by decide)
      exact ⟨(x_7g.Num.Neg, x_7g.Num.Mag, x_7g.Den.Neg, x_7g.Den.Mag, x_7h.Num.Neg, x_7h.Num.Mag, x_7h.Den.Neg, x_7h.Den.Mag, g_76, v_7l, v_7m, g_5y, v_7n, v_7o, I_7k), (.c rfl (.c rfl (.c rfl (.c rfl .n)))), rfl, hp, r_p, r_q, r_7p, r_7q, r_7r, r_7s⟩
    refine ⟨?_, ?_⟩
    ·
      refine ev_alloc hp rfl T31 ?_
      intro g_7v w_7w hp hs
      replace hz := hz.trans hs
      replace r_p := r_p.step hs
      replace r_q := r_q.step hs
      replace r_6 := r_6.step hs
      replace r_8 := r_8.step hs
      replace r_a := r_a.step hs
      replace r_c := r_c.step hs
      refine ⟨SK (Stp I_m w_7w I_m) [(g_r, [(.bool x_j.P.Neg), v_n, (.bool x_j.Q.Neg), v_o], 38)] [[]], ⟨Stp.refl _ _, (kp_cons (fun _ => (hp.own 1 _ _ _ rfl).1) kp_nil)⟩, fun L x h => ⟨hz.held h.1, h.2⟩, ?_⟩
      have hz := Stp.refl I_m w_7w
      refine ⟨?_, ?_⟩
      ·
        obtain ⟨x_7x, q_7y, q_v⟩ := bind_some q_v
        refine ev_call rfl rfl C41 (((rational_Neg_ok n) _ _  (Rational.mk (Int_2.mk x_0.X.Num.Neg x_0.X.Num.Mag) (Int_2.mk x_0.X.Den.Neg x_0.X.Den.Mag)) v_5 r_6 v_7 r_8 hp.imm _ q_7y).mono ?_)
        rintro _ w_7z ⟨I_80, v_81, v_82, hv, hq, r_83, r_84⟩
        replace hv := hv.symm
        subst hv
        have hs := hq.st
        have hp := hp.join0 hq
        replace hz := hz.trans hs
        replace r_p := r_p.step hs
        replace r_q := r_q.step hs
        replace r_a := r_a.step hs
        replace r_c := r_c.step hs
        refine ⟨SK (Stp I_80 w_7z I_80) [(g_r, [(.bool x_j.P.Neg), v_n, (.bool x_j.Q.Neg), v_o], 38)] [[]], ⟨Stp.refl _ _, (kp_cons (fun _ => (hp.own 1 _ _ _ rfl).1) kp_nil)⟩, fun L x h => ⟨hz.held h.1, h.2⟩, ?_⟩
        have hz := Stp.refl I_80 w_7z
        refine ⟨?_, ?_⟩
        ·
          obtain ⟨x_85, q_86, q_v⟩ := bind_some q_v
          refine ev_call rfl rfl C41 (((rational_Neg_ok n) _ _  (Rational.mk (Int_2.mk x_0.Y.Num.Neg x_0.Y.Num.Mag) (Int_2.mk x_0.Y.Den.Neg x_0.Y.Den.Mag)) v_9 r_a v_b r_c hp.imm _ q_86).mono ?_)
          rintro _ w_87 ⟨I_88, v_89, v_8a, hv, hq, r_8b, r_8c⟩
          replace hv := hv.symm
          subst hv
          have hs := hq.st
          have hp := hp.join0 hq
          replace hz := hz.trans hs
          replace r_p := r_p.step hs
          replace r_q := r_q.step hs
          replace r_83 := r_83.step hs
          replace r_84 := r_84.step hs
          refine ⟨SK (Stp I_88 w_87 I_88) [(g_r, [(.bool x_j.P.Neg), v_n, (.bool x_j.Q.Neg), v_o], 38)] [[]], ⟨Stp.refl _ _, (kp_cons (fun _ => (hp.own 1 _ _ _ rfl).1) kp_nil)⟩, fun L x h => ⟨hz.held h.1, h.2⟩, ?_⟩
          have hz := Stp.refl I_88 w_87
          refine ⟨?_, ?_⟩
          ·
            obtain ⟨⟨x_8d, x_8e⟩, q_8f, q_v⟩ := bind_some q_v
            refine ev_call rfl rfl C12 (((rotation_Turn_ok n) _ _  (Rot.mk (Int_2.mk x_j.P.Neg x_j.P.Mag) (Int_2.mk x_j.Q.Neg x_j.Q.Mag)) v_n r_p v_o r_q x_7x v_81 r_83 v_82 r_84 x_85 v_89 r_8b v_8a r_8c hp.imm _ q_8f).mono ?_)
            rintro _ w_8g ⟨I_8h, v_8i, v_8j, v_8k, v_8l, hv, hq, r_8m, r_8n, r_8o, r_8p⟩
            replace hv := hv.symm
            subst hv
            have hs := hq.st
            have hp := hp.join0 hq
            replace hz := hz.trans hs
            replace r_p := r_p.step hs
            replace r_q := r_q.step hs
            refine ⟨SK (Stp I_8h w_8g I_8h) [(g_r, [(.bool x_j.P.Neg), v_n, (.bool x_j.Q.Neg), v_o], 38)] [[]], ⟨Stp.refl _ _, (kp_cons (fun _ => (hp.own 1 _ _ _ rfl).1) kp_nil)⟩, fun L x h => ⟨hz.held h.1, h.2⟩, ?_⟩
            have hz := Stp.refl I_8h w_8g
            refine ⟨SK.same (by kernel_rfl), ?_⟩
            refine ⟨SK.same (by kernel_rfl), ?_⟩
            refine ⟨SK.same (by kernel_rfl), ?_⟩
            refine ⟨?_, trivial⟩
            refine ev_alloc hp rfl T31 ?_
            intro g_8q w_8r hp hs
            replace hz := hz.trans hs
            replace r_8m := r_8m.step hs
            replace r_8n := r_8n.step hs
            replace r_8o := r_8o.step hs
            replace r_8p := r_8p.step hs
            replace r_p := r_p.step hs
            replace r_q := r_q.step hs
            refine ⟨SK (Stp I_8h w_8r I_8h) [(g_r, [(.bool x_j.P.Neg), v_n, (.bool x_j.Q.Neg), v_o], 38)] [[]], ⟨Stp.refl _ _, (kp_cons (fun _ => (hp.own 2 _ _ _ rfl).1) kp_nil)⟩, fun L x h => ⟨hz.held h.1, h.2⟩, ?_⟩
            have hz := Stp.refl I_8h w_8r
            refine ⟨?_, trivial⟩
            refine ev_storeA hp (i := 1) (off := 0) (vs := [(.bool x_8d.Num.Neg), v_8i, (.bool x_8d.Den.Neg), v_8j]) rfl rfl rfl rfl T31 rfl (Nat.le_of_ble_eq_true rfl) (ones_cons rfl (ones_cons r_8m.one (ones_cons rfl (ones_cons r_8n.one ones_nil)))) ?_
            intro w_8s hp hs
            replace hz := hz.trans hs
            replace r_8o := r_8o.step hs
            replace r_8p := r_8p.step hs
            replace r_8m := r_8m.step hs
            replace r_8n := r_8n.step hs
            replace r_p := r_p.step hs
            replace r_q := r_q.step hs
            refine ⟨SK (Stp I_8h w_8s I_8h) [(g_r, [(.bool x_j.P.Neg), v_n, (.bool x_j.Q.Neg), v_o], 38)] [[]], ⟨Stp.refl _ _, (kp_cons (fun _ => (hp.own 2 _ _ _ rfl).1) kp_nil)⟩, fun L x h => ⟨hz.held h.1, h.2⟩, ?_⟩
            have hz := Stp.refl I_8h w_8s
            refine ⟨?_, trivial⟩
            refine ev_storeA hp (i := 0) (off := 0) (vs := [(.bool x_8e.Num.Neg), v_8k, (.bool x_8e.Den.Neg), v_8l]) rfl rfl rfl rfl T31 rfl (Nat.le_of_ble_eq_true rfl) (ones_cons rfl (ones_cons r_8o.one (ones_cons rfl (ones_cons r_8p.one ones_nil)))) ?_
            intro w_8t hp hs
            replace hz := hz.trans hs
            replace r_8o := r_8o.step hs
            replace r_8p := r_8p.step hs
            replace r_8m := r_8m.step hs
            replace r_8n := r_8n.step hs
            replace r_p := r_p.step hs
            replace r_q := r_q.step hs
            refine ⟨SK (Stp I_8h w_8t I_8h) [(g_r, [(.bool x_j.P.Neg), v_n, (.bool x_j.Q.Neg), v_o], 38)] [[]], ⟨Stp.refl _ _, (kp_cons (fun _ => (hp.own 2 _ _ _ rfl).1) kp_nil)⟩, fun L x h => ⟨hz.held h.1, h.2⟩, ?_⟩
            have hz := Stp.refl I_8h w_8t
            obtain rfl := Option.some.inj q_v
            have hp := hp.perm [3, 2, 1, 0] (by decide)
            exact ⟨(x_8d.Num.Neg, x_8d.Num.Mag, x_8d.Den.Neg, x_8d.Den.Mag, x_8e.Num.Neg, x_8e.Num.Mag, x_8e.Den.Neg, x_8e.Den.Mag, g_7v, v_8i, v_8j, g_8q, v_8k, v_8l, I_8h), (.c rfl (.c rfl (.c rfl (.c rfl .n)))), rfl, hp, r_p, r_q, r_8m, r_8n, r_8o, r_8p⟩
          refine ⟨?_, trivial⟩
          refine ev_alloc hp rfl T31 ?_
          intro g_8u w_8v hp hs
          replace hz := hz.trans hs
          replace r_p := r_p.step hs
          replace r_q := r_q.step hs
          replace r_83 := r_83.step hs
          replace r_84 := r_84.step hs
          replace r_8b := r_8b.step hs
          replace r_8c := r_8c.step hs
          refine ⟨SK (Stp I_88 w_8v I_88) [(g_r, [(.bool x_j.P.Neg), v_n, (.bool x_j.Q.Neg), v_o], 38)] [[]], ⟨Stp.refl _ _, (kp_cons (fun _ => (hp.own 2 _ _ _ rfl).1) kp_nil)⟩, fun L x h => ⟨hz.held h.1, h.2⟩, ?_⟩
          have hz := Stp.refl I_88 w_8v
          refine ⟨?_, trivial⟩
          obtain ⟨⟨x_8w, x_8x⟩, q_8y, q_v⟩ := bind_some q_v
          refine ev_call rfl rfl C12 (((rotation_Turn_ok n) _ _  (Rot.mk (Int_2.mk x_j.P.Neg x_j.P.Mag) (Int_2.mk x_j.Q.Neg x_j.Q.Mag)) v_n r_p v_o r_q x_7x v_81 r_83 v_82 r_84 x_85 v_89 r_8b v_8a r_8c hp.imm _ q_8y).mono ?_)
          rintro _ w_8z ⟨I_90, v_91, v_92, v_93, v_94, hv, hq, r_95, r_96, r_97, r_98⟩
          replace hv := hv.symm
          subst hv
          have hs := hq.st
          have hp := hp.join0 hq
          replace hz := hz.trans hs
          replace r_p := r_p.step hs
          replace r_q := r_q.step hs
          refine ⟨SK (Stp I_90 w_8z I_90) [(g_r, [(.bool x_j.P.Neg), v_n, (.bool x_j.Q.Neg), v_o], 38)] [[]], ⟨Stp.refl _ _, (kp_cons (fun _ => (hp.own 2 _ _ _ rfl).1) kp_nil)⟩, fun L x h => ⟨hz.held h.1, h.2⟩, ?_⟩
          have hz := Stp.refl I_90 w_8z
          refine ⟨SK.same (by kernel_rfl), ?_⟩
          refine ⟨SK.same (by kernel_rfl), ?_⟩
          refine ⟨SK.same (by kernel_rfl), ?_⟩
          refine ⟨?_, trivial⟩
          refine ev_storeA hp (i := 1) (off := 0) (vs := [(.bool x_8w.Num.Neg), v_91, (.bool x_8w.Den.Neg), v_92]) rfl rfl rfl rfl T31 rfl (Nat.le_of_ble_eq_true rfl) (ones_cons rfl (ones_cons r_95.one (ones_cons rfl (ones_cons r_96.one ones_nil)))) ?_
          intro w_99 hp hs
          replace hz := hz.trans hs
          replace r_97 := r_97.step hs
          replace r_98 := r_98.step hs
          replace r_95 := r_95.step hs
          replace r_96 := r_96.step hs
          replace r_p := r_p.step hs
          replace r_q := r_q.step hs
          refine ⟨SK (Stp I_90 w_99 I_90) [(g_r, [(.bool x_j.P.Neg), v_n, (.bool x_j.Q.Neg), v_o], 38)] [[]], ⟨Stp.refl _ _, (kp_cons (fun _ => (hp.own 2 _ _ _ rfl).1) kp_nil)⟩, fun L x h => ⟨hz.held h.1, h.2⟩, ?_⟩
          have hz := Stp.refl I_90 w_99
          refine ⟨?_, trivial⟩
          refine ev_storeA hp (i := 0) (off := 0) (vs := [(.bool x_8x.Num.Neg), v_93, (.bool x_8x.Den.Neg), v_94]) rfl rfl rfl rfl T31 rfl (Nat.le_of_ble_eq_true rfl) (ones_cons rfl (ones_cons r_97.one (ones_cons rfl (ones_cons r_98.one ones_nil)))) ?_
          intro w_9a hp hs
          replace hz := hz.trans hs
          replace r_97 := r_97.step hs
          replace r_98 := r_98.step hs
          replace r_95 := r_95.step hs
          replace r_96 := r_96.step hs
          replace r_p := r_p.step hs
          replace r_q := r_q.step hs
          refine ⟨SK (Stp I_90 w_9a I_90) [(g_r, [(.bool x_j.P.Neg), v_n, (.bool x_j.Q.Neg), v_o], 38)] [[]], ⟨Stp.refl _ _, (kp_cons (fun _ => (hp.own 2 _ _ _ rfl).1) kp_nil)⟩, fun L x h => ⟨hz.held h.1, h.2⟩, ?_⟩
          have hz := Stp.refl I_90 w_9a
          obtain rfl := Option.some.inj q_v
          have hp := hp.perm [3, 2, 1, 0] (by decide)
          exact ⟨(x_8w.Num.Neg, x_8w.Num.Mag, x_8w.Den.Neg, x_8w.Den.Mag, x_8x.Num.Neg, x_8x.Num.Mag, x_8x.Den.Neg, x_8x.Den.Mag, g_7v, v_91, v_92, g_8u, v_93, v_94, I_90), (.c rfl (.c rfl (.c rfl (.c rfl .n)))), rfl, hp, r_p, r_q, r_95, r_96, r_97, r_98⟩
        refine ⟨?_, trivial⟩
        refine ev_alloc hp rfl T31 ?_
        intro g_9b w_9c hp hs
        replace hz := hz.trans hs
        replace r_p := r_p.step hs
        replace r_q := r_q.step hs
        replace r_a := r_a.step hs
        replace r_c := r_c.step hs
        replace r_83 := r_83.step hs
        replace r_84 := r_84.step hs
        refine ⟨SK (Stp I_80 w_9c I_80) [(g_r, [(.bool x_j.P.Neg), v_n, (.bool x_j.Q.Neg), v_o], 38)] [[]], ⟨Stp.refl _ _, (kp_cons (fun _ => (hp.own 2 _ _ _ rfl).1) kp_nil)⟩, fun L x h => ⟨hz.held h.1, h.2⟩, ?_⟩
        have hz := Stp.refl I_80 w_9c
        refine ⟨?_, trivial⟩
        obtain ⟨x_9d, q_9e, q_v⟩ := bind_some q_v
        refine ev_call rfl rfl C41 (((rational_Neg_ok n) _ _  (Rational.mk (Int_2.mk x_0.Y.Num.Neg x_0.Y.Num.Mag) (Int_2.mk x_0.Y.Den.Neg x_0.Y.Den.Mag)) v_9 r_a v_b r_c hp.imm _ q_9e).mono ?_)
        rintro _ w_9f ⟨I_9g, v_9h, v_9i, hv, hq, r_9j, r_9k⟩
        replace hv := hv.symm
        subst hv
        have hs := hq.st
        have hp := hp.join0 hq
        replace hz := hz.trans hs
        replace r_p := r_p.step hs
        replace r_q := r_q.step hs
        replace r_83 := r_83.step hs
        replace r_84 := r_84.step hs
        refine ⟨SK (Stp I_9g w_9f I_9g) [(g_r, [(.bool x_j.P.Neg), v_n, (.bool x_j.Q.Neg), v_o], 38)] [[]], ⟨Stp.refl _ _, (kp_cons (fun _ => (hp.own 2 _ _ _ rfl).1) kp_nil)⟩, fun L x h => ⟨hz.held h.1, h.2⟩, ?_⟩
        have hz := Stp.refl I_9g w_9f
        refine ⟨?_, trivial⟩
        obtain ⟨⟨x_9l, x_9m⟩, q_9n, q_v⟩ := bind_some q_v
        refine ev_call rfl rfl C12 (((rotation_Turn_ok n) _ _  (Rot.mk (Int_2.mk x_j.P.Neg x_j.P.Mag) (Int_2.mk x_j.Q.Neg x_j.Q.Mag)) v_n r_p v_o r_q x_7x v_81 r_83 v_82 r_84 x_9d v_9h r_9j v_9i r_9k hp.imm _ q_9n).mono ?_)
        rintro _ w_9o ⟨I_9p, v_9q, v_9r, v_9s, v_9t, hv, hq, r_9u, r_9v, r_9w, r_9x⟩
        replace hv := hv.symm
        subst hv
        have hs := hq.st
        have hp := hp.join0 hq
        replace hz := hz.trans hs
        replace r_p := r_p.step hs
        replace r_q := r_q.step hs
        refine ⟨SK (Stp I_9p w_9o I_9p) [(g_r, [(.bool x_j.P.Neg), v_n, (.bool x_j.Q.Neg), v_o], 38)] [[]], ⟨Stp.refl _ _, (kp_cons (fun _ => (hp.own 2 _ _ _ rfl).1) kp_nil)⟩, fun L x h => ⟨hz.held h.1, h.2⟩, ?_⟩
        have hz := Stp.refl I_9p w_9o
        refine ⟨SK.same (by kernel_rfl), ?_⟩
        refine ⟨SK.same (by kernel_rfl), ?_⟩
        refine ⟨SK.same (by kernel_rfl), ?_⟩
        refine ⟨?_, trivial⟩
        refine ev_storeA hp (i := 1) (off := 0) (vs := [(.bool x_9l.Num.Neg), v_9q, (.bool x_9l.Den.Neg), v_9r]) rfl rfl rfl rfl T31 rfl (Nat.le_of_ble_eq_true rfl) (ones_cons rfl (ones_cons r_9u.one (ones_cons rfl (ones_cons r_9v.one ones_nil)))) ?_
        intro w_9y hp hs
        replace hz := hz.trans hs
        replace r_9w := r_9w.step hs
        replace r_9x := r_9x.step hs
        replace r_9u := r_9u.step hs
        replace r_9v := r_9v.step hs
        replace r_p := r_p.step hs
        replace r_q := r_q.step hs
        refine ⟨SK (Stp I_9p w_9y I_9p) [(g_r, [(.bool x_j.P.Neg), v_n, (.bool x_j.Q.Neg), v_o], 38)] [[]], ⟨Stp.refl _ _, (kp_cons (fun _ => (hp.own 2 _ _ _ rfl).1) kp_nil)⟩, fun L x h => ⟨hz.held h.1, h.2⟩, ?_⟩
        have hz := Stp.refl I_9p w_9y
        refine ⟨?_, trivial⟩
        refine ev_storeA hp (i := 0) (off := 0) (vs := [(.bool x_9m.Num.Neg), v_9s, (.bool x_9m.Den.Neg), v_9t]) rfl rfl rfl rfl T31 rfl (Nat.le_of_ble_eq_true rfl) (ones_cons rfl (ones_cons r_9w.one (ones_cons rfl (ones_cons r_9x.one ones_nil)))) ?_
        intro w_9z hp hs
        replace hz := hz.trans hs
        replace r_9w := r_9w.step hs
        replace r_9x := r_9x.step hs
        replace r_9u := r_9u.step hs
        replace r_9v := r_9v.step hs
        replace r_p := r_p.step hs
        replace r_q := r_q.step hs
        refine ⟨SK (Stp I_9p w_9z I_9p) [(g_r, [(.bool x_j.P.Neg), v_n, (.bool x_j.Q.Neg), v_o], 38)] [[]], ⟨Stp.refl _ _, (kp_cons (fun _ => (hp.own 2 _ _ _ rfl).1) kp_nil)⟩, fun L x h => ⟨hz.held h.1, h.2⟩, ?_⟩
        have hz := Stp.refl I_9p w_9z
        obtain rfl := Option.some.inj q_v
        have hp := hp.perm [3, 2, 1, 0] (by decide)
        exact ⟨(x_9l.Num.Neg, x_9l.Num.Mag, x_9l.Den.Neg, x_9l.Den.Mag, x_9m.Num.Neg, x_9m.Num.Mag, x_9m.Den.Neg, x_9m.Den.Mag, g_7v, v_9q, v_9r, g_9b, v_9s, v_9t, I_9p), (.c rfl (.c rfl (.c rfl (.c rfl .n)))), rfl, hp, r_p, r_q, r_9u, r_9v, r_9w, r_9x⟩
      refine ⟨?_, trivial⟩
      refine ev_alloc hp rfl T31 ?_
      intro g_a0 w_a1 hp hs
      replace hz := hz.trans hs
      replace r_p := r_p.step hs
      replace r_q := r_q.step hs
      replace r_6 := r_6.step hs
      replace r_8 := r_8.step hs
      replace r_a := r_a.step hs
      replace r_c := r_c.step hs
      refine ⟨SK (Stp I_m w_a1 I_m) [(g_r, [(.bool x_j.P.Neg), v_n, (.bool x_j.Q.Neg), v_o], 38)] [[]], ⟨Stp.refl _ _, (kp_cons (fun _ => (hp.own 2 _ _ _ rfl).1) kp_nil)⟩, fun L x h => ⟨hz.held h.1, h.2⟩, ?_⟩
      have hz := Stp.refl I_m w_a1
      refine ⟨?_, trivial⟩
      obtain ⟨x_a2, q_a3, q_v⟩ := bind_some q_v
      refine ev_call rfl rfl C41 (((rational_Neg_ok n) _ _  (Rational.mk (Int_2.mk x_0.X.Num.Neg x_0.X.Num.Mag) (Int_2.mk x_0.X.Den.Neg x_0.X.Den.Mag)) v_5 r_6 v_7 r_8 hp.imm _ q_a3).mono ?_)
      rintro _ w_a4 ⟨I_a5, v_a6, v_a7, hv, hq, r_a8, r_a9⟩
      replace hv := hv.symm
      subst hv
      have hs := hq.st
      have hp := hp.join0 hq
      replace hz := hz.trans hs
      replace r_p := r_p.step hs
      replace r_q := r_q.step hs
      replace r_a := r_a.step hs
      replace r_c := r_c.step hs
      refine ⟨SK (Stp I_a5 w_a4 I_a5) [(g_r, [(.bool x_j.P.Neg), v_n, (.bool x_j.Q.Neg), v_o], 38)] [[]], ⟨Stp.refl _ _, (kp_cons (fun _ => (hp.own 2 _ _ _ rfl).1) kp_nil)⟩, fun L x h => ⟨hz.held h.1, h.2⟩, ?_⟩
      have hz := Stp.refl I_a5 w_a4
      refine ⟨?_, trivial⟩
      obtain ⟨x_aa, q_ab, q_v⟩ := bind_some q_v
      refine ev_call rfl rfl C41 (((rational_Neg_ok n) _ _  (Rational.mk (Int_2.mk x_0.Y.Num.Neg x_0.Y.Num.Mag) (Int_2.mk x_0.Y.Den.Neg x_0.Y.Den.Mag)) v_9 r_a v_b r_c hp.imm _ q_ab).mono ?_)
      rintro _ w_ac ⟨I_ad, v_ae, v_af, hv, hq, r_ag, r_ah⟩
      replace hv := hv.symm
      subst hv
      have hs := hq.st
      have hp := hp.join0 hq
      replace hz := hz.trans hs
      replace r_p := r_p.step hs
      replace r_q := r_q.step hs
      replace r_a8 := r_a8.step hs
      replace r_a9 := r_a9.step hs
      refine ⟨SK (Stp I_ad w_ac I_ad) [(g_r, [(.bool x_j.P.Neg), v_n, (.bool x_j.Q.Neg), v_o], 38)] [[]], ⟨Stp.refl _ _, (kp_cons (fun _ => (hp.own 2 _ _ _ rfl).1) kp_nil)⟩, fun L x h => ⟨hz.held h.1, h.2⟩, ?_⟩
      have hz := Stp.refl I_ad w_ac
      refine ⟨?_, trivial⟩
      obtain ⟨⟨x_ai, x_aj⟩, q_ak, q_v⟩ := bind_some q_v
      refine ev_call rfl rfl C12 (((rotation_Turn_ok n) _ _  (Rot.mk (Int_2.mk x_j.P.Neg x_j.P.Mag) (Int_2.mk x_j.Q.Neg x_j.Q.Mag)) v_n r_p v_o r_q x_a2 v_a6 r_a8 v_a7 r_a9 x_aa v_ae r_ag v_af r_ah hp.imm _ q_ak).mono ?_)
      rintro _ w_al ⟨I_am, v_an, v_ao, v_ap, v_aq, hv, hq, r_ar, r_as, r_at, r_au⟩
      replace hv := hv.symm
      subst hv
      have hs := hq.st
      have hp := hp.join0 hq
      replace hz := hz.trans hs
      replace r_p := r_p.step hs
      replace r_q := r_q.step hs
      refine ⟨SK (Stp I_am w_al I_am) [(g_r, [(.bool x_j.P.Neg), v_n, (.bool x_j.Q.Neg), v_o], 38)] [[]], ⟨Stp.refl _ _, (kp_cons (fun _ => (hp.own 2 _ _ _ rfl).1) kp_nil)⟩, fun L x h => ⟨hz.held h.1, h.2⟩, ?_⟩
      have hz := Stp.refl I_am w_al
      refine ⟨SK.same (by kernel_rfl), ?_⟩
      refine ⟨SK.same (by kernel_rfl), ?_⟩
      refine ⟨SK.same (by kernel_rfl), ?_⟩
      refine ⟨?_, trivial⟩
      refine ev_storeA hp (i := 1) (off := 0) (vs := [(.bool x_ai.Num.Neg), v_an, (.bool x_ai.Den.Neg), v_ao]) rfl rfl rfl rfl T31 rfl (Nat.le_of_ble_eq_true rfl) (ones_cons rfl (ones_cons r_ar.one (ones_cons rfl (ones_cons r_as.one ones_nil)))) ?_
      intro w_av hp hs
      replace hz := hz.trans hs
      replace r_at := r_at.step hs
      replace r_au := r_au.step hs
      replace r_ar := r_ar.step hs
      replace r_as := r_as.step hs
      replace r_p := r_p.step hs
      replace r_q := r_q.step hs
      refine ⟨SK (Stp I_am w_av I_am) [(g_r, [(.bool x_j.P.Neg), v_n, (.bool x_j.Q.Neg), v_o], 38)] [[]], ⟨Stp.refl _ _, (kp_cons (fun _ => (hp.own 2 _ _ _ rfl).1) kp_nil)⟩, fun L x h => ⟨hz.held h.1, h.2⟩, ?_⟩
      have hz := Stp.refl I_am w_av
      refine ⟨?_, trivial⟩
      refine ev_storeA hp (i := 0) (off := 0) (vs := [(.bool x_aj.Num.Neg), v_ap, (.bool x_aj.Den.Neg), v_aq]) rfl rfl rfl rfl T31 rfl (Nat.le_of_ble_eq_true rfl) (ones_cons rfl (ones_cons r_at.one (ones_cons rfl (ones_cons r_au.one ones_nil)))) ?_
      intro w_aw hp hs
      replace hz := hz.trans hs
      replace r_at := r_at.step hs
      replace r_au := r_au.step hs
      replace r_ar := r_ar.step hs
      replace r_as := r_as.step hs
      replace r_p := r_p.step hs
      replace r_q := r_q.step hs
      refine ⟨SK (Stp I_am w_aw I_am) [(g_r, [(.bool x_j.P.Neg), v_n, (.bool x_j.Q.Neg), v_o], 38)] [[]], ⟨Stp.refl _ _, (kp_cons (fun _ => (hp.own 2 _ _ _ rfl).1) kp_nil)⟩, fun L x h => ⟨hz.held h.1, h.2⟩, ?_⟩
      have hz := Stp.refl I_am w_aw
      obtain rfl := Option.some.inj q_v
      have hp := hp.perm [3, 2, 1, 0] (by decide)
      exact ⟨(x_ai.Num.Neg, x_ai.Num.Mag, x_ai.Den.Neg, x_ai.Den.Mag, x_aj.Num.Neg, x_aj.Num.Mag, x_aj.Den.Neg, x_aj.Den.Mag, g_7v, v_an, v_ao, g_a0, v_ap, v_aq, I_am), (.c rfl (.c rfl (.c rfl (.c rfl .n)))), rfl, hp, r_p, r_q, r_ar, r_as, r_at, r_au⟩
    refine ⟨?_, trivial⟩
    refine ev_alloc hp rfl T31 ?_
    intro g_ax w_ay hp hs
    replace hz := hz.trans hs
    replace r_p := r_p.step hs
    replace r_q := r_q.step hs
    replace r_6 := r_6.step hs
    replace r_8 := r_8.step hs
    replace r_a := r_a.step hs
    replace r_c := r_c.step hs
    refine ⟨SK (Stp I_m w_ay I_m) [(g_r, [(.bool x_j.P.Neg), v_n, (.bool x_j.Q.Neg), v_o], 38)] [[]], ⟨Stp.refl _ _, (kp_cons (fun _ => (hp.own 1 _ _ _ rfl).1) kp_nil)⟩, fun L x h => ⟨hz.held h.1, h.2⟩, ?_⟩
    have hz := Stp.refl I_m w_ay
    refine ⟨?_, ?_⟩
    ·
      obtain ⟨x_az, q_b0, q_v⟩ := bind_some q_v
      refine ev_call rfl rfl C41 (((rational_Neg_ok n) _ _  (Rational.mk (Int_2.mk x_0.X.Num.Neg x_0.X.Num.Mag) (Int_2.mk x_0.X.Den.Neg x_0.X.Den.Mag)) v_5 r_6 v_7 r_8 hp.imm _ q_b0).mono ?_)
      rintro _ w_b1 ⟨I_b2, v_b3, v_b4, hv, hq, r_b5, r_b6⟩
      replace hv := hv.symm
      subst hv
      have hs := hq.st
      have hp := hp.join0 hq
      replace hz := hz.trans hs
      replace r_p := r_p.step hs
      replace r_q := r_q.step hs
      replace r_a := r_a.step hs
      replace r_c := r_c.step hs
      refine ⟨SK (Stp I_b2 w_b1 I_b2) [(g_r, [(.bool x_j.P.Neg), v_n, (.bool x_j.Q.Neg), v_o], 38)] [[]], ⟨Stp.refl _ _, (kp_cons (fun _ => (hp.own 1 _ _ _ rfl).1) kp_nil)⟩, fun L x h => ⟨hz.held h.1, h.2⟩, ?_⟩
      have hz := Stp.refl I_b2 w_b1
      refine ⟨?_, ?_⟩
      ·
        obtain ⟨x_b7, q_b8, q_v⟩ := bind_some q_v
        refine ev_call rfl rfl C41 (((rational_Neg_ok n) _ _  (Rational.mk (Int_2.mk x_0.Y.Num.Neg x_0.Y.Num.Mag) (Int_2.mk x_0.Y.Den.Neg x_0.Y.Den.Mag)) v_9 r_a v_b r_c hp.imm _ q_b8).mono ?_)
        rintro _ w_b9 ⟨I_ba, v_bb, v_bc, hv, hq, r_bd, r_be⟩
        replace hv := hv.symm
        subst hv
        have hs := hq.st
        have hp := hp.join0 hq
        replace hz := hz.trans hs
        replace r_p := r_p.step hs
        replace r_q := r_q.step hs
        replace r_b5 := r_b5.step hs
        replace r_b6 := r_b6.step hs
        refine ⟨SK (Stp I_ba w_b9 I_ba) [(g_r, [(.bool x_j.P.Neg), v_n, (.bool x_j.Q.Neg), v_o], 38)] [[]], ⟨Stp.refl _ _, (kp_cons (fun _ => (hp.own 1 _ _ _ rfl).1) kp_nil)⟩, fun L x h => ⟨hz.held h.1, h.2⟩, ?_⟩
        have hz := Stp.refl I_ba w_b9
        refine ⟨?_, ?_⟩
        ·
          obtain ⟨⟨x_bf, x_bg⟩, q_bh, q_v⟩ := bind_some q_v
          refine ev_call rfl rfl C12 (((rotation_Turn_ok n) _ _  (Rot.mk (Int_2.mk x_j.P.Neg x_j.P.Mag) (Int_2.mk x_j.Q.Neg x_j.Q.Mag)) v_n r_p v_o r_q x_az v_b3 r_b5 v_b4 r_b6 x_b7 v_bb r_bd v_bc r_be hp.imm _ q_bh).mono ?_)
          rintro _ w_bi ⟨I_bj, v_bk, v_bl, v_bm, v_bn, hv, hq, r_bo, r_bp, r_bq, r_br⟩
          replace hv := hv.symm
          subst hv
          have hs := hq.st
          have hp := hp.join0 hq
          replace hz := hz.trans hs
          replace r_p := r_p.step hs
          replace r_q := r_q.step hs
          refine ⟨SK (Stp I_bj w_bi I_bj) [(g_r, [(.bool x_j.P.Neg), v_n, (.bool x_j.Q.Neg), v_o], 38)] [[]], ⟨Stp.refl _ _, (kp_cons (fun _ => (hp.own 1 _ _ _ rfl).1) kp_nil)⟩, fun L x h => ⟨hz.held h.1, h.2⟩, ?_⟩
          have hz := Stp.refl I_bj w_bi
          refine ⟨SK.same (by kernel_rfl), ?_⟩
          refine ⟨SK.same (by kernel_rfl), ?_⟩
          refine ⟨SK.same (by kernel_rfl), ?_⟩
          refine ⟨?_, trivial⟩
          refine ev_alloc hp rfl T31 ?_
          intro g_bs w_bt hp hs
          replace hz := hz.trans hs
          replace r_bo := r_bo.step hs
          replace r_bp := r_bp.step hs
          replace r_bq := r_bq.step hs
          replace r_br := r_br.step hs
          replace r_p := r_p.step hs
          replace r_q := r_q.step hs
          refine ⟨SK (Stp I_bj w_bt I_bj) [(g_r, [(.bool x_j.P.Neg), v_n, (.bool x_j.Q.Neg), v_o], 38)] [[]], ⟨Stp.refl _ _, (kp_cons (fun _ => (hp.own 2 _ _ _ rfl).1) kp_nil)⟩, fun L x h => ⟨hz.held h.1, h.2⟩, ?_⟩
          have hz := Stp.refl I_bj w_bt
          refine ⟨?_, trivial⟩
          refine ev_storeA hp (i := 0) (off := 0) (vs := [(.bool x_bf.Num.Neg), v_bk, (.bool x_bf.Den.Neg), v_bl]) rfl rfl rfl rfl T31 rfl (Nat.le_of_ble_eq_true rfl) (ones_cons rfl (ones_cons r_bo.one (ones_cons rfl (ones_cons r_bp.one ones_nil)))) ?_
          intro w_bu hp hs
          replace hz := hz.trans hs
          replace r_bq := r_bq.step hs
          replace r_br := r_br.step hs
          replace r_bo := r_bo.step hs
          replace r_bp := r_bp.step hs
          replace r_p := r_p.step hs
          replace r_q := r_q.step hs
          refine ⟨SK (Stp I_bj w_bu I_bj) [(g_r, [(.bool x_j.P.Neg), v_n, (.bool x_j.Q.Neg), v_o], 38)] [[]], ⟨Stp.refl _ _, (kp_cons (fun _ => (hp.own 2 _ _ _ rfl).1) kp_nil)⟩, fun L x h => ⟨hz.held h.1, h.2⟩, ?_⟩
          have hz := Stp.refl I_bj w_bu
          refine ⟨?_, trivial⟩
          refine ev_storeA hp (i := 1) (off := 0) (vs := [(.bool x_bg.Num.Neg), v_bm, (.bool x_bg.Den.Neg), v_bn]) rfl rfl rfl rfl T31 rfl (Nat.le_of_ble_eq_true rfl) (ones_cons rfl (ones_cons r_bq.one (ones_cons rfl (ones_cons r_br.one ones_nil)))) ?_
          intro w_bv hp hs
          replace hz := hz.trans hs
          replace r_bo := r_bo.step hs
          replace r_bp := r_bp.step hs
          replace r_bq := r_bq.step hs
          replace r_br := r_br.step hs
          replace r_p := r_p.step hs
          replace r_q := r_q.step hs
          refine ⟨SK (Stp I_bj w_bv I_bj) [(g_r, [(.bool x_j.P.Neg), v_n, (.bool x_j.Q.Neg), v_o], 38)] [[]], ⟨Stp.refl _ _, (kp_cons (fun _ => (hp.own 2 _ _ _ rfl).1) kp_nil)⟩, fun L x h => ⟨hz.held h.1, h.2⟩, ?_⟩
          have hz := Stp.refl I_bj w_bv
          obtain rfl := Option.some.inj q_v
          have hp := hp.perm [3, 2, 0, 1] (by decide)
          exact ⟨(x_bf.Num.Neg, x_bf.Num.Mag, x_bf.Den.Neg, x_bf.Den.Mag, x_bg.Num.Neg, x_bg.Num.Mag, x_bg.Den.Neg, x_bg.Den.Mag, g_bs, v_bk, v_bl, g_ax, v_bm, v_bn, I_bj), (.c rfl (.c rfl (.c rfl (.c rfl .n)))), rfl, hp, r_p, r_q, r_bo, r_bp, r_bq, r_br⟩
        refine ⟨?_, trivial⟩
        refine ev_alloc hp rfl T31 ?_
        intro g_bw w_bx hp hs
        replace hz := hz.trans hs
        replace r_p := r_p.step hs
        replace r_q := r_q.step hs
        replace r_b5 := r_b5.step hs
        replace r_b6 := r_b6.step hs
        replace r_bd := r_bd.step hs
        replace r_be := r_be.step hs
        refine ⟨SK (Stp I_ba w_bx I_ba) [(g_r, [(.bool x_j.P.Neg), v_n, (.bool x_j.Q.Neg), v_o], 38)] [[]], ⟨Stp.refl _ _, (kp_cons (fun _ => (hp.own 2 _ _ _ rfl).1) kp_nil)⟩, fun L x h => ⟨hz.held h.1, h.2⟩, ?_⟩
        have hz := Stp.refl I_ba w_bx
        refine ⟨?_, trivial⟩
        obtain ⟨⟨x_by, x_bz⟩, q_c0, q_v⟩ := bind_some q_v
        refine ev_call rfl rfl C12 (((rotation_Turn_ok n) _ _  (Rot.mk (Int_2.mk x_j.P.Neg x_j.P.Mag) (Int_2.mk x_j.Q.Neg x_j.Q.Mag)) v_n r_p v_o r_q x_az v_b3 r_b5 v_b4 r_b6 x_b7 v_bb r_bd v_bc r_be hp.imm _ q_c0).mono ?_)
        rintro _ w_c1 ⟨I_c2, v_c3, v_c4, v_c5, v_c6, hv, hq, r_c7, r_c8, r_c9, r_ca⟩
        replace hv := hv.symm
        subst hv
        have hs := hq.st
        have hp := hp.join0 hq
        replace hz := hz.trans hs
        replace r_p := r_p.step hs
        replace r_q := r_q.step hs
        refine ⟨SK (Stp I_c2 w_c1 I_c2) [(g_r, [(.bool x_j.P.Neg), v_n, (.bool x_j.Q.Neg), v_o], 38)] [[]], ⟨Stp.refl _ _, (kp_cons (fun _ => (hp.own 2 _ _ _ rfl).1) kp_nil)⟩, fun L x h => ⟨hz.held h.1, h.2⟩, ?_⟩
        have hz := Stp.refl I_c2 w_c1
        refine ⟨SK.same (by kernel_rfl), ?_⟩
        refine ⟨SK.same (by kernel_rfl), ?_⟩
        refine ⟨SK.same (by kernel_rfl), ?_⟩
        refine ⟨?_, trivial⟩
        refine ev_storeA hp (i := 0) (off := 0) (vs := [(.bool x_by.Num.Neg), v_c3, (.bool x_by.Den.Neg), v_c4]) rfl rfl rfl rfl T31 rfl (Nat.le_of_ble_eq_true rfl) (ones_cons rfl (ones_cons r_c7.one (ones_cons rfl (ones_cons r_c8.one ones_nil)))) ?_
        intro w_cb hp hs
        replace hz := hz.trans hs
        replace r_c9 := r_c9.step hs
        replace r_ca := r_ca.step hs
        replace r_c7 := r_c7.step hs
        replace r_c8 := r_c8.step hs
        replace r_p := r_p.step hs
        replace r_q := r_q.step hs
        refine ⟨SK (Stp I_c2 w_cb I_c2) [(g_r, [(.bool x_j.P.Neg), v_n, (.bool x_j.Q.Neg), v_o], 38)] [[]], ⟨Stp.refl _ _, (kp_cons (fun _ => (hp.own 2 _ _ _ rfl).1) kp_nil)⟩, fun L x h => ⟨hz.held h.1, h.2⟩, ?_⟩
        have hz := Stp.refl I_c2 w_cb
        refine ⟨?_, trivial⟩
        refine ev_storeA hp (i := 1) (off := 0) (vs := [(.bool x_bz.Num.Neg), v_c5, (.bool x_bz.Den.Neg), v_c6]) rfl rfl rfl rfl T31 rfl (Nat.le_of_ble_eq_true rfl) (ones_cons rfl (ones_cons r_c9.one (ones_cons rfl (ones_cons r_ca.one ones_nil)))) ?_
        intro w_cc hp hs
        replace hz := hz.trans hs
        replace r_c7 := r_c7.step hs
        replace r_c8 := r_c8.step hs
        replace r_c9 := r_c9.step hs
        replace r_ca := r_ca.step hs
        replace r_p := r_p.step hs
        replace r_q := r_q.step hs
        refine ⟨SK (Stp I_c2 w_cc I_c2) [(g_r, [(.bool x_j.P.Neg), v_n, (.bool x_j.Q.Neg), v_o], 38)] [[]], ⟨Stp.refl _ _, (kp_cons (fun _ => (hp.own 2 _ _ _ rfl).1) kp_nil)⟩, fun L x h => ⟨hz.held h.1, h.2⟩, ?_⟩
        have hz := Stp.refl I_c2 w_cc
        obtain rfl := Option.some.inj q_v
        have hp := hp.perm [3, 2, 0, 1] (by decide)
        exact ⟨(x_by.Num.Neg, x_by.Num.Mag, x_by.Den.Neg, x_by.Den.Mag, x_bz.Num.Neg, x_bz.Num.Mag, x_bz.Den.Neg, x_bz.Den.Mag, g_bw, v_c3, v_c4, g_ax, v_c5, v_c6, I_c2), (.c rfl (.c rfl (.c rfl (.c rfl .n)))), rfl, hp, r_p, r_q, r_c7, r_c8, r_c9, r_ca⟩
      refine ⟨?_, trivial⟩
      refine ev_alloc hp rfl T31 ?_
      intro g_cd w_ce hp hs
      replace hz := hz.trans hs
      replace r_p := r_p.step hs
      replace r_q := r_q.step hs
      replace r_a := r_a.step hs
      replace r_c := r_c.step hs
      replace r_b5 := r_b5.step hs
      replace r_b6 := r_b6.step hs
      refine ⟨SK (Stp I_b2 w_ce I_b2) [(g_r, [(.bool x_j.P.Neg), v_n, (.bool x_j.Q.Neg), v_o], 38)] [[]], ⟨Stp.refl _ _, (kp_cons (fun _ => (hp.own 2 _ _ _ rfl).1) kp_nil)⟩, fun L x h => ⟨hz.held h.1, h.2⟩, ?_⟩
      have hz := Stp.refl I_b2 w_ce
      refine ⟨?_, trivial⟩
      obtain ⟨x_cf, q_cg, q_v⟩ := bind_some q_v
      refine ev_call rfl rfl C41 (((rational_Neg_ok n) _ _  (Rational.mk (Int_2.mk x_0.Y.Num.Neg x_0.Y.Num.Mag) (Int_2.mk x_0.Y.Den.Neg x_0.Y.Den.Mag)) v_9 r_a v_b r_c hp.imm _ q_cg).mono ?_)
      rintro _ w_ch ⟨I_ci, v_cj, v_ck, hv, hq, r_cl, r_cm⟩
      replace hv := hv.symm
      subst hv
      have hs := hq.st
      have hp := hp.join0 hq
      replace hz := hz.trans hs
      replace r_p := r_p.step hs
      replace r_q := r_q.step hs
      replace r_b5 := r_b5.step hs
      replace r_b6 := r_b6.step hs
      refine ⟨SK (Stp I_ci w_ch I_ci) [(g_r, [(.bool x_j.P.Neg), v_n, (.bool x_j.Q.Neg), v_o], 38)] [[]], ⟨Stp.refl _ _, (kp_cons (fun _ => (hp.own 2 _ _ _ rfl).1) kp_nil)⟩, fun L x h => ⟨hz.held h.1, h.2⟩, ?_⟩
      have hz := Stp.refl I_ci w_ch
      refine ⟨?_, trivial⟩
      obtain ⟨⟨x_cn, x_co⟩, q_cp, q_v⟩ := bind_some q_v
      refine ev_call rfl rfl C12 (((rotation_Turn_ok n) _ _  (Rot.mk (Int_2.mk x_j.P.Neg x_j.P.Mag) (Int_2.mk x_j.Q.Neg x_j.Q.Mag)) v_n r_p v_o r_q x_az v_b3 r_b5 v_b4 r_b6 x_cf v_cj r_cl v_ck r_cm hp.imm _ q_cp).mono ?_)
      rintro _ w_cq ⟨I_cr, v_cs, v_ct, v_cu, v_cv, hv, hq, r_cw, r_cx, r_cy, r_cz⟩
      replace hv := hv.symm
      subst hv
      have hs := hq.st
      have hp := hp.join0 hq
      replace hz := hz.trans hs
      replace r_p := r_p.step hs
      replace r_q := r_q.step hs
      refine ⟨SK (Stp I_cr w_cq I_cr) [(g_r, [(.bool x_j.P.Neg), v_n, (.bool x_j.Q.Neg), v_o], 38)] [[]], ⟨Stp.refl _ _, (kp_cons (fun _ => (hp.own 2 _ _ _ rfl).1) kp_nil)⟩, fun L x h => ⟨hz.held h.1, h.2⟩, ?_⟩
      have hz := Stp.refl I_cr w_cq
      refine ⟨SK.same (by kernel_rfl), ?_⟩
      refine ⟨SK.same (by kernel_rfl), ?_⟩
      refine ⟨SK.same (by kernel_rfl), ?_⟩
      refine ⟨?_, trivial⟩
      refine ev_storeA hp (i := 0) (off := 0) (vs := [(.bool x_cn.Num.Neg), v_cs, (.bool x_cn.Den.Neg), v_ct]) rfl rfl rfl rfl T31 rfl (Nat.le_of_ble_eq_true rfl) (ones_cons rfl (ones_cons r_cw.one (ones_cons rfl (ones_cons r_cx.one ones_nil)))) ?_
      intro w_d0 hp hs
      replace hz := hz.trans hs
      replace r_cy := r_cy.step hs
      replace r_cz := r_cz.step hs
      replace r_cw := r_cw.step hs
      replace r_cx := r_cx.step hs
      replace r_p := r_p.step hs
      replace r_q := r_q.step hs
      refine ⟨SK (Stp I_cr w_d0 I_cr) [(g_r, [(.bool x_j.P.Neg), v_n, (.bool x_j.Q.Neg), v_o], 38)] [[]], ⟨Stp.refl _ _, (kp_cons (fun _ => (hp.own 2 _ _ _ rfl).1) kp_nil)⟩, fun L x h => ⟨hz.held h.1, h.2⟩, ?_⟩
      have hz := Stp.refl I_cr w_d0
      refine ⟨?_, trivial⟩
      refine ev_storeA hp (i := 1) (off := 0) (vs := [(.bool x_co.Num.Neg), v_cu, (.bool x_co.Den.Neg), v_cv]) rfl rfl rfl rfl T31 rfl (Nat.le_of_ble_eq_true rfl) (ones_cons rfl (ones_cons r_cy.one (ones_cons rfl (ones_cons r_cz.one ones_nil)))) ?_
      intro w_d1 hp hs
      replace hz := hz.trans hs
      replace r_cw := r_cw.step hs
      replace r_cx := r_cx.step hs
      replace r_cy := r_cy.step hs
      replace r_cz := r_cz.step hs
      replace r_p := r_p.step hs
      replace r_q := r_q.step hs
      refine ⟨SK (Stp I_cr w_d1 I_cr) [(g_r, [(.bool x_j.P.Neg), v_n, (.bool x_j.Q.Neg), v_o], 38)] [[]], ⟨Stp.refl _ _, (kp_cons (fun _ => (hp.own 2 _ _ _ rfl).1) kp_nil)⟩, fun L x h => ⟨hz.held h.1, h.2⟩, ?_⟩
      have hz := Stp.refl I_cr w_d1
      obtain rfl := Option.some.inj q_v
      have hp := hp.perm [3, 2, 0, 1] (by decide)
      exact ⟨(x_cn.Num.Neg, x_cn.Num.Mag, x_cn.Den.Neg, x_cn.Den.Mag, x_co.Num.Neg, x_co.Num.Mag, x_co.Den.Neg, x_co.Den.Mag, g_cd, v_cs, v_ct, g_ax, v_cu, v_cv, I_cr), (.c rfl (.c rfl (.c rfl (.c rfl .n)))), rfl, hp, r_p, r_q, r_cw, r_cx, r_cy, r_cz⟩
    refine ⟨?_, trivial⟩
    refine ev_alloc hp rfl T31 ?_
    intro g_d2 w_d3 hp hs
    replace hz := hz.trans hs
    replace r_p := r_p.step hs
    replace r_q := r_q.step hs
    replace r_6 := r_6.step hs
    replace r_8 := r_8.step hs
    replace r_a := r_a.step hs
    replace r_c := r_c.step hs
    refine ⟨SK (Stp I_m w_d3 I_m) [(g_r, [(.bool x_j.P.Neg), v_n, (.bool x_j.Q.Neg), v_o], 38)] [[]], ⟨Stp.refl _ _, (kp_cons (fun _ => (hp.own 2 _ _ _ rfl).1) kp_nil)⟩, fun L x h => ⟨hz.held h.1, h.2⟩, ?_⟩
    have hz := Stp.refl I_m w_d3
    refine ⟨?_, trivial⟩
    obtain ⟨x_d4, q_d5, q_v⟩ := bind_some q_v
    refine ev_call rfl rfl C41 (((rational_Neg_ok n) _ _  (Rational.mk (Int_2.mk x_0.X.Num.Neg x_0.X.Num.Mag) (Int_2.mk x_0.X.Den.Neg x_0.X.Den.Mag)) v_5 r_6 v_7 r_8 hp.imm _ q_d5).mono ?_)
    rintro _ w_d6 ⟨I_d7, v_d8, v_d9, hv, hq, r_da, r_db⟩
    replace hv := hv.symm
    subst hv
    have hs := hq.st
    have hp := hp.join0 hq
    replace hz := hz.trans hs
    replace r_p := r_p.step hs
    replace r_q := r_q.step hs
    replace r_a := r_a.step hs
    replace r_c := r_c.step hs
    refine ⟨SK (Stp I_d7 w_d6 I_d7) [(g_r, [(.bool x_j.P.Neg), v_n, (.bool x_j.Q.Neg), v_o], 38)] [[]], ⟨Stp.refl _ _, (kp_cons (fun _ => (hp.own 2 _ _ _ rfl).1) kp_nil)⟩, fun L x h => ⟨hz.held h.1, h.2⟩, ?_⟩
    have hz := Stp.refl I_d7 w_d6
    refine ⟨?_, trivial⟩
    obtain ⟨x_dc, q_dd, q_v⟩ := bind_some q_v
    refine ev_call rfl rfl C41 (((rational_Neg_ok n) _ _  (Rational.mk (Int_2.mk x_0.Y.Num.Neg x_0.Y.Num.Mag) (Int_2.mk x_0.Y.Den.Neg x_0.Y.Den.Mag)) v_9 r_a v_b r_c hp.imm _ q_dd).mono ?_)
    rintro _ w_de ⟨I_df, v_dg, v_dh, hv, hq, r_di, r_dj⟩
    replace hv := hv.symm
    subst hv
    have hs := hq.st
    have hp := hp.join0 hq
    replace hz := hz.trans hs
    replace r_p := r_p.step hs
    replace r_q := r_q.step hs
    replace r_da := r_da.step hs
    replace r_db := r_db.step hs
    refine ⟨SK (Stp I_df w_de I_df) [(g_r, [(.bool x_j.P.Neg), v_n, (.bool x_j.Q.Neg), v_o], 38)] [[]], ⟨Stp.refl _ _, (kp_cons (fun _ => (hp.own 2 _ _ _ rfl).1) kp_nil)⟩, fun L x h => ⟨hz.held h.1, h.2⟩, ?_⟩
    have hz := Stp.refl I_df w_de
    refine ⟨?_, trivial⟩
    obtain ⟨⟨x_dk, x_dl⟩, q_dm, q_v⟩ := bind_some q_v
    refine ev_call rfl rfl C12 (((rotation_Turn_ok n) _ _  (Rot.mk (Int_2.mk x_j.P.Neg x_j.P.Mag) (Int_2.mk x_j.Q.Neg x_j.Q.Mag)) v_n r_p v_o r_q x_d4 v_d8 r_da v_d9 r_db x_dc v_dg r_di v_dh r_dj hp.imm _ q_dm).mono ?_)
    rintro _ w_dn ⟨I_do, v_dp, v_dq, v_dr, v_ds, hv, hq, r_dt, r_du, r_dv, r_dw⟩
    replace hv := hv.symm
    subst hv
    have hs := hq.st
    have hp := hp.join0 hq
    replace hz := hz.trans hs
    replace r_p := r_p.step hs
    replace r_q := r_q.step hs
    refine ⟨SK (Stp I_do w_dn I_do) [(g_r, [(.bool x_j.P.Neg), v_n, (.bool x_j.Q.Neg), v_o], 38)] [[]], ⟨Stp.refl _ _, (kp_cons (fun _ => (hp.own 2 _ _ _ rfl).1) kp_nil)⟩, fun L x h => ⟨hz.held h.1, h.2⟩, ?_⟩
    have hz := Stp.refl I_do w_dn
    refine ⟨SK.same (by kernel_rfl), ?_⟩
    refine ⟨SK.same (by kernel_rfl), ?_⟩
    refine ⟨SK.same (by kernel_rfl), ?_⟩
    refine ⟨?_, trivial⟩
    refine ev_storeA hp (i := 0) (off := 0) (vs := [(.bool x_dk.Num.Neg), v_dp, (.bool x_dk.Den.Neg), v_dq]) rfl rfl rfl rfl T31 rfl (Nat.le_of_ble_eq_true rfl) (ones_cons rfl (ones_cons r_dt.one (ones_cons rfl (ones_cons r_du.one ones_nil)))) ?_
    intro w_dx hp hs
    replace hz := hz.trans hs
    replace r_dv := r_dv.step hs
    replace r_dw := r_dw.step hs
    replace r_dt := r_dt.step hs
    replace r_du := r_du.step hs
    replace r_p := r_p.step hs
    replace r_q := r_q.step hs
    refine ⟨SK (Stp I_do w_dx I_do) [(g_r, [(.bool x_j.P.Neg), v_n, (.bool x_j.Q.Neg), v_o], 38)] [[]], ⟨Stp.refl _ _, (kp_cons (fun _ => (hp.own 2 _ _ _ rfl).1) kp_nil)⟩, fun L x h => ⟨hz.held h.1, h.2⟩, ?_⟩
    have hz := Stp.refl I_do w_dx
    refine ⟨?_, trivial⟩
    refine ev_storeA hp (i := 1) (off := 0) (vs := [(.bool x_dl.Num.Neg), v_dr, (.bool x_dl.Den.Neg), v_ds]) rfl rfl rfl rfl T31 rfl (Nat.le_of_ble_eq_true rfl) (ones_cons rfl (ones_cons r_dv.one (ones_cons rfl (ones_cons r_dw.one ones_nil)))) ?_
    intro w_dy hp hs
    replace hz := hz.trans hs
    replace r_dt := r_dt.step hs
    replace r_du := r_du.step hs
    replace r_dv := r_dv.step hs
    replace r_dw := r_dw.step hs
    replace r_p := r_p.step hs
    replace r_q := r_q.step hs
    refine ⟨SK (Stp I_do w_dy I_do) [(g_r, [(.bool x_j.P.Neg), v_n, (.bool x_j.Q.Neg), v_o], 38)] [[]], ⟨Stp.refl _ _, (kp_cons (fun _ => (hp.own 2 _ _ _ rfl).1) kp_nil)⟩, fun L x h => ⟨hz.held h.1, h.2⟩, ?_⟩
    have hz := Stp.refl I_do w_dy
    obtain rfl := Option.some.inj q_v
    have hp := hp.perm [3, 2, 0, 1] (by decide)
    exact ⟨(x_dk.Num.Neg, x_dk.Num.Mag, x_dk.Den.Neg, x_dk.Den.Mag, x_dl.Num.Neg, x_dl.Num.Mag, x_dl.Den.Neg, x_dl.Den.Mag, g_d2, v_dp, v_dq, g_ax, v_dr, v_ds, I_do), (.c rfl (.c rfl (.c rfl (.c rfl .n)))), rfl, hp, r_p, r_q, r_dt, r_du, r_dv, r_dw⟩
  ·
    rintro ⟨x_dz, x_e0, x_e1, x_e2, x_e3, x_e4, x_e5, x_e6, g_e7, v_e8, v_e9, g_ea, v_eb, v_ec, I_ed⟩ w_ee ⟨hy, hp, r_p, r_q, r_ef, r_eg, r_eh, r_ei⟩
    replace hy := hy.symm
    subst hy
    apply go
    apply go
    refine ev (rn_load rfl rfl (run_loadVarA T38 rfl (hp.at_ (i := 1) rfl))) ?_
    refine ev (rn_load rfl rfl (run_loadVarA T31 rfl (hp.at_ (i := 2) rfl))) ?_
    refine ev (rn_load rfl rfl (run_loadVarA T31 rfl (hp.at_ (i := 3) rfl))) ?_
    obtain ⟨A_ej, m_ek, m_el, rfl⟩ := r_p.isSl
    obtain ⟨A_em, m_en, m_eo, rfl⟩ := r_q.isSl
    obtain ⟨A_ep, m_eq, m_er, rfl⟩ := r_ef.isSl
    obtain ⟨A_es, m_et, m_eu, rfl⟩ := r_eg.isSl
    obtain ⟨A_ev, m_ew, m_ex, rfl⟩ := r_eh.isSl
    obtain ⟨A_ey, m_ez, m_f0, rfl⟩ := r_ei.isSl
    refine ev0 (fun w => rn_build (cs := [(.bool x_j.P.Neg), (.slice A_ej m_ek m_el), (.bool x_j.Q.Neg), (.slice A_em m_en m_eo), (.bool x_dz), (.slice A_ep m_eq m_er), (.bool x_e1), (.slice A_es m_et m_eu), (.bool x_e3), (.slice A_ev m_ew m_ex), (.bool x_e5), (.slice A_ey m_ez m_f0)]) rfl rfl T41 PL41 (by kernel_rfl)) ?_
    refine ev_storeA hp (i := 0) (off := 0) (vs := [(.bool x_j.P.Neg), (.slice A_ej m_ek m_el), (.bool x_j.Q.Neg), (.slice A_em m_en m_eo), (.bool x_dz), (.slice A_ep m_eq m_er), (.bool x_e1), (.slice A_es m_et m_eu), (.bool x_e3), (.slice A_ev m_ew m_ex), (.bool x_e5), (.slice A_ey m_ez m_f0)]) rfl rfl rfl rfl T41 rfl (Nat.le_of_ble_eq_true rfl) (ones_cons rfl (ones_cons r_p.one (ones_cons rfl (ones_cons r_q.one (ones_cons rfl (ones_cons r_ef.one (ones_cons rfl (ones_cons r_eg.one (ones_cons rfl (ones_cons r_eh.one (ones_cons rfl (ones_cons r_ei.one ones_nil)))))))))))) ?_
    intro w_f1 hp hs
    replace r_p := r_p.step hs
    replace r_q := r_q.step hs
    replace r_ef := r_ef.step hs
    replace r_eg := r_eg.step hs
    replace r_eh := r_eh.step hs
    replace r_ei := r_ei.step hs
    apply go
    obtain rfl := Option.some.inj h
    refine ⟨_, run_loadVarA T41 rfl (hp.at_ (i := 0) rfl), ?_⟩
    have hp := hp.sel [] (by decide)
    exact ⟨I_ed, (.slice A_ej m_ek m_el), (.slice A_em m_en m_eo), (.slice A_ep m_eq m_er), (.slice A_es m_et m_eu), (.slice A_ev m_ew m_ex), (.slice A_ey m_ez m_f0), rfl, hp, r_p, r_q, r_ef, r_eg, r_eh, r_ei⟩

end Go.Proofs.YtcdboppghnchpaaDoor

namespace Go.Proofs.YtcdboppghnchpaaDoor
open Go Go.Proofs.YtcdboppghnchpaaDoor.Gw Go.RowKit
set_option linter.unusedVariables false
attribute [local irreducible] Ev EvQ EvS EvH
def base_Int_S (f : Int_2 → Int_2 → Option Bool) : Prop := ∀ (w0 : World) (I0 : Nat → Prop) (x_0 : Int_2) (v_1 : Value) (r_2 : RepS (dI .u32) w0 I0 v_1 x_0.Mag) (x_3 : Int_2) (v_4 : Value) (r_5 : RepS (dI .u32) w0 I0 v_4 x_3.Mag) (hI : ∀ g, I0 g → g < w0.heap.size) (r : Bool), f x_0 x_3 = some r →
    Ret Tryd.prog 42 #[(.agg #[(.bool x_0.Neg), v_1]), (.agg #[(.bool x_3.Neg), v_4])] w0 fun v w1 => v = (.bool r) ∧ Ch [] w0 w1
theorem base_Int_ok (n : Nat) : base_Int_S (base_Int n) := by
  intro w0 I0 x_0 v_1 r_2 x_3 v_4 r_5 hI r h
  unfold base_Int at h
  refine enter Tryd.func42 rfl (Nat.le_of_ble_eq_true rfl) ?_
  have hp : Hp ⟨w0, I0, []⟩ I0 [] w0 := Hp.start hI
  apply go
  apply go
  refine ev_boxI hp rfl rfl ?_
  intro p_6 I_7 w_8 hp hs a_9
  replace r_5 := r_5.step hs
  replace r_2 := r_2.step hs
  refine ev_boxI hp rfl rfl ?_
  intro p_a I_b w_c hp hs a_d
  replace a_9 := a_9.step hs
  replace r_2 := r_2.step hs
  replace r_5 := r_5.step hs
  apply go
  obtain ⟨y_e, q_f, h⟩ := bind_some h
  refine W.cut (γ := Bool) (fun g => [(2, (.pointer (some (p_6)))), (3, (.pointer (some (p_a)))), (19, (.bool (g)))]) (fun g w' => y_e = (g) ∧ w_c = w') ?_ ?_
  ·
    apply go
    refine ev0 (rn_field rfl rfl FO29_0) ?_
    refine ev (rn_load rfl rfl (run_loadVar1 T4 (a_9.2 0 _ rfl))) ?_
    refine ev0 (rn_field rfl rfl FO29_0) ?_
    refine ev (rn_load rfl rfl (run_loadVar1 T4 (a_d.2 0 _ rfl))) ?_
    refine ev0 (rn_neB rfl rfl rfl Tryd.underlying4) ?_
    refine sel_of (fun hc => ?_) (fun hc => ?_)
    ·
      have q_f := cond_t q_f hc
      obtain rfl := Option.some.inj q_f
      exact ⟨true, (.c rfl (.c rfl (.c rfl .n))), rfl, rfl⟩
    ·
      have q_f := cond_f q_f hc
      refine ev0 (rn_field rfl rfl FO29_1) ?_
      refine ev (rn_load rfl rfl (run_loadVar1 T27 (a_9.2 1 _ rfl))) ?_
      refine ev0 (rn_len rfl rfl Tryd.underlying27 r_2) ?_
      refine ev0 (rn_field rfl rfl FO29_1) ?_
      refine ev (rn_load rfl rfl (run_loadVar1 T27 (a_d.2 1 _ rfl))) ?_
      refine ev0 (rn_len rfl rfl Tryd.underlying27 r_5) ?_
      obtain rfl := Option.some.inj q_f
      exact ⟨((x_0.Mag.length : Int) != (x_3.Mag.length : Int)), (.c rfl (.c rfl (.c rfl .n))), rfl, rfl⟩
  ·
    rintro x_g _ ⟨hy, rfl⟩
    replace hy := hy.symm
    subst hy
    apply go
    refine sel_of (fun hc => ?_) (fun hc => ?_)
    ·
      have h := cond_t h hc
      apply go
      apply go
      apply go
      obtain rfl := Option.some.inj h
      exact ⟨rfl, hp.ch⟩
    ·
      have h := cond_f h hc
      apply go
      obtain ⟨y_h, q_i, h⟩ := bind_some h
      refine W.cut (γ := Unit) (fun _ => []) (fun _ w' => y_h = .go () ∧ Hp ⟨w0, I0, []⟩ I_b [] w') ?_ ?_
      ·
        apply go
        apply go
        apply go
        refine W.loop q_i (γ := Unit) (fun s _ => [(2, (.pointer (some (p_6)))), (3, (.pointer (some (p_a)))), (5, (.int .i64 (s)))]) (fun s _ w' => Hp ⟨w0, I0, []⟩ I_b [] w' ∧ RepS (dI .u32) w' I_b v_1 x_0.Mag ∧ At w' I_b p_6 [(.bool x_0.Neg), v_1] ∧ RepS (dI .u32) w' I_b v_4 x_3.Mag ∧ At w' I_b p_a [(.bool x_3.Neg), v_4]) () (.c rfl (.c rfl (.c rfl .n))) ⟨hp, r_2, a_9, r_5, a_d⟩ ?_
        rintro x_j ⟨⟩ w_k y_l ⟨hp, r_2, a_9, r_5, a_d⟩ q_m q_n
        unfold base_Int_L1 at q_m
        apply go
        apply go
        apply go
        refine ev0 (rn_field rfl rfl FO29_1) ?_
        refine ev (rn_load rfl rfl (run_loadVar1 T27 (a_9.2 1 _ rfl))) ?_
        refine ev0 (rn_len rfl rfl Tryd.underlying27 r_2) ?_
        apply go
        refine sel_of (fun hc => ?_) (fun hc => ?_)
        ·
          have q_m := cond_t q_m hc
          apply go
          apply go
          apply go
          apply go
          refine W.quiet (fun w' => Ch [] w_k w') MX (by kernel_rfl) (Ch.drew [] w_k) ?_
          refine evq0 (rn_field rfl rfl FO29_1) ?_
          refine evq (fun w' hw => rn_load rfl rfl (run_loadVar1 T27 ((a_9.step (hp.stp hw)).2 1 _ rfl))) ?_
          obtain ⟨x_o, q_p, q_m⟩ := bind_some q_m
          refine evq_index rfl rfl rfl Tryd.underlying27 T131 r_2 q_p ?_
          intro p_q c_r d_s a_t
          obtain rfl : c_r = [(.int .u32 x_o)] := d_s
          refine evq (fun w' hw => rn_load rfl rfl (run_loadVar1 T131 ((a_t.step (hp.stp hw)).2 0 _ rfl))) ?_
          refine evq0 (rn_field rfl rfl FO29_1) ?_
          refine evq (fun w' hw => rn_load rfl rfl (run_loadVar1 T27 ((a_d.step (hp.stp hw)).2 1 _ rfl))) ?_
          obtain ⟨x_u, q_v, q_m⟩ := bind_some q_m
          refine evq_index rfl rfl rfl Tryd.underlying27 T131 r_5 q_v ?_
          intro p_w c_x d_y a_z
          obtain rfl : c_x = [(.int .u32 x_u)] := d_y
          refine evq (fun w' hw => rn_load rfl rfl (run_loadVar1 T131 ((a_z.step (hp.stp hw)).2 0 _ rfl))) ?_
          intro w_10 hc
          have hs := hp.stp hc
          replace hp := hp.ext hc
          replace a_9 := a_9.step hs
          replace r_2 := r_2.step hs
          replace a_d := a_d.step hs
          replace r_5 := r_5.step hs
          apply go
          refine sel_of (fun hc => ?_) (fun hc => ?_)
          ·
            have q_m := cond_t q_m hc
            apply go
            apply go
            apply go
            have q_11 := congrArg some (q_n _ (Option.some.inj q_m).symm)
            obtain rfl := Option.some.inj q_11
            obtain rfl := Option.some.inj h
            exact ⟨rfl, hp.ch⟩
          ·
            have q_m := cond_f q_m hc
            apply go
            apply go
            exact ⟨_, (Option.some.inj q_m).symm, (), (.c rfl (.c rfl (.c rfl .n))), ⟨hp, r_2, a_9, r_5, a_d⟩⟩
        ·
          have q_m := cond_f q_m hc
          apply go
          have q_12 := congrArg some (q_n _ (Option.some.inj q_m).symm)
          obtain rfl := Option.some.inj q_12
          exact ⟨(), .n, rfl, hp⟩
      ·
        rintro ⟨⟩ w_13 ⟨hy, hp⟩
        replace hy := hy.symm
        subst hy
        apply go
        apply go
        apply go
        obtain rfl := Option.some.inj h
        exact ⟨rfl, hp.ch⟩

end Go.Proofs.YtcdboppghnchpaaDoor

namespace Go.Proofs.YtcdboppghnchpaaDoor
open Go Go.Proofs.YtcdboppghnchpaaDoor.Gw Go.RowKit
set_option linter.unusedVariables false
attribute [local irreducible] Ev EvQ EvS EvH
def base_Rational_S (f : Rational → Rational → Option Bool) : Prop := ∀ (w0 : World) (I0 : Nat → Prop) (x_0 : Rational) (v_1 : Value) (r_2 : RepS (dI .u32) w0 I0 v_1 x_0.Num.Mag) (v_3 : Value) (r_4 : RepS (dI .u32) w0 I0 v_3 x_0.Den.Mag) (x_5 : Rational) (v_6 : Value) (r_7 : RepS (dI .u32) w0 I0 v_6 x_5.Num.Mag) (v_8 : Value) (r_9 : RepS (dI .u32) w0 I0 v_8 x_5.Den.Mag) (hI : ∀ g, I0 g → g < w0.heap.size) (r : Bool), f x_0 x_5 = some r →
    Ret Tryd.prog 16 #[(.agg #[(.bool x_0.Num.Neg), v_1, (.bool x_0.Den.Neg), v_3]), (.agg #[(.bool x_5.Num.Neg), v_6, (.bool x_5.Den.Neg), v_8])] w0 fun v w1 => v = (.bool r) ∧ Ch [] w0 w1
theorem base_Rational_ok (n : Nat) : base_Rational_S (base_Rational n) := by
  intro w0 I0 x_0 v_1 r_2 v_3 r_4 x_5 v_6 r_7 v_8 r_9 hI r h
  unfold base_Rational at h
  refine enter Tryd.func16 rfl (Nat.le_of_ble_eq_true rfl) ?_
  have hp : Hp ⟨w0, I0, []⟩ I0 [] w0 := Hp.start hI
  apply go
  apply go
  refine ev_boxI hp rfl rfl ?_
  intro p_a I_b w_c hp hs a_d
  replace r_7 := r_7.step hs
  replace r_9 := r_9.step hs
  replace r_2 := r_2.step hs
  replace r_4 := r_4.step hs
  refine ev_boxI hp rfl rfl ?_
  intro p_e I_f w_g hp hs a_h
  replace a_d := a_d.step hs
  replace r_2 := r_2.step hs
  replace r_4 := r_4.step hs
  replace r_7 := r_7.step hs
  replace r_9 := r_9.step hs
  obtain ⟨y_i, q_j, h⟩ := bind_some h
  refine W.cut (γ := Bool) (fun g => [(4, (.bool (g)))]) (fun g w' => y_i = (g) ∧ Hp ⟨w0, I0, []⟩ I_f [] w') ?_ ?_
  ·
    apply go
    refine ev0 (rn_field rfl rfl FO31_0) ?_
    refine ev (rn_load rfl rfl (run_loadVarA T29 rfl ((a_d.drop 0).take 2))) ?_
    refine ev0 (rn_field rfl rfl FO31_0) ?_
    refine ev (rn_load rfl rfl (run_loadVarA T29 rfl ((a_h.drop 0).take 2))) ?_
    obtain ⟨x_k, q_l, q_j⟩ := bind_some q_j
    refine ev_call rfl rfl C42 (((base_Int_ok n) _ _  (Int_2.mk x_0.Num.Neg x_0.Num.Mag) v_1 r_2 (Int_2.mk x_5.Num.Neg x_5.Num.Mag) v_6 r_7 hp.imm _ q_l).mono ?_)
    rintro _ w_m ⟨rfl, hc⟩
    have hs := hp.stp hc
    replace hp := hp.ext hc
    replace a_d := a_d.step hs
    replace r_2 := r_2.step hs
    replace r_4 := r_4.step hs
    replace a_h := a_h.step hs
    replace r_7 := r_7.step hs
    replace r_9 := r_9.step hs
    refine sel_of (fun hc => ?_) (fun hc => ?_)
    ·
      have q_j := cond_t q_j hc
      refine ev0 (rn_field rfl rfl FO31_1) ?_
      refine ev (rn_load rfl rfl (run_loadVarA T29 rfl ((a_d.drop 2).take 2))) ?_
      refine ev0 (rn_field rfl rfl FO31_1) ?_
      refine ev (rn_load rfl rfl (run_loadVarA T29 rfl ((a_h.drop 2).take 2))) ?_
      obtain ⟨x_n, q_o, q_j⟩ := bind_some q_j
      refine ev_call rfl rfl C42 (((base_Int_ok n) _ _  (Int_2.mk x_0.Den.Neg x_0.Den.Mag) v_3 r_4 (Int_2.mk x_5.Den.Neg x_5.Den.Mag) v_8 r_9 hp.imm _ q_o).mono ?_)
      rintro _ w_p ⟨rfl, hc⟩
      have hs := hp.stp hc
      replace hp := hp.ext hc
      obtain rfl := Option.some.inj q_j
      exact ⟨x_n, (.c rfl .n), rfl, hp⟩
    ·
      have q_j := cond_f q_j hc
      obtain rfl := Option.some.inj q_j
      exact ⟨false, (.c rfl .n), rfl, hp⟩
  ·
    rintro x_q w_r ⟨hy, hp⟩
    replace hy := hy.symm
    subst hy
    apply go
    obtain rfl := Option.some.inj h
    exact ⟨rfl, hp.ch⟩

end Go.Proofs.YtcdboppghnchpaaDoor
