/-
  Each function of the program computes the plain function of its name.
-/
import Derived.Test.YtepadjfmcbjkmaaGreatDoorFactsA
import Derived.Test.YtepadjfmcbjkmaaGreatDoorWalkB
import Derived.Test.YtepadjfmcbjkmaaGreatDoorCoreA
namespace Go.Proofs.YtepadjfmcbjkmaaGreatDoor
open Go Go.Proofs.YtepadjfmcbjkmaaGreatDoor.Gw Go.RowKit
set_option linter.unusedVariables false
attribute [local irreducible] Ev EvQ EvS EvH
def ref01_DivMod_S (f : Int_2 → Int_2 → Option (Int_2 × Int_2 × Int)) : Prop := ∀ (w0 : World) (I0 : Nat → Prop) (x_0 : Int_2) (v_1 : Value) (r_2 : RepS (dI .u32) w0 I0 v_1 x_0.Mag) (x_3 : Int_2) (v_4 : Value) (r_5 : RepS (dI .u32) w0 I0 v_4 x_3.Mag) (hI : ∀ g, I0 g → g < w0.heap.size) (r : (Int_2 × Int_2 × Int)), f x_0 x_3 = some r →
    Ret Tryz.prog 83 #[(.agg #[(.bool x_0.Neg), v_1]), (.agg #[(.bool x_3.Neg), v_4])] w0 fun v w1 => ∃ (I1 : Nat → Prop) (u_6 : Value) (u_7 : Value), v = (.tuple #[(.agg #[(.bool r.1.Neg), u_6]), (.agg #[(.bool r.2.1.Neg), u_7]), (.int .i64 r.2.2)]) ∧ Hp ⟨w0, I0, []⟩ I1 [] w1 ∧ RepS (dI .u32) w1 I1 u_6 r.1.Mag ∧ RepS (dI .u32) w1 I1 u_7 r.2.1.Mag
theorem ref01_DivMod_ok (n : Nat) : ref01_DivMod_S (ref01_DivMod n) := by
  intro w0 I0 x_0 v_1 r_2 x_3 v_4 r_5 hI r h
  unfold ref01_DivMod at h
  refine enter Tryz.func83 rfl (Nat.le_of_ble_eq_true rfl) ?_
  have hp : Hp ⟨w0, I0, []⟩ I0 [] w0 := Hp.start hI
  apply go
  apply go
  refine ev_boxI hp rfl rfl ?_
  intro p_6 I_7 w_8 hp hs a_9
  replace r_5 := r_5.step hs
  replace r_2 := r_2.step hs
  refine ev_boxI hp rfl rfl ?_
  intro p_a I_b w_c hp hs a_d
  replace a_9 := a_9.step hs
  replace r_2 := r_2.step hs
  replace r_5 := r_5.step hs
  refine ev_alloc hp rfl T24 ?_
  intro g_e w_f hp hs
  replace a_9 := a_9.step hs
  replace r_2 := r_2.step hs
  replace a_d := a_d.step hs
  replace r_5 := r_5.step hs
  refine ev_alloc hp rfl T24 ?_
  intro g_g w_h hp hs
  replace a_9 := a_9.step hs
  replace r_2 := r_2.step hs
  replace a_d := a_d.step hs
  replace r_5 := r_5.step hs
  apply go
  apply go
  apply go
  refine ev (rn_load rfl rfl (run_loadVarA T24 rfl a_d)) ?_
  obtain ⟨x_i, q_j, h⟩ := bind_some h
  refine ev_call rfl rfl C73 (((ref01_Sign_ok n) _ _  (Int_2.mk x_3.Neg x_3.Mag) v_4 r_5 hp.imm _ q_j).mono ?_)
  rintro _ w_k ⟨rfl, hc⟩
  have hs := hp.stp hc
  replace hp := hp.ext hc
  replace a_9 := a_9.step hs
  replace r_2 := r_2.step hs
  replace a_d := a_d.step hs
  replace r_5 := r_5.step hs
  apply go
  refine sel_of (fun hc => ?_) (fun hc => ?_)
  ·
    have h := cond_t h hc
    apply go
    apply go
    refine ev0 (fun w => rn_build (cs := [(.bool false), (.slice none 0 0)]) rfl rfl T24 PL24 rfl) ?_
    refine ev0 (fun w => rn_build (cs := [(.bool false), (.slice none 0 0)]) rfl rfl T24 PL24 rfl) ?_
    refine ev_storeA hp (i := 1) (off := 0) (vs := [(.bool false), (.slice none 0 0)]) rfl rfl rfl rfl T24 rfl (Nat.le_of_ble_eq_true rfl) (ones_of rfl) ?_
    intro w_l hp hs
    refine ev_storeA hp (i := 0) (off := 0) (vs := [(.bool false), (.slice none 0 0)]) rfl rfl rfl rfl T24 rfl (Nat.le_of_ble_eq_true rfl) (ones_of rfl) ?_
    intro w_m hp hs
    apply go
    obtain rfl := Option.some.inj h
    refine ⟨_, run_loadVarA T24 rfl (hp.at_ (i := 1) rfl), ?_⟩
    refine ⟨_, run_loadVarA T24 rfl (hp.at_ (i := 0) rfl), ?_⟩
    have hp := hp.sel [] (by decide)
    exact ⟨I_b, .slice none 0 0, .slice none 0 0, rfl, hp, RepS.nil _ _ _, RepS.nil _ _ _⟩
  ·
    have h := cond_f h hc
    apply go
    apply go
    have hs := hp.stp (Ch.drew [] w_k)
    have hp := hp.drew
    replace a_9 := a_9.step hs
    replace r_2 := r_2.step hs
    replace a_d := a_d.step hs
    replace r_5 := r_5.step hs
    refine W.held [(0, true), (1, true), (3, true), (4, true), (2, false), (5, false), (6, false), (7, true), (8, true), (9, true), (10, true), (11, true)] (Stp I_b w_k.drew I_b) MX (by kernel_rfl) (Stp.refl _ _) ?_
    have hz := Stp.refl I_b w_k.drew
    refine evh0 (rn_field rfl rfl FO24_1) ?_
    refine evh (fun w' hw => rn_load rfl rfl (run_loadVar1 T22 ((a_9.step hw).2 1 _ rfl))) ?_
    refine evh0 (rn_field rfl rfl FO24_1) ?_
    refine evh (fun w' hw => rn_load rfl rfl (run_loadVar1 T22 ((a_d.step hw).2 1 _ rfl))) ?_
    obtain ⟨x_n, q_o, h⟩ := bind_some h
    refine ev_call rfl rfl C100 (((ref01_trim_ok n) _ _  x_0.Mag v_1 r_2 hp.imm _ q_o).mono ?_)
    rintro _ w_p ⟨I_q, v_r, e_s, hv, hq, o_t⟩
    replace hv := hv.symm
    subst hv
    have hs := hq.st
    have hp := hp.join0 hq
    replace hz := hz.trans hs
    replace a_9 := a_9.step hs
    replace r_2 := r_2.step hs
    replace a_d := a_d.step hs
    replace r_5 := r_5.step hs
    refine ⟨Stp I_q w_p I_q, Stp.refl _ _, fun x hx => hz.held hx, ?_⟩
    have hz := Stp.refl I_q w_p
    obtain ⟨x_u, q_v, h⟩ := bind_some h
    refine ev_call rfl rfl C100 (((ref01_trim_ok n) _ _  x_3.Mag v_4 r_5 hp.imm _ q_v).mono ?_)
    rintro _ w_w ⟨I_x, v_y, e_z, hv, hq, o_10⟩
    replace hv := hv.symm
    subst hv
    have hs := hq.st
    have hp := hp.join0 hq
    replace hz := hz.trans hs
    replace a_9 := a_9.step hs
    replace r_2 := r_2.step hs
    replace a_d := a_d.step hs
    replace r_5 := r_5.step hs
    replace o_t := o_t.step hs
    refine ⟨Stp I_x w_w I_x, Stp.refl _ _, fun x hx => hz.held hx, ?_⟩
    have hz := Stp.refl I_x w_w
    have r_11 := o_t.frz hp (i := 1) rfl
    obtain ⟨hp, hs⟩ := freeze_hp hp (i := 1) rfl
    replace hz := hz.trans hs
    replace a_9 := a_9.step hs
    replace r_2 := r_2.step hs
    replace a_d := a_d.step hs
    replace r_5 := r_5.step hs
    replace o_10 := o_10.step hs
    have hp := hp.sel [0, 2, 3] (by decide)
    have r_12 := o_10.frz hp (i := 0) rfl
    obtain ⟨hp, hs⟩ := freeze_hp hp (i := 0) rfl
    replace hz := hz.trans hs
    replace a_9 := a_9.step hs
    replace r_2 := r_2.step hs
    replace a_d := a_d.step hs
    replace r_5 := r_5.step hs
    replace r_11 := r_11.step hs
    have hp := hp.sel [1, 2] (by decide)
    obtain ⟨⟨x_13, x_14⟩, q_15, h⟩ := bind_some h
    refine ev_call rfl rfl C110 (((ref01_divide_ok n) _ _  x_n v_r r_11 x_u v_y r_12 hp.imm _ q_15).mono ?_)
    rintro _ w_16 ⟨I_17, v_18, v_19, hv, hq, r_1a, r_1b⟩
    replace hv := hv.symm
    subst hv
    have hs := hq.st
    have hp := hp.join0 hq
    replace hz := hz.trans hs
    replace a_9 := a_9.step hs
    replace r_2 := r_2.step hs
    replace a_d := a_d.step hs
    replace r_5 := r_5.step hs
    refine ⟨Stp I_17 w_16 I_17, Stp.refl _ _, fun x hx => hz.held hx, ?_⟩
    have hz := Stp.refl I_17 w_16
    apply go
    apply go
    refine ev0 (rn_field rfl rfl FO24_0) ?_
    refine ev (rn_load rfl rfl (run_loadVar1 T4 (a_9.2 0 _ rfl))) ?_
    refine ev0 (rn_field rfl rfl FO24_0) ?_
    refine ev (rn_load rfl rfl (run_loadVar1 T4 (a_d.2 0 _ rfl))) ?_
    refine ev0 (rn_neB rfl rfl rfl Tryz.underlying4) ?_
    obtain ⟨A_1c, m_1d, m_1e, rfl⟩ := r_1a.isSl
    refine ev0 (fun w => rn_build (cs := [(.bool (!(x_0.Neg == x_3.Neg))), (.slice A_1c m_1d m_1e)]) rfl rfl T24 PL24 rfl) ?_
    obtain ⟨x_1f, q_1g, h⟩ := bind_some h
    refine ev_call rfl rfl C77 (((ref01_Norm_ok n) _ _  (Int_2.mk (!(x_0.Neg == x_3.Neg)) x_13) (.slice A_1c m_1d m_1e) r_1a hp.imm _ q_1g).mono ?_)
    rintro _ w_1h ⟨I_1i, v_1j, hv, hq, r_1k⟩
    replace hv := hv.symm
    subst hv
    have hs := hq.st
    have hp := hp.join0 hq
    replace a_9 := a_9.step hs
    replace r_2 := r_2.step hs
    replace a_d := a_d.step hs
    replace r_5 := r_5.step hs
    replace r_1b := r_1b.step hs
    refine ev_alloc hp rfl T24 ?_
    intro g_1l w_1m hp hs
    replace a_9 := a_9.step hs
    replace r_2 := r_2.step hs
    replace a_d := a_d.step hs
    replace r_5 := r_5.step hs
    replace r_1b := r_1b.step hs
    replace r_1k := r_1k.step hs
    refine ev_storeA hp (i := 0) (off := 0) (vs := [(.bool x_1f.Neg), v_1j]) rfl rfl rfl rfl T24 rfl (Nat.le_of_ble_eq_true rfl) (ones_cons rfl (ones_cons r_1k.one ones_nil)) ?_
    intro w_1n hp hs
    replace a_9 := a_9.step hs
    replace r_2 := r_2.step hs
    replace a_d := a_d.step hs
    replace r_5 := r_5.step hs
    replace r_1b := r_1b.step hs
    replace r_1k := r_1k.step hs
    apply go
    apply go
    refine ev0 (rn_field rfl rfl FO24_0) ?_
    refine ev (rn_load rfl rfl (run_loadVar1 T4 (a_9.2 0 _ rfl))) ?_
    obtain ⟨A_1o, m_1p, m_1q, rfl⟩ := r_1b.isSl
    refine ev0 (fun w => rn_build (cs := [(.bool x_0.Neg), (.slice A_1o m_1p m_1q)]) rfl rfl T24 PL24 rfl) ?_
    obtain ⟨x_1r, q_1s, h⟩ := bind_some h
    refine ev_call rfl rfl C77 (((ref01_Norm_ok n) _ _  (Int_2.mk x_0.Neg x_14) (.slice A_1o m_1p m_1q) r_1b hp.imm _ q_1s).mono ?_)
    rintro _ w_1t ⟨I_1u, v_1v, hv, hq, r_1w⟩
    replace hv := hv.symm
    subst hv
    have hs := hq.st
    have hp := hp.join0 hq
    replace a_d := a_d.step hs
    replace r_5 := r_5.step hs
    replace r_1k := r_1k.step hs
    refine ev_alloc hp rfl T24 ?_
    intro g_1x w_1y hp hs
    replace a_d := a_d.step hs
    replace r_5 := r_5.step hs
    replace r_1w := r_1w.step hs
    replace r_1k := r_1k.step hs
    refine ev_storeA hp (i := 0) (off := 0) (vs := [(.bool x_1r.Neg), v_1v]) rfl rfl rfl rfl T24 rfl (Nat.le_of_ble_eq_true rfl) (ones_cons rfl (ones_cons r_1w.one ones_nil)) ?_
    intro w_1z hp hs
    replace a_d := a_d.step hs
    replace r_5 := r_5.step hs
    replace r_1w := r_1w.step hs
    replace r_1k := r_1k.step hs
    obtain ⟨y_20, q_21, h⟩ := bind_some h
    refine W.cut (γ := (Bool × (List Int) × Bool × (List Int) × Value × Value × (Nat → Prop))) (fun g => [(4, (.pointer (some ⟨g_e, 0, none⟩))), (5, (.pointer (some ⟨g_g, 0, none⟩))), (9, (.pointer (some ⟨g_1l, 0, none⟩))), (10, (.pointer (some ⟨g_1x, 0, none⟩)))]) (fun g w' => y_20 = ((g.1), (g.2.1), (g.2.2.1), (g.2.2.2.1)) ∧ Hp ⟨w0, I0, []⟩ (g.2.2.2.2.2.2) [some (g_e, [(.bool false), (.slice none 0 0)], 24), some (g_g, [(.bool false), (.slice none 0 0)], 24), some (g_1l, [(.bool (g.1)), (g.2.2.2.2.1)], 24), some (g_1x, [(.bool (g.2.2.1)), (g.2.2.2.2.2.1)], 24)] w' ∧ RepS (dI .u32) w' (g.2.2.2.2.2.2) (g.2.2.2.2.1) (g.2.1) ∧ RepS (dI .u32) w' (g.2.2.2.2.2.2) (g.2.2.2.2.2.1) (g.2.2.2.1)) ?_ ?_
    ·
      apply go
      apply go
      refine ev0 (rn_field rfl rfl FO24_0) ?_
      refine ev (rn_load rfl rfl (run_loadVar1 T4 (hp.cell (i := 0) (off := 0) rfl rfl))) ?_
      apply go
      refine sel_of (fun hc => ?_) (fun hc => ?_)
      ·
        have q_21 := cond_t q_21 hc
        apply go
        have hs := hp.stp (Ch.drew [] w_1z)
        have hp := hp.drew
        replace a_d := a_d.step hs
        replace r_5 := r_5.step hs
        replace r_1w := r_1w.step hs
        replace r_1k := r_1k.step hs
        refine W.heldG (.q 0 (.q 1 (.l 2 (.l 3 (.l 4 .done .no) .no) .no))) (SK (Stp I_1u w_1z.drew I_1u) [(g_1x, [(.bool x_1r.Neg), v_1v], 24)] [[4]]) MX (by kernel_rfl) ⟨Stp.refl _ _, (kp_cons (fun _ => (hp.own 0 _ _ _ rfl).1) kp_nil)⟩ ?_
        have hz := Stp.refl I_1u w_1z.drew
        refine ⟨SK.same (by kernel_rfl), ?_⟩
        refine evh (fun w' hw => rn_load rfl rfl (run_loadVarA T24 rfl ((S0.keep (p := 0) hw rfl rfl (by kernel_rfl)).at_ (i := 0) rfl))) ?_
        refine ⟨SK.same (by kernel_rfl), ?_⟩
        refine evh (fun w' hw => rn_load rfl rfl (run_loadVarA T24 rfl (a_d.step (S0.si hw)))) ?_
        refine ⟨?_, trivial⟩
        obtain ⟨x_22, q_23, q_21⟩ := bind_some q_21
        refine ev_call rfl rfl C102 (((ref01_Abs_ok n) _ _  (Int_2.mk x_3.Neg x_3.Mag) v_4 r_5 hp.imm _ q_23).mono ?_)
        rintro _ w_24 ⟨I_25, v_26, hv, hq, r_27⟩
        replace hv := hv.symm
        subst hv
        have hs := hq.st
        have hp := hp.join0 hq
        replace hz := hz.trans hs
        replace a_d := a_d.step hs
        replace r_5 := r_5.step hs
        replace r_1w := r_1w.step hs
        replace r_1k := r_1k.step hs
        refine ⟨SK (Stp I_25 w_24 I_25) [(g_1x, [(.bool x_1r.Neg), v_1v], 24)] [[4]], ⟨Stp.refl _ _, (kp_cons (fun _ => (hp.own 0 _ _ _ rfl).1) kp_nil)⟩, fun L x h => ⟨hz.held h.1, h.2⟩, ?_⟩
        have hz := Stp.refl I_25 w_24
        refine ⟨?_, trivial⟩
        obtain ⟨x_28, q_29, q_21⟩ := bind_some q_21
        refine ev_call rfl rfl C84 (((ref01_Add_ok n) _ _  (Int_2.mk x_1r.Neg x_1r.Mag) v_1v r_1w x_22 v_26 r_27 hp.imm _ q_29).mono ?_)
        rintro _ w_2a ⟨I_2b, v_2c, hv, hq, r_2d⟩
        replace hv := hv.symm
        subst hv
        have hs := hq.st
        have hp := hp.join0 hq
        replace hz := hz.trans hs
        replace a_d := a_d.step hs
        replace r_5 := r_5.step hs
        replace r_1w := r_1w.step hs
        replace r_1k := r_1k.step hs
        refine ⟨SK (Stp I_2b w_2a I_2b) [(g_1x, [(.bool x_1r.Neg), v_1v], 24)] [[4]], ⟨Stp.refl _ _, (kp_cons (fun _ => (hp.own 0 _ _ _ rfl).1) kp_nil)⟩, fun L x h => ⟨hz.held h.1, h.2⟩, ?_⟩
        have hz := Stp.refl I_2b w_2a
        refine ⟨?_, trivial⟩
        refine ev_storeA hp (i := 0) (off := 0) (vs := [(.bool x_28.Neg), v_2c]) rfl rfl rfl rfl T24 rfl (Nat.le_of_ble_eq_true rfl) (ones_cons rfl (ones_cons r_2d.one ones_nil)) ?_
        intro w_2e hp hs
        replace hz := hz.trans hs
        replace a_d := a_d.step hs
        replace r_5 := r_5.step hs
        replace r_2d := r_2d.step hs
        replace r_1k := r_1k.step hs
        refine ⟨SK (Stp I_2b w_2e I_2b) [(g_1x, [(.bool x_1r.Neg), v_1v], 24)] [[4]], ⟨Stp.refl _ _, (kp_cons (kp_off (by kernel_rfl)) kp_nil)⟩, fun L x h => ⟨hz.held h.1, h.2⟩, ?_⟩
        have hz := Stp.refl I_2b w_2e
        apply go
        apply go
        refine ev0 (rn_field rfl rfl FO24_0) ?_
        refine ev (rn_load rfl rfl (run_loadVar1 T4 (a_d.2 0 _ rfl))) ?_
        apply go
        refine sel_of (fun hc => ?_) (fun hc => ?_)
        ·
          have q_21 := cond_t q_21 hc
          have hs := hp.stp (Ch.drew [] w_2e)
          have hp := hp.drew
          replace r_2d := r_2d.step hs
          replace r_1k := r_1k.step hs
          refine W.heldG (.q 0 (.l 1 (.l 2 (.l 3 .done .no) .no) .no)) (SK (Stp I_2b w_2e.drew I_2b) [(g_1l, [(.bool x_1f.Neg), v_1j], 24)] [[3]]) MX (by kernel_rfl) ⟨Stp.refl _ _, (kp_cons (fun _ => (hp.own 1 _ _ _ rfl).1) kp_nil)⟩ ?_
          have hz := Stp.refl I_2b w_2e.drew
          refine ⟨SK.same (by kernel_rfl), ?_⟩
          refine evh (fun w' hw => rn_load rfl rfl (run_loadVarA T24 rfl ((S0.keep (p := 0) hw rfl rfl (by kernel_rfl)).at_ (i := 0) rfl))) ?_
          refine ⟨?_, trivial⟩
          obtain ⟨x_2f, q_2g, q_21⟩ := bind_some q_21
          refine ev_call rfl rfl C74 (((ref01_Of_ok n) _ _  1 hp.imm _ q_2g).mono ?_)
          rintro _ w_2h ⟨I_2i, v_2j, hv, hq, r_2k⟩
          replace hv := hv.symm
          subst hv
          have hs := hq.st
          have hp := hp.join0 hq
          replace hz := hz.trans hs
          replace r_1k := r_1k.step hs
          replace r_2d := r_2d.step hs
          refine ⟨SK (Stp I_2i w_2h I_2i) [(g_1l, [(.bool x_1f.Neg), v_1j], 24)] [[3]], ⟨Stp.refl _ _, (kp_cons (fun _ => (hp.own 1 _ _ _ rfl).1) kp_nil)⟩, fun L x h => ⟨hz.held h.1, h.2⟩, ?_⟩
          have hz := Stp.refl I_2i w_2h
          refine ⟨?_, trivial⟩
          obtain ⟨x_2l, q_2m, q_21⟩ := bind_some q_21
          refine ev_call rfl rfl C84 (((ref01_Add_ok n) _ _  (Int_2.mk x_1f.Neg x_1f.Mag) v_1j r_1k x_2f v_2j r_2k hp.imm _ q_2m).mono ?_)
          rintro _ w_2n ⟨I_2o, v_2p, hv, hq, r_2q⟩
          replace hv := hv.symm
          subst hv
          have hs := hq.st
          have hp := hp.join0 hq
          replace hz := hz.trans hs
          replace r_2d := r_2d.step hs
          replace r_1k := r_1k.step hs
          refine ⟨SK (Stp I_2o w_2n I_2o) [(g_1l, [(.bool x_1f.Neg), v_1j], 24)] [[3]], ⟨Stp.refl _ _, (kp_cons (fun _ => (hp.own 1 _ _ _ rfl).1) kp_nil)⟩, fun L x h => ⟨hz.held h.1, h.2⟩, ?_⟩
          have hz := Stp.refl I_2o w_2n
          refine ⟨?_, trivial⟩
          refine ev_storeA hp (i := 1) (off := 0) (vs := [(.bool x_2l.Neg), v_2p]) rfl rfl rfl rfl T24 rfl (Nat.le_of_ble_eq_true rfl) (ones_cons rfl (ones_cons r_2q.one ones_nil)) ?_
          intro w_2r hp hs
          replace hz := hz.trans hs
          replace r_2d := r_2d.step hs
          replace r_2q := r_2q.step hs
          refine ⟨SK (Stp I_2o w_2r I_2o) [(g_1l, [(.bool x_1f.Neg), v_1j], 24)] [[3]], ⟨Stp.refl _ _, (kp_cons (kp_off (by kernel_rfl)) kp_nil)⟩, fun L x h => ⟨hz.held h.1, h.2⟩, ?_⟩
          have hz := Stp.refl I_2o w_2r
          obtain rfl := Option.some.inj q_21
          have hp := hp.perm [3, 2, 1, 0] (by decide)
          exact ⟨(x_2l.Neg, x_2l.Mag, x_28.Neg, x_28.Mag, v_2p, v_2c, I_2o), (.c rfl (.c rfl (.c rfl (.c rfl .n)))), rfl, hp, r_2q, r_2d⟩
        ·
          have q_21 := cond_f q_21 hc
          have hs := hp.stp (Ch.drew [] w_2e)
          have hp := hp.drew
          replace r_2d := r_2d.step hs
          replace r_1k := r_1k.step hs
          refine W.heldG (.q 0 (.l 1 (.l 2 (.l 3 .done .no) .no) .no)) (SK (Stp I_2b w_2e.drew I_2b) [(g_1l, [(.bool x_1f.Neg), v_1j], 24)] [[3]]) MX (by kernel_rfl) ⟨Stp.refl _ _, (kp_cons (fun _ => (hp.own 1 _ _ _ rfl).1) kp_nil)⟩ ?_
          have hz := Stp.refl I_2b w_2e.drew
          refine ⟨SK.same (by kernel_rfl), ?_⟩
          refine evh (fun w' hw => rn_load rfl rfl (run_loadVarA T24 rfl ((S0.keep (p := 0) hw rfl rfl (by kernel_rfl)).at_ (i := 0) rfl))) ?_
          refine ⟨?_, trivial⟩
          obtain ⟨x_2s, q_2t, q_21⟩ := bind_some q_21
          refine ev_call rfl rfl C74 (((ref01_Of_ok n) _ _  1 hp.imm _ q_2t).mono ?_)
          rintro _ w_2u ⟨I_2v, v_2w, hv, hq, r_2x⟩
          replace hv := hv.symm
          subst hv
          have hs := hq.st
          have hp := hp.join0 hq
          replace hz := hz.trans hs
          replace r_1k := r_1k.step hs
          replace r_2d := r_2d.step hs
          refine ⟨SK (Stp I_2v w_2u I_2v) [(g_1l, [(.bool x_1f.Neg), v_1j], 24)] [[3]], ⟨Stp.refl _ _, (kp_cons (fun _ => (hp.own 1 _ _ _ rfl).1) kp_nil)⟩, fun L x h => ⟨hz.held h.1, h.2⟩, ?_⟩
          have hz := Stp.refl I_2v w_2u
          refine ⟨?_, trivial⟩
          obtain ⟨x_2y, q_2z, q_21⟩ := bind_some q_21
          refine ev_call rfl rfl C111 (((ref01_Sub_ok n) _ _  (Int_2.mk x_1f.Neg x_1f.Mag) v_1j r_1k x_2s v_2w r_2x hp.imm _ q_2z).mono ?_)
          rintro _ w_30 ⟨I_31, v_32, hv, hq, r_33⟩
          replace hv := hv.symm
          subst hv
          have hs := hq.st
          have hp := hp.join0 hq
          replace hz := hz.trans hs
          replace r_2d := r_2d.step hs
          replace r_1k := r_1k.step hs
          refine ⟨SK (Stp I_31 w_30 I_31) [(g_1l, [(.bool x_1f.Neg), v_1j], 24)] [[3]], ⟨Stp.refl _ _, (kp_cons (fun _ => (hp.own 1 _ _ _ rfl).1) kp_nil)⟩, fun L x h => ⟨hz.held h.1, h.2⟩, ?_⟩
          have hz := Stp.refl I_31 w_30
          refine ⟨?_, trivial⟩
          refine ev_storeA hp (i := 1) (off := 0) (vs := [(.bool x_2y.Neg), v_32]) rfl rfl rfl rfl T24 rfl (Nat.le_of_ble_eq_true rfl) (ones_cons rfl (ones_cons r_33.one ones_nil)) ?_
          intro w_34 hp hs
          replace hz := hz.trans hs
          replace r_2d := r_2d.step hs
          replace r_33 := r_33.step hs
          refine ⟨SK (Stp I_31 w_34 I_31) [(g_1l, [(.bool x_1f.Neg), v_1j], 24)] [[3]], ⟨Stp.refl _ _, (kp_cons (kp_off (by kernel_rfl)) kp_nil)⟩, fun L x h => ⟨hz.held h.1, h.2⟩, ?_⟩
          have hz := Stp.refl I_31 w_34
          obtain rfl := Option.some.inj q_21
          have hp := hp.perm [3, 2, 1, 0] (by decide)
          exact ⟨(x_2y.Neg, x_2y.Mag, x_28.Neg, x_28.Mag, v_32, v_2c, I_31), (.c rfl (.c rfl (.c rfl (.c rfl .n)))), rfl, hp, r_33, r_2d⟩
      ·
        have q_21 := cond_f q_21 hc
        apply go
        obtain rfl := Option.some.inj q_21
        have hp := hp.perm [3, 2, 1, 0] (by decide)
        exact ⟨(x_1f.Neg, x_1f.Mag, x_1r.Neg, x_1r.Mag, v_1j, v_1v, I_1u), (.c rfl (.c rfl (.c rfl (.c rfl .n)))), rfl, hp, r_1k, r_1w⟩
    ·
      rintro ⟨x_35, x_36, x_37, x_38, v_39, v_3a, I_3b⟩ w_3c ⟨hy, hp, r_3d, r_3e⟩
      replace hy := hy.symm
      subst hy
      apply go
      have hs := hp.stp (Ch.drew [] w_3c)
      have hp := hp.drew
      replace r_3d := r_3d.step hs
      replace r_3e := r_3e.step hs
      refine W.held [(0, true), (1, true), (2, false), (3, false), (4, true)] (fun x => Stp I_3b w_3c.drew I_3b x ∧ OwnK [(g_1l, [(.bool x_35), v_39], 24), (g_1x, [(.bool x_37), v_3a], 24)] x) MX (by kernel_rfl) ⟨Stp.refl _ _, (OwnK.cons (hp.own 2 _ _ _ rfl).1 (OwnK.cons (hp.own 3 _ _ _ rfl).1 OwnK.nil))⟩ ?_
      have hz := Stp.refl I_3b w_3c.drew
      refine evh (fun w' hw => rn_load rfl rfl (run_loadVarA T24 rfl (hw.2.at_ (i := 0) rfl))) ?_
      refine evh (fun w' hw => rn_load rfl rfl (run_loadVarA T24 rfl (hw.2.at_ (i := 1) rfl))) ?_
      refine ev_storeA hp (i := 0) (off := 0) (vs := [(.bool x_35), v_39]) rfl rfl rfl rfl T24 rfl (Nat.le_of_ble_eq_true rfl) (ones_cons rfl (ones_cons r_3d.one ones_nil)) ?_
      intro w_3f hp hs
      replace hz := hz.trans hs
      replace r_3e := r_3e.step hs
      replace r_3d := r_3d.step hs
      refine ⟨fun x => Stp I_3b w_3f I_3b x ∧ OwnK [(g_1l, [(.bool x_35), v_39], 24), (g_1x, [(.bool x_37), v_3a], 24)] x, ⟨Stp.refl _ _, (OwnK.cons (hp.own 2 _ _ _ rfl).1 (OwnK.cons (hp.own 3 _ _ _ rfl).1 OwnK.nil))⟩, fun x hx => ⟨hz.held hx.1, hx.2⟩, ?_⟩
      have hz := Stp.refl I_3b w_3f
      refine ev_storeA hp (i := 1) (off := 0) (vs := [(.bool x_37), v_3a]) rfl rfl rfl rfl T24 rfl (Nat.le_of_ble_eq_true rfl) (ones_cons rfl (ones_cons r_3e.one ones_nil)) ?_
      intro w_3g hp hs
      replace hz := hz.trans hs
      replace r_3d := r_3d.step hs
      replace r_3e := r_3e.step hs
      refine ⟨fun x => Stp I_3b w_3g I_3b x ∧ OwnK [(g_1l, [(.bool x_35), v_39], 24), (g_1x, [(.bool x_37), v_3a], 24)] x, ⟨Stp.refl _ _, (OwnK.cons (hp.own 2 _ _ _ rfl).1 (OwnK.cons (hp.own 3 _ _ _ rfl).1 OwnK.nil))⟩, fun x hx => ⟨hz.held hx.1, hx.2⟩, ?_⟩
      have hz := Stp.refl I_3b w_3g
      apply go
      obtain rfl := Option.some.inj h
      refine ⟨_, run_loadVarA T24 rfl (hp.at_ (i := 0) rfl), ?_⟩
      refine ⟨_, run_loadVarA T24 rfl (hp.at_ (i := 1) rfl), ?_⟩
      have hp := hp.sel [] (by decide)
      exact ⟨I_3b, v_39, v_3a, rfl, hp, r_3d, r_3e⟩

end Go.Proofs.YtepadjfmcbjkmaaGreatDoor

namespace Go.Proofs.YtepadjfmcbjkmaaGreatDoor
open Go Go.Proofs.YtepadjfmcbjkmaaGreatDoor.Gw Go.RowKit
set_option linter.unusedVariables false
attribute [local irreducible] Ev EvQ EvS EvH
def ref02_part_S (f : Int_2 → Int_2 → Option Int_2) : Prop := ∀ (w0 : World) (I0 : Nat → Prop) (x_0 : Int_2) (v_1 : Value) (r_2 : RepS (dI .u32) w0 I0 v_1 x_0.Mag) (x_3 : Int_2) (v_4 : Value) (r_5 : RepS (dI .u32) w0 I0 v_4 x_3.Mag) (hI : ∀ g, I0 g → g < w0.heap.size) (r : Int_2), f x_0 x_3 = some r →
    Ret Tryz.prog 50 #[(.agg #[(.bool x_0.Neg), v_1]), (.agg #[(.bool x_3.Neg), v_4])] w0 fun v w1 => ∃ (I1 : Nat → Prop) (u_6 : Value), v = (.agg #[(.bool r.Neg), u_6]) ∧ Hp ⟨w0, I0, []⟩ I1 [] w1 ∧ RepS (dI .u32) w1 I1 u_6 r.Mag
theorem ref02_part_ok (n : Nat) : ref02_part_S (ref02_part n) := by
  intro w0 I0 x_0 v_1 r_2 x_3 v_4 r_5 hI r h
  unfold ref02_part at h
  refine enter Tryz.func50 rfl (Nat.le_of_ble_eq_true rfl) ?_
  have hp : Hp ⟨w0, I0, []⟩ I0 [] w0 := Hp.start hI
  apply go
  apply go
  refine ev_boxI hp rfl rfl ?_
  intro p_6 I_7 w_8 hp hs a_9
  replace r_5 := r_5.step hs
  replace r_2 := r_2.step hs
  refine ev_boxI hp rfl rfl ?_
  intro p_a I_b w_c hp hs a_d
  replace a_9 := a_9.step hs
  replace r_2 := r_2.step hs
  replace r_5 := r_5.step hs
  refine ev_alloc hp rfl T24 ?_
  intro g_e w_f hp hs
  replace a_9 := a_9.step hs
  replace r_2 := r_2.step hs
  replace a_d := a_d.step hs
  replace r_5 := r_5.step hs
  apply go
  apply go
  refine ev (rn_load rfl rfl (run_loadVarA T24 rfl a_9)) ?_
  refine ev (rn_load rfl rfl (run_loadVarA T24 rfl a_d)) ?_
  obtain ⟨⟨x_g, x_h, x_i⟩, q_j, h⟩ := bind_some h
  refine ev_call rfl rfl C83 (((ref01_DivMod_ok n) _ _  (Int_2.mk x_0.Neg x_0.Mag) v_1 r_2 (Int_2.mk x_3.Neg x_3.Mag) v_4 r_5 hp.imm _ q_j).mono ?_)
  rintro _ w_k ⟨I_l, v_m, v_n, hv, hq, r_o, r_p⟩
  replace hv := hv.symm
  subst hv
  have hs := hq.st
  have hp := hp.join0 hq
  refine ev_alloc hp rfl T24 ?_
  intro g_q w_r hp hs
  replace r_o := r_o.step hs
  replace r_p := r_p.step hs
  refine ev_alloc hp rfl T24 ?_
  intro g_s w_t hp hs
  replace r_o := r_o.step hs
  replace r_p := r_p.step hs
  refine ev_storeA hp (i := 1) (off := 0) (vs := [(.bool x_g.Neg), v_m]) rfl rfl rfl rfl T24 rfl (Nat.le_of_ble_eq_true rfl) (ones_cons rfl (ones_cons r_o.one ones_nil)) ?_
  intro w_u hp hs
  replace r_p := r_p.step hs
  replace r_o := r_o.step hs
  refine ev_storeA hp (i := 0) (off := 0) (vs := [(.bool x_h.Neg), v_n]) rfl rfl rfl rfl T24 rfl (Nat.le_of_ble_eq_true rfl) (ones_cons rfl (ones_cons r_p.one ones_nil)) ?_
  intro w_v hp hs
  replace r_p := r_p.step hs
  replace r_o := r_o.step hs
  apply go
  apply go
  refine ev (rn_load rfl rfl (run_loadVarA T24 rfl (hp.at_ (i := 1) rfl))) ?_
  refine ev_storeA hp (i := 2) (off := 0) (vs := [(.bool x_g.Neg), v_m]) rfl rfl rfl rfl T24 rfl (Nat.le_of_ble_eq_true rfl) (ones_cons rfl (ones_cons r_o.one ones_nil)) ?_
  intro w_w hp hs
  replace r_p := r_p.step hs
  replace r_o := r_o.step hs
  apply go
  obtain rfl := Option.some.inj h
  refine ⟨_, run_loadVarA T24 rfl (hp.at_ (i := 2) rfl), ?_⟩
  have hp := hp.sel [] (by decide)
  exact ⟨I_l, v_m, rfl, hp, r_o⟩

end Go.Proofs.YtepadjfmcbjkmaaGreatDoor

namespace Go.Proofs.YtepadjfmcbjkmaaGreatDoor
open Go Go.Proofs.YtepadjfmcbjkmaaGreatDoor.Gw Go.RowKit
set_option linter.unusedVariables false
attribute [local irreducible] Ev EvQ EvS EvH
def ref01_half_S (f : (List Int) → Option (List Int)) : Prop := ∀ (w0 : World) (I0 : Nat → Prop) (x_0 : (List Int)) (v_1 : Value) (r_2 : RepS (dI .u32) w0 I0 v_1 x_0) (hI : ∀ g, I0 g → g < w0.heap.size) (r : (List Int)), f x_0 = some r →
    Ret Tryz.prog 103 #[v_1] w0 fun v w1 => ∃ (I1 : Nat → Prop) (u_3 : Value), v = u_3 ∧ Hp ⟨w0, I0, []⟩ I1 [] w1 ∧ RepS (dI .u32) w1 I1 u_3 r
theorem ref01_half_ok (n : Nat) : ref01_half_S (ref01_half n) := by
  intro w0 I0 x_0 v_1 r_2 hI r h
  unfold ref01_half at h
  refine enter Tryz.func103 rfl (Nat.le_of_ble_eq_true rfl) ?_
  have hp : Hp ⟨w0, I0, []⟩ I0 [] w0 := Hp.start hI
  apply go
  apply go
  apply go
  apply go
  refine ev_litON (d := (dI .u32)) (xs := ([] : List Int)) (cs := []) hp rfl rfl Tryz.underlying22 T46 (by decide) (by decide) rfl rfl (Elems.nil _ _ _ _) ?_
  intro v_3 e_4 w_5 hp hs o_6
  replace r_2 := r_2.step hs
  obtain ⟨x_7, q_8, h⟩ := bind_some h
  refine ev_append hp (i := 0) rfl rfl rfl rfl Tryz.underlying22 T46 rfl rfl o_6 r_2 q_8 ?_
  rintro v_9 e_a w_b hp hs o_c
  replace r_2 := r_2.step hs
  obtain ⟨y_d, q_e, h⟩ := bind_some h
  refine W.cut (γ := ((List Int) × Ent)) (fun g => [(3, v_9)]) (fun g w' => y_d = (g.1) ∧ Hp ⟨w0, I0, []⟩ I0 [(g.2)] w' ∧ OwnS (dI .u32) 46 w' I0 v_9 (g.2) (g.1)) ?_ ?_
  ·
    apply go
    apply go
    apply go
    refine W.loop q_e (γ := Ent) (fun s g => [(0, v_1), (3, v_9), (4, (.int .i64 (s.2)))]) (fun s g w' => Hp ⟨w0, I0, []⟩ I0 [(g)] w' ∧ RepS (dI .u32) w' I0 v_1 x_0 ∧ OwnS (dI .u32) 46 w' I0 v_9 (g) (s.1)) e_a (.c rfl (.c rfl (.c rfl .n))) ⟨hp, r_2, o_c⟩ ?_
    rintro ⟨x_f, x_g⟩ e_h w_i y_j ⟨hp, r_2, o_k⟩ q_l q_m
    unfold ref01_half_L1 at q_l
    apply go
    apply go
    apply go
    refine ev0 (x_lenO rfl rfl Tryz.underlying22 o_k) ?_
    apply go
    refine sel_of (fun hc => ?_) (fun hc => ?_)
    ·
      have q_l := cond_t q_l hc
      apply go
      obtain ⟨y_n, q_o, q_l⟩ := bind_some q_l
      refine W.cut (γ := ((List Int) × Ent)) (fun g => [(0, v_1), (3, v_9), (4, (.int .i64 x_g))]) (fun g w' => y_n = (g.1) ∧ Hp ⟨w0, I0, []⟩ I0 [(g.2)] w' ∧ RepS (dI .u32) w' I0 v_1 x_0 ∧ OwnS (dI .u32) 46 w' I0 v_9 (g.2) (g.1)) ?_ ?_
      ·
        apply go
        apply go
        apply go
        obtain ⟨x_p, q_q, q_o⟩ := bind_some q_o
        refine ev_indexO rfl rfl rfl Tryz.underlying22 T46 o_k q_q ?_
        intro g_r c_s h_t d_u l_v
        refine ev (rn_load rfl rfl (run_loadVar1 T46 (hp.cellE (i := 0) rfl h_t d_u (j := 0) rfl))) ?_
        refine ⟨by decide, ?_⟩
        obtain ⟨x_w, q_x, q_o⟩ := bind_some q_o
        refine ev_indexO rfl rfl rfl Tryz.underlying22 T46 o_k q_x ?_
        intro g_y c_z h_10 d_11 l_12
        refine ev_storeE hp (i := 0) rfl h_10 rfl rfl rfl T46 o_k q_x (x0 := (x_p.fdiv (2 ^ min (1 : Int).toNat (IntKind.u32).bits))) rfl ?_
        intro e_13 w_14 hp hs o_15
        replace r_2 := r_2.step hs
        apply go
        apply go
        refine ev0 (rn_len rfl rfl Tryz.underlying22 r_2) ?_
        apply go
        refine sel_of (fun hc => ?_) (fun hc => ?_)
        ·
          have q_o := cond_t q_o hc
          have hs := hp.stp (Ch.drew [] w_14)
          have hp := hp.drew
          replace r_2 := r_2.step hs
          replace o_15 := o_15.step hs
          refine W.tail 15 MX (by kernel_rfl) ?_
          obtain ⟨x_16, q_17, q_o⟩ := bind_some q_o
          refine evs_indexO rfl rfl rfl Tryz.underlying22 T46 o_15 q_17 ?_
          intro g_18 c_19 h_1a d_1b l_1c
          refine evs (rn_load rfl rfl (run_loadVar1 T46 (hp.cellE (i := 0) rfl h_1a d_1b (j := 0) rfl))) ?_
          obtain ⟨x_1d, q_1e, q_o⟩ := bind_some q_o
          refine evs_index rfl rfl rfl Tryz.underlying22 T46 r_2 q_1e ?_
          intro p_1f c_1g d_1h a_1i
          obtain rfl : c_1g = [(.int .u32 x_1d)] := d_1h
          refine evs (rn_load rfl rfl (run_loadVar1 T46 (a_1i.2 0 _ rfl))) ?_
          refine ⟨by decide, ?_⟩
          refine ⟨by decide, ?_⟩
          obtain ⟨x_1j, q_1k, q_o⟩ := bind_some q_o
          refine evs_indexO rfl rfl rfl Tryz.underlying22 T46 o_15 q_1k ?_
          intro g_1l c_1m h_1n d_1o l_1p
          refine ev_storeE hp (i := 0) rfl h_1n rfl rfl rfl T46 o_15 q_1k (x0 := (IntKind.u32.wrap (x_16 + (IntKind.u32.wrap ((x_1d.tmod 2) * 2 ^ min (31 : Int).toNat (IntKind.u32).bits))))) rfl ?_
          intro e_1q w_1r hp hs o_1s
          replace r_2 := r_2.step hs
          obtain rfl := Option.some.inj q_o
          exact ⟨((upd (upd x_f x_g (x_p.fdiv (2 ^ min (1 : Int).toNat (IntKind.u32).bits))) x_g (IntKind.u32.wrap (x_16 + (IntKind.u32.wrap ((x_1d.tmod 2) * 2 ^ min (31 : Int).toNat (IntKind.u32).bits))))), e_1q), (.c rfl (.c rfl (.c rfl .n))), rfl, hp, r_2, o_1s⟩
        ·
          have q_o := cond_f q_o hc
          apply go
          obtain rfl := Option.some.inj q_o
          exact ⟨((upd x_f x_g (x_p.fdiv (2 ^ min (1 : Int).toNat (IntKind.u32).bits))), e_13), (.c rfl (.c rfl (.c rfl .n))), rfl, hp, r_2, o_15⟩
      ·
        rintro ⟨x_1t, e_1u⟩ w_1v ⟨hy, hp, r_2, o_1w⟩
        replace hy := hy.symm
        subst hy
        apply go
        exact ⟨_, (Option.some.inj q_l).symm, e_1u, (.c rfl (.c rfl (.c rfl .n))), ⟨hp, r_2, o_1w⟩⟩
    ·
      have q_l := cond_f q_l hc
      apply go
      have q_1x := congrArg some (q_m _ (Option.some.inj q_l).symm)
      obtain rfl := Option.some.inj q_1x
      exact ⟨(x_f, e_h), (.c rfl .n), rfl, hp, o_k⟩
  ·
    rintro ⟨x_1y, e_1z⟩ w_20 ⟨hy, hp, o_21⟩
    replace hy := hy.symm
    subst hy
    apply go
    apply go
    have r_22 := o_21.frz hp (i := 0) rfl
    obtain ⟨hp, hs⟩ := freeze_hp hp (i := 0) rfl
    have hp := hp.sel [] (by decide)
    obtain ⟨x_23, q_24, h⟩ := bind_some h
    refine ev_call rfl rfl C100 (((ref01_trim_ok n) _ _  x_1y v_9 r_22 hp.imm _ q_24).mono ?_)
    rintro _ w_25 ⟨I_26, v_27, e_28, hv, hq, o_29⟩
    replace hv := hv.symm
    subst hv
    have hs := hq.st
    have hp := hp.join0 hq
    apply go
    obtain rfl := Option.some.inj h
    have r_2a := o_29.frz hp (i := 0) rfl
    obtain ⟨hp, hs⟩ := freeze_hp hp (i := 0) rfl
    have hp := hp.sel [] (by decide)
    exact ⟨(Ad I_26 e_28), v_27, rfl, hp, r_2a⟩

end Go.Proofs.YtepadjfmcbjkmaaGreatDoor

namespace Go.Proofs.YtepadjfmcbjkmaaGreatDoor
open Go Go.Proofs.YtepadjfmcbjkmaaGreatDoor.Gw Go.RowKit
set_option linter.unusedVariables false
attribute [local irreducible] Ev EvQ EvS EvH
def ref01_Gcd_S (f : Int_2 → Int_2 → Option Int_2) : Prop := ∀ (w0 : World) (I0 : Nat → Prop) (x_0 : Int_2) (v_1 : Value) (r_2 : RepS (dI .u32) w0 I0 v_1 x_0.Mag) (x_3 : Int_2) (v_4 : Value) (r_5 : RepS (dI .u32) w0 I0 v_4 x_3.Mag) (hI : ∀ g, I0 g → g < w0.heap.size) (r : Int_2), f x_0 x_3 = some r →
    Ret Tryz.prog 76 #[(.agg #[(.bool x_0.Neg), v_1]), (.agg #[(.bool x_3.Neg), v_4])] w0 fun v w1 => ∃ (I1 : Nat → Prop) (u_6 : Value), v = (.agg #[(.bool r.Neg), u_6]) ∧ Hp ⟨w0, I0, []⟩ I1 [] w1 ∧ RepS (dI .u32) w1 I1 u_6 r.Mag
theorem ref01_Gcd_ok (n : Nat) : ref01_Gcd_S (ref01_Gcd n) := by
  intro w0 I0 x_0 v_1 r_2 x_3 v_4 r_5 hI r h
  unfold ref01_Gcd at h
  refine enter Tryz.func76 rfl (Nat.le_of_ble_eq_true rfl) ?_
  have hp : Hp ⟨w0, I0, []⟩ I0 [] w0 := Hp.start hI
  apply go
  apply go
  refine ev_boxI hp rfl rfl ?_
  intro p_6 I_7 w_8 hp hs a_9
  replace r_5 := r_5.step hs
  replace r_2 := r_2.step hs
  refine ev_boxI hp rfl rfl ?_
  intro p_a I_b w_c hp hs a_d
  replace a_9 := a_9.step hs
  replace r_2 := r_2.step hs
  replace r_5 := r_5.step hs
  refine ev_alloc hp rfl T24 ?_
  intro g_e w_f hp hs
  replace a_9 := a_9.step hs
  replace r_2 := r_2.step hs
  replace a_d := a_d.step hs
  replace r_5 := r_5.step hs
  apply go
  apply go
  refine ev0 (rn_field rfl rfl FO24_1) ?_
  refine ev (rn_load rfl rfl (run_loadVar1 T22 (a_9.2 1 _ rfl))) ?_
  obtain ⟨x_g, q_h, h⟩ := bind_some h
  refine ev_call rfl rfl C100 (((ref01_trim_ok n) _ _  x_0.Mag v_1 r_2 hp.imm _ q_h).mono ?_)
  rintro _ w_i ⟨I_j, v_k, e_l, hv, hq, o_m⟩
  replace hv := hv.symm
  subst hv
  have hs := hq.st
  have hp := hp.join0 hq
  replace a_9 := a_9.step hs
  replace r_2 := r_2.step hs
  replace a_d := a_d.step hs
  replace r_5 := r_5.step hs
  apply go
  apply go
  refine ev0 (rn_field rfl rfl FO24_1) ?_
  refine ev (rn_load rfl rfl (run_loadVar1 T22 (a_d.2 1 _ rfl))) ?_
  obtain ⟨x_n, q_o, h⟩ := bind_some h
  refine ev_call rfl rfl C100 (((ref01_trim_ok n) _ _  x_3.Mag v_4 r_5 hp.imm _ q_o).mono ?_)
  rintro _ w_p ⟨I_q, v_r, e_s, hv, hq, o_t⟩
  replace hv := hv.symm
  subst hv
  have hs := hq.st
  have hp := hp.join0 hq
  replace a_9 := a_9.step hs
  replace r_2 := r_2.step hs
  replace a_d := a_d.step hs
  replace r_5 := r_5.step hs
  replace o_m := o_m.step hs
  apply go
  apply go
  apply go
  refine ev0 (x_lenO rfl rfl Tryz.underlying22 o_m) ?_
  apply go
  refine sel_of (fun hc => ?_) (fun hc => ?_)
  ·
    have h := cond_t h hc
    apply go
    apply go
    refine ev (rn_load rfl rfl (run_loadVarA T24 rfl a_d)) ?_
    obtain ⟨x_u, q_v, h⟩ := bind_some h
    refine ev_call rfl rfl C102 (((ref01_Abs_ok n) _ _  (Int_2.mk x_3.Neg x_3.Mag) v_4 r_5 hp.imm _ q_v).mono ?_)
    rintro _ w_w ⟨I_x, v_y, hv, hq, r_z⟩
    replace hv := hv.symm
    subst hv
    have hs := hq.st
    have hp := hp.join0 hq
    refine ev_storeA hp (i := 2) (off := 0) (vs := [(.bool x_u.Neg), v_y]) rfl rfl rfl rfl T24 rfl (Nat.le_of_ble_eq_true rfl) (ones_cons rfl (ones_cons r_z.one ones_nil)) ?_
    intro w_10 hp hs
    replace r_z := r_z.step hs
    apply go
    obtain rfl := Option.some.inj h
    refine ⟨_, run_loadVarA T24 rfl (hp.at_ (i := 2) rfl), ?_⟩
    have hp := hp.sel [] (by decide)
    exact ⟨I_x, v_y, rfl, hp, r_z⟩
  ·
    have h := cond_f h hc
    apply go
    apply go
    apply go
    apply go
    refine ev0 (x_lenO rfl rfl Tryz.underlying22 o_t) ?_
    apply go
    refine sel_of (fun hc => ?_) (fun hc => ?_)
    ·
      have h := cond_t h hc
      apply go
      apply go
      refine ev (rn_load rfl rfl (run_loadVarA T24 rfl a_9)) ?_
      obtain ⟨x_11, q_12, h⟩ := bind_some h
      refine ev_call rfl rfl C102 (((ref01_Abs_ok n) _ _  (Int_2.mk x_0.Neg x_0.Mag) v_1 r_2 hp.imm _ q_12).mono ?_)
      rintro _ w_13 ⟨I_14, v_15, hv, hq, r_16⟩
      replace hv := hv.symm
      subst hv
      have hs := hq.st
      have hp := hp.join0 hq
      refine ev_storeA hp (i := 2) (off := 0) (vs := [(.bool x_11.Neg), v_15]) rfl rfl rfl rfl T24 rfl (Nat.le_of_ble_eq_true rfl) (ones_cons rfl (ones_cons r_16.one ones_nil)) ?_
      intro w_17 hp hs
      replace r_16 := r_16.step hs
      apply go
      obtain rfl := Option.some.inj h
      refine ⟨_, run_loadVarA T24 rfl (hp.at_ (i := 2) rfl), ?_⟩
      have hp := hp.sel [] (by decide)
      exact ⟨I_14, v_15, rfl, hp, r_16⟩
    ·
      have h := cond_f h hc
      apply go
      apply go
      apply go
      obtain ⟨y_18, q_19, h⟩ := bind_some h
      refine W.cut (γ := ((List Int) × (List Int) × Int × Value × Value × (Nat → Prop))) (fun g => [(4, (.pointer (some ⟨g_e, 0, none⟩))), (5, (g.2.2.2.1)), (6, (g.2.2.2.2.1)), (7, (.int .i64 (g.2.2.1)))]) (fun g w' => y_18 = ((g.1), (g.2.1), (g.2.2.1)) ∧ Hp ⟨w0, I0, []⟩ (g.2.2.2.2.2) [some (g_e, [(.bool false), (.slice none 0 0)], 24)] w' ∧ RepS (dI .u32) w' (g.2.2.2.2.2) (g.2.2.2.1) (g.1) ∧ RepS (dI .u32) w' (g.2.2.2.2.2) (g.2.2.2.2.1) (g.2.1)) ?_ ?_
      ·
        apply go
        have r_1a := o_m.frz hp (i := 1) rfl
        obtain ⟨hp, hs⟩ := freeze_hp hp (i := 1) rfl
        replace o_t := o_t.step hs
        have hp := hp.sel [0, 2] (by decide)
        have r_1b := o_t.frz hp (i := 0) rfl
        obtain ⟨hp, hs⟩ := freeze_hp hp (i := 0) rfl
        replace r_1a := r_1a.step hs
        have hp := hp.sel [1] (by decide)
        refine W.loop q_19 (γ := (Value × Value × (Nat → Prop))) (fun s g => [(4, (.pointer (some ⟨g_e, 0, none⟩))), (5, (g.1)), (6, (g.2.1)), (7, (.int .i64 (s.2.2)))]) (fun s g w' => Hp ⟨w0, I0, []⟩ (g.2.2) [some (g_e, [(.bool false), (.slice none 0 0)], 24)] w' ∧ RepS (dI .u32) w' (g.2.2) (g.1) (s.1) ∧ RepS (dI .u32) w' (g.2.2) (g.2.1) (s.2.1)) (v_k, v_r, (Ad (Ad I_q e_l) e_s)) (.c rfl (.c rfl (.c rfl (.c rfl .n)))) ⟨hp, r_1a, r_1b⟩ ?_
        rintro ⟨x_1c, x_1d, x_1e⟩ ⟨v_1f, v_1g, I_1h⟩ w_1i y_1j ⟨hp, r_1k, r_1l⟩ q_1m q_1n
        unfold ref01_Gcd_L1 at q_1m
        apply go
        obtain ⟨y_1o, q_1p, q_1m⟩ := bind_some q_1m
        refine W.cut (γ := Bool) (fun g => [(4, (.pointer (some ⟨g_e, 0, none⟩))), (5, v_1f), (6, v_1g), (7, (.int .i64 x_1e)), (36, (.bool (g)))]) (fun g w' => y_1o = (g) ∧ w_1i = w') ?_ ?_
        ·
          apply go
          obtain ⟨x_1q, q_1r, q_1p⟩ := bind_some q_1p
          refine ev_index rfl rfl rfl Tryz.underlying22 T46 r_1k q_1r ?_
          intro p_1s c_1t d_1u a_1v
          obtain rfl : c_1t = [(.int .u32 x_1q)] := d_1u
          refine ev (rn_load rfl rfl (run_loadVar1 T46 (a_1v.2 0 _ rfl))) ?_
          refine ⟨by decide, ?_⟩
          refine sel_of (fun hc => ?_) (fun hc => ?_)
          ·
            have q_1p := cond_t q_1p hc
            obtain ⟨x_1w, q_1x, q_1p⟩ := bind_some q_1p
            refine ev_index rfl rfl rfl Tryz.underlying22 T46 r_1l q_1x ?_
            intro p_1y c_1z d_20 a_21
            obtain rfl : c_1z = [(.int .u32 x_1w)] := d_20
            refine ev (rn_load rfl rfl (run_loadVar1 T46 (a_21.2 0 _ rfl))) ?_
            refine ⟨by decide, ?_⟩
            obtain rfl := Option.some.inj q_1p
            exact ⟨((x_1w.tmod 2) == 0), (.c rfl (.c rfl (.c rfl (.c rfl (.c rfl .n))))), rfl, rfl⟩
          ·
            have q_1p := cond_f q_1p hc
            obtain rfl := Option.some.inj q_1p
            exact ⟨false, (.c rfl (.c rfl (.c rfl (.c rfl (.c rfl .n))))), rfl, rfl⟩
        ·
          rintro x_22 _ ⟨hy, rfl⟩
          replace hy := hy.symm
          subst hy
          apply go
          refine sel_of (fun hc => ?_) (fun hc => ?_)
          ·
            have q_1m := cond_t q_1m hc
            apply go
            apply go
            apply go
            apply go
            obtain ⟨x_23, q_24, q_1m⟩ := bind_some q_1m
            refine ev_call rfl rfl C103 (((ref01_half_ok n) _ _  x_1c v_1f r_1k hp.imm _ q_24).mono ?_)
            rintro _ w_25 ⟨I_26, v_27, hv, hq, r_28⟩
            replace hv := hv.symm
            subst hv
            have hs := hq.st
            have hp := hp.join0 hq
            replace r_1l := r_1l.step hs
            apply go
            apply go
            obtain ⟨x_29, q_2a, q_1m⟩ := bind_some q_1m
            refine ev_call rfl rfl C103 (((ref01_half_ok n) _ _  x_1d v_1g r_1l hp.imm _ q_2a).mono ?_)
            rintro _ w_2b ⟨I_2c, v_2d, hv, hq, r_2e⟩
            replace hv := hv.symm
            subst hv
            have hs := hq.st
            have hp := hp.join0 hq
            replace r_28 := r_28.step hs
            apply go
            exact ⟨_, (Option.some.inj q_1m).symm, (v_27, v_2d, I_2c), (.c rfl (.c rfl (.c rfl (.c rfl .n)))), ⟨hp, r_28, r_2e⟩⟩
          ·
            have q_1m := cond_f q_1m hc
            apply go
            have q_2f := congrArg some (q_1n _ (Option.some.inj q_1m).symm)
            obtain rfl := Option.some.inj q_2f
            exact ⟨(x_1c, x_1d, x_1e, v_1f, v_1g, I_1h), (.c rfl (.c rfl (.c rfl (.c rfl .n)))), rfl, hp, r_1k, r_1l⟩
      ·
        rintro ⟨x_2g, x_2h, x_2i, v_2j, v_2k, I_2l⟩ w_2m ⟨hy, hp, r_2n, r_2o⟩
        replace hy := hy.symm
        subst hy
        obtain ⟨y_2p, q_2q, h⟩ := bind_some h
        refine W.cut (γ := ((List Int) × Value × (Nat → Prop))) (fun g => [(4, (.pointer (some ⟨g_e, 0, none⟩))), (5, (g.2.1)), (7, (.int .i64 x_2i))]) (fun g w' => y_2p = (g.1) ∧ Hp ⟨w0, I0, []⟩ (g.2.2) [some (g_e, [(.bool false), (.slice none 0 0)], 24)] w' ∧ RepS (dI .u32) w' (g.2.2) (g.2.1) (g.1)) ?_ ?_
        ·
          apply go
          refine W.loop q_2q (γ := (Value × Value × (Nat → Prop))) (fun s g => [(4, (.pointer (some ⟨g_e, 0, none⟩))), (5, (g.1)), (6, (g.2.1)), (7, (.int .i64 x_2i))]) (fun s g w' => Hp ⟨w0, I0, []⟩ (g.2.2) [some (g_e, [(.bool false), (.slice none 0 0)], 24)] w' ∧ RepS (dI .u32) w' (g.2.2) (g.1) (s.1) ∧ RepS (dI .u32) w' (g.2.2) (g.2.1) (s.2)) (v_2j, v_2k, I_2l) (.c rfl (.c rfl (.c rfl (.c rfl .n)))) ⟨hp, r_2n, r_2o⟩ ?_
          rintro ⟨x_2r, x_2s⟩ ⟨v_2t, v_2u, I_2v⟩ w_2w y_2x ⟨hp, r_2y, r_2z⟩ q_30 q_31
          unfold ref01_Gcd_L3 at q_30
          apply go
          apply go
          apply go
          obtain ⟨x_32, q_33, q_30⟩ := bind_some q_30
          refine ev_call rfl rfl C78 (((ref01_cmp_ok n) _ _  x_2r v_2t r_2y x_2s v_2u r_2z hp.imm _ q_33).mono ?_)
          rintro _ w_34 ⟨rfl, hc⟩
          have hs := hp.stp hc
          replace hp := hp.ext hc
          replace r_2y := r_2y.step hs
          replace r_2z := r_2z.step hs
          apply go
          refine sel_of (fun hc => ?_) (fun hc => ?_)
          ·
            have q_30 := cond_t q_30 hc
            apply go
            apply go
            apply go
            apply go
            apply go
            obtain ⟨x_35, q_36, q_30⟩ := bind_some q_30
            refine ev_index rfl rfl rfl Tryz.underlying22 T46 r_2y q_36 ?_
            intro p_37 c_38 d_39 a_3a
            obtain rfl : c_38 = [(.int .u32 x_35)] := d_39
            refine ev (rn_load rfl rfl (run_loadVar1 T46 (a_3a.2 0 _ rfl))) ?_
            refine ⟨by decide, ?_⟩
            apply go
            refine sel_of (fun hc => ?_) (fun hc => ?_)
            ·
              have q_30 := cond_t q_30 hc
              apply go
              obtain ⟨x_3b, q_3c, q_30⟩ := bind_some q_30
              refine ev_call rfl rfl C103 (((ref01_half_ok n) _ _  x_2r v_2t r_2y hp.imm _ q_3c).mono ?_)
              rintro _ w_3d ⟨I_3e, v_3f, hv, hq, r_3g⟩
              replace hv := hv.symm
              subst hv
              have hs := hq.st
              have hp := hp.join0 hq
              replace r_2z := r_2z.step hs
              exact ⟨_, (Option.some.inj q_30).symm, (v_3f, v_2u, I_3e), (.c rfl (.c rfl (.c rfl (.c rfl .n)))), ⟨hp, r_3g, r_2z⟩⟩
            ·
              have q_30 := cond_f q_30 hc
              apply go
              apply go
              obtain ⟨x_3h, q_3i, q_30⟩ := bind_some q_30
              refine ev_index rfl rfl rfl Tryz.underlying22 T46 r_2z q_3i ?_
              intro p_3j c_3k d_3l a_3m
              obtain rfl : c_3k = [(.int .u32 x_3h)] := d_3l
              refine ev (rn_load rfl rfl (run_loadVar1 T46 (a_3m.2 0 _ rfl))) ?_
              refine ⟨by decide, ?_⟩
              apply go
              refine sel_of (fun hc => ?_) (fun hc => ?_)
              ·
                have q_30 := cond_t q_30 hc
                apply go
                obtain ⟨x_3n, q_3o, q_30⟩ := bind_some q_30
                refine ev_call rfl rfl C103 (((ref01_half_ok n) _ _  x_2s v_2u r_2z hp.imm _ q_3o).mono ?_)
                rintro _ w_3p ⟨I_3q, v_3r, hv, hq, r_3s⟩
                replace hv := hv.symm
                subst hv
                have hs := hq.st
                have hp := hp.join0 hq
                replace r_2y := r_2y.step hs
                exact ⟨_, (Option.some.inj q_30).symm, (v_2t, v_3r, I_3q), (.c rfl (.c rfl (.c rfl (.c rfl .n)))), ⟨hp, r_2y, r_3s⟩⟩
              ·
                have q_30 := cond_f q_30 hc
                apply go
                apply go
                obtain ⟨x_3t, q_3u, q_30⟩ := bind_some q_30
                refine ev_call rfl rfl C78 (((ref01_cmp_ok n) _ _  x_2r v_2t r_2y x_2s v_2u r_2z hp.imm _ q_3u).mono ?_)
                rintro _ w_3v ⟨rfl, hc⟩
                have hs := hp.stp hc
                replace hp := hp.ext hc
                replace r_2y := r_2y.step hs
                replace r_2z := r_2z.step hs
                apply go
                refine sel_of (fun hc => ?_) (fun hc => ?_)
                ·
                  have q_30 := cond_t q_30 hc
                  apply go
                  obtain ⟨x_3w, q_3x, q_30⟩ := bind_some q_30
                  refine ev_call rfl rfl C104 (((ref01_sub_ok n) _ _  x_2r v_2t r_2y x_2s v_2u r_2z hp.imm _ q_3x).mono ?_)
                  rintro _ w_3y ⟨I_3z, v_40, hv, hq, r_41⟩
                  replace hv := hv.symm
                  subst hv
                  have hs := hq.st
                  have hp := hp.join0 hq
                  replace r_2z := r_2z.step hs
                  exact ⟨_, (Option.some.inj q_30).symm, (v_40, v_2u, I_3z), (.c rfl (.c rfl (.c rfl (.c rfl .n)))), ⟨hp, r_41, r_2z⟩⟩
                ·
                  have q_30 := cond_f q_30 hc
                  apply go
                  obtain ⟨x_42, q_43, q_30⟩ := bind_some q_30
                  refine ev_call rfl rfl C104 (((ref01_sub_ok n) _ _  x_2s v_2u r_2z x_2r v_2t r_2y hp.imm _ q_43).mono ?_)
                  rintro _ w_44 ⟨I_45, v_46, hv, hq, r_47⟩
                  replace hv := hv.symm
                  subst hv
                  have hs := hq.st
                  have hp := hp.join0 hq
                  replace r_2y := r_2y.step hs
                  exact ⟨_, (Option.some.inj q_30).symm, (v_2t, v_46, I_45), (.c rfl (.c rfl (.c rfl (.c rfl .n)))), ⟨hp, r_2y, r_47⟩⟩
          ·
            have q_30 := cond_f q_30 hc
            apply go
            have q_48 := congrArg some (q_31 _ (Option.some.inj q_30).symm)
            obtain rfl := Option.some.inj q_48
            exact ⟨(x_2r, v_2t, I_2v), (.c rfl (.c rfl (.c rfl .n))), rfl, hp, r_2y⟩
        ·
          rintro ⟨x_49, v_4a, I_4b⟩ w_4c ⟨hy, hp, r_4d⟩
          replace hy := hy.symm
          subst hy
          obtain ⟨y_4e, q_4f, h⟩ := bind_some h
          refine W.cut (γ := ((List Int) × Value × (Nat → Prop))) (fun g => [(4, (.pointer (some ⟨g_e, 0, none⟩))), (5, (g.2.1))]) (fun g w' => y_4e = (g.1) ∧ Hp ⟨w0, I0, []⟩ (g.2.2) [some (g_e, [(.bool false), (.slice none 0 0)], 24)] w' ∧ RepS (dI .u32) w' (g.2.2) (g.2.1) (g.1)) ?_ ?_
          ·
            apply go
            apply go
            apply go
            refine W.loop q_4f (γ := (Value × (Nat → Prop))) (fun s g => [(4, (.pointer (some ⟨g_e, 0, none⟩))), (5, (g.1)), (7, (.int .i64 x_2i)), (8, (.int .i64 (s.2)))]) (fun s g w' => Hp ⟨w0, I0, []⟩ (g.2) [some (g_e, [(.bool false), (.slice none 0 0)], 24)] w' ∧ RepS (dI .u32) w' (g.2) (g.1) (s.1)) (v_4a, I_4b) (.c rfl (.c rfl (.c rfl (.c rfl .n)))) ⟨hp, r_4d⟩ ?_
            rintro ⟨x_4g, x_4h⟩ ⟨v_4i, I_4j⟩ w_4k y_4l ⟨hp, r_4m⟩ q_4n q_4o
            unfold ref01_Gcd_L5 at q_4n
            apply go
            apply go
            apply go
            apply go
            refine sel_of (fun hc => ?_) (fun hc => ?_)
            ·
              have q_4n := cond_t q_4n hc
              apply go
              apply go
              apply go
              apply go
              obtain ⟨x_4p, q_4q, q_4n⟩ := bind_some q_4n
              refine ev_call rfl rfl C105 (((ref01_add_ok n) _ _  x_4g v_4i r_4m x_4g v_4i r_4m hp.imm _ q_4q).mono ?_)
              rintro _ w_4r ⟨I_4s, v_4t, hv, hq, r_4u⟩
              replace hv := hv.symm
              subst hv
              have hs := hq.st
              have hp := hp.join0 hq
              apply go
              exact ⟨_, (Option.some.inj q_4n).symm, (v_4t, I_4s), (.c rfl (.c rfl (.c rfl (.c rfl .n)))), ⟨hp, r_4u⟩⟩
            ·
              have q_4n := cond_f q_4n hc
              apply go
              have q_4v := congrArg some (q_4o _ (Option.some.inj q_4n).symm)
              obtain rfl := Option.some.inj q_4v
              exact ⟨(x_4g, v_4i, I_4j), (.c rfl (.c rfl .n)), rfl, hp, r_4m⟩
          ·
            rintro ⟨x_4w, v_4x, I_4y⟩ w_4z ⟨hy, hp, r_50⟩
            replace hy := hy.symm
            subst hy
            apply go
            apply go
            obtain ⟨A_51, m_52, m_53, rfl⟩ := r_50.isSl
            refine ev0 (fun w => rn_build (cs := [(.bool false), (.slice A_51 m_52 m_53)]) rfl rfl T24 PL24 rfl) ?_
            refine ev_storeA hp (i := 0) (off := 0) (vs := [(.bool false), (.slice A_51 m_52 m_53)]) rfl rfl rfl rfl T24 rfl (Nat.le_of_ble_eq_true rfl) (ones_cons rfl (ones_cons r_50.one ones_nil)) ?_
            intro w_54 hp hs
            replace r_50 := r_50.step hs
            apply go
            obtain rfl := Option.some.inj h
            refine ⟨_, run_loadVarA T24 rfl (hp.at_ (i := 0) rfl), ?_⟩
            have hp := hp.sel [] (by decide)
            exact ⟨I_4y, (.slice A_51 m_52 m_53), rfl, hp, r_50⟩

end Go.Proofs.YtepadjfmcbjkmaaGreatDoor

namespace Go.Proofs.YtepadjfmcbjkmaaGreatDoor
open Go Go.Proofs.YtepadjfmcbjkmaaGreatDoor.Gw Go.RowKit
set_option linter.unusedVariables false
attribute [local irreducible] Ev EvQ EvS EvH
def ref02_New_S (f : Int_2 → Int_2 → Option Rational) : Prop := ∀ (w0 : World) (I0 : Nat → Prop) (x_0 : Int_2) (v_1 : Value) (r_2 : RepS (dI .u32) w0 I0 v_1 x_0.Mag) (x_3 : Int_2) (v_4 : Value) (r_5 : RepS (dI .u32) w0 I0 v_4 x_3.Mag) (hI : ∀ g, I0 g → g < w0.heap.size) (r : Rational), f x_0 x_3 = some r →
    Ret Tryz.prog 41 #[(.agg #[(.bool x_0.Neg), v_1]), (.agg #[(.bool x_3.Neg), v_4])] w0 fun v w1 => ∃ (I1 : Nat → Prop) (u_6 : Value) (u_7 : Value), v = (.agg #[(.bool r.Num.Neg), u_6, (.bool r.Den.Neg), u_7]) ∧ Hp ⟨w0, I0, []⟩ I1 [] w1 ∧ RepS (dI .u32) w1 I1 u_6 r.Num.Mag ∧ RepS (dI .u32) w1 I1 u_7 r.Den.Mag
theorem ref02_New_ok (n : Nat) : ref02_New_S (ref02_New n) := by
  intro w0 I0 x_0 v_1 r_2 x_3 v_4 r_5 hI r h
  unfold ref02_New at h
  refine enter Tryz.func41 rfl (Nat.le_of_ble_eq_true rfl) ?_
  have hp : Hp ⟨w0, I0, []⟩ I0 [] w0 := Hp.start hI
  apply go
  apply go
  refine ev_box hp rfl rfl ?_
  intro g_6 w_7 hp hs
  replace r_5 := r_5.step hs
  replace r_2 := r_2.step hs
  refine ev_box hp rfl rfl ?_
  intro g_8 w_9 hp hs
  replace r_5 := r_5.step hs
  replace r_2 := r_2.step hs
  refine ev_alloc hp rfl T26 ?_
  intro g_a w_b hp hs
  replace r_5 := r_5.step hs
  replace r_2 := r_2.step hs
  apply go
  obtain ⟨y_c, q_d, h⟩ := bind_some h
  refine W.cut (γ := Bool) (fun g => [(2, (.pointer (some ⟨g_6, 0, none⟩))), (3, (.pointer (some ⟨g_8, 0, none⟩))), (4, (.pointer (some ⟨g_a, 0, none⟩))), (13, (.bool (g)))]) (fun g w' => y_c = (g) ∧ Hp ⟨w0, I0, []⟩ I0 [some (g_6, [(.bool x_0.Neg), v_1], 24), some (g_8, [(.bool x_3.Neg), v_4], 24), some (g_a, [(.bool false), (.slice none 0 0), (.bool false), (.slice none 0 0)], 26)] w' ∧ RepS (dI .u32) w' I0 v_1 x_0.Mag ∧ RepS (dI .u32) w' I0 v_4 x_3.Mag) ?_ ?_
  ·
    apply go
    refine ev (rn_load rfl rfl (run_loadVarA T24 rfl (hp.at_ (i := 2) rfl))) ?_
    obtain ⟨x_e, q_f, q_d⟩ := bind_some q_d
    refine ev_call rfl rfl C73 (((ref01_Sign_ok n) _ _  (Int_2.mk x_0.Neg x_0.Mag) v_1 r_2 hp.imm _ q_f).mono ?_)
    rintro _ w_g ⟨rfl, hc⟩
    have hs := hp.stp hc
    replace hp := hp.ext hc
    replace r_5 := r_5.step hs
    replace r_2 := r_2.step hs
    refine sel_of (fun hc => ?_) (fun hc => ?_)
    ·
      have q_d := cond_t q_d hc
      obtain rfl := Option.some.inj q_d
      have hp := hp.perm [2, 1, 0] (by decide)
      exact ⟨true, (.c rfl (.c rfl (.c rfl (.c rfl .n)))), rfl, hp, r_2, r_5⟩
    ·
      have q_d := cond_f q_d hc
      refine ev (rn_load rfl rfl (run_loadVarA T24 rfl (hp.at_ (i := 1) rfl))) ?_
      obtain ⟨x_h, q_i, q_d⟩ := bind_some q_d
      refine ev_call rfl rfl C73 (((ref01_Sign_ok n) _ _  (Int_2.mk x_3.Neg x_3.Mag) v_4 r_5 hp.imm _ q_i).mono ?_)
      rintro _ w_j ⟨rfl, hc⟩
      have hs := hp.stp hc
      replace hp := hp.ext hc
      replace r_5 := r_5.step hs
      replace r_2 := r_2.step hs
      obtain rfl := Option.some.inj q_d
      have hp := hp.perm [2, 1, 0] (by decide)
      exact ⟨(x_h == 0), (.c rfl (.c rfl (.c rfl (.c rfl .n)))), rfl, hp, r_2, r_5⟩
  ·
    rintro x_k w_l ⟨hy, hp, r_2, r_5⟩
    replace hy := hy.symm
    subst hy
    apply go
    refine sel_of (fun hc => ?_) (fun hc => ?_)
    ·
      have h := cond_t h hc
      apply go
      apply go
      obtain ⟨x_m, q_n, h⟩ := bind_some h
      refine ev_call rfl rfl C74 (((ref01_Of_ok n) _ _  0 hp.imm _ q_n).mono ?_)
      rintro _ w_o ⟨I_p, v_q, hv, hq, r_r⟩
      replace hv := hv.symm
      subst hv
      have hs := hq.st
      have hp := hp.join0 hq
      replace r_2 := r_2.step hs
      replace r_5 := r_5.step hs
      obtain ⟨x_s, q_t, h⟩ := bind_some h
      refine ev_call rfl rfl C45 (((ref02_One_ok n) _ _   hp.imm _ q_t).mono ?_)
      rintro _ w_u ⟨I_v, v_w, hv, hq, r_x⟩
      replace hv := hv.symm
      subst hv
      have hs := hq.st
      have hp := hp.join0 hq
      replace r_r := r_r.step hs
      replace r_2 := r_2.step hs
      replace r_5 := r_5.step hs
      obtain ⟨A_y, m_z, m_10, rfl⟩ := r_r.isSl
      obtain ⟨A_11, m_12, m_13, rfl⟩ := r_x.isSl
      refine ev0 (fun w => rn_build (cs := [(.bool x_m.Neg), (.slice A_y m_z m_10), (.bool x_s.Neg), (.slice A_11 m_12 m_13)]) rfl rfl T26 PL26 rfl) ?_
      refine ev_storeA hp (i := 2) (off := 0) (vs := [(.bool x_m.Neg), (.slice A_y m_z m_10), (.bool x_s.Neg), (.slice A_11 m_12 m_13)]) rfl rfl rfl rfl T26 rfl (Nat.le_of_ble_eq_true rfl) (ones_cons rfl (ones_cons r_r.one (ones_cons rfl (ones_cons r_x.one ones_nil)))) ?_
      intro w_14 hp hs
      replace r_2 := r_2.step hs
      replace r_5 := r_5.step hs
      replace r_r := r_r.step hs
      replace r_x := r_x.step hs
      apply go
      obtain rfl := Option.some.inj h
      refine ⟨_, run_loadVarA T26 rfl (hp.at_ (i := 2) rfl), ?_⟩
      have hp := hp.sel [] (by decide)
      exact ⟨I_v, (.slice A_y m_z m_10), (.slice A_11 m_12 m_13), rfl, hp, r_r, r_x⟩
    ·
      have h := cond_f h hc
      apply go
      obtain ⟨y_15, q_16, h⟩ := bind_some h
      refine W.cut (γ := (Bool × (List Int) × Bool × (List Int) × Value × Value × (Nat → Prop))) (fun g => [(2, (.pointer (some ⟨g_6, 0, none⟩))), (3, (.pointer (some ⟨g_8, 0, none⟩))), (4, (.pointer (some ⟨g_a, 0, none⟩)))]) (fun g w' => y_15 = ((g.1), (g.2.1), (g.2.2.1), (g.2.2.2.1)) ∧ Hp ⟨w0, I0, []⟩ (g.2.2.2.2.2.2) [some (g_6, [(.bool (g.1)), (g.2.2.2.2.1)], 24), some (g_8, [(.bool (g.2.2.1)), (g.2.2.2.2.2.1)], 24), some (g_a, [(.bool false), (.slice none 0 0), (.bool false), (.slice none 0 0)], 26)] w' ∧ RepS (dI .u32) w' (g.2.2.2.2.2.2) (g.2.2.2.2.1) (g.2.1) ∧ RepS (dI .u32) w' (g.2.2.2.2.2.2) (g.2.2.2.2.2.1) (g.2.2.2.1)) ?_ ?_
      ·
        apply go
        apply go
        refine ev (rn_load rfl rfl (run_loadVarA T24 rfl (hp.at_ (i := 1) rfl))) ?_
        obtain ⟨x_17, q_18, q_16⟩ := bind_some q_16
        refine ev_call rfl rfl C73 (((ref01_Sign_ok n) _ _  (Int_2.mk x_3.Neg x_3.Mag) v_4 r_5 hp.imm _ q_18).mono ?_)
        rintro _ w_19 ⟨rfl, hc⟩
        have hs := hp.stp hc
        replace hp := hp.ext hc
        replace r_2 := r_2.step hs
        replace r_5 := r_5.step hs
        apply go
        refine sel_of (fun hc => ?_) (fun hc => ?_)
        ·
          have q_16 := cond_t q_16 hc
          apply go
          apply go
          refine ev (rn_load rfl rfl (run_loadVarA T24 rfl (hp.at_ (i := 0) rfl))) ?_
          obtain ⟨x_1a, q_1b, q_16⟩ := bind_some q_16
          refine ev_call rfl rfl C75 (((ref01_Neg_ok n) _ _  (Int_2.mk x_0.Neg x_0.Mag) v_1 r_2 hp.imm _ q_1b).mono ?_)
          rintro _ w_1c ⟨I_1d, v_1e, hv, hq, r_1f⟩
          replace hv := hv.symm
          subst hv
          have hs := hq.st
          have hp := hp.join0 hq
          replace r_2 := r_2.step hs
          replace r_5 := r_5.step hs
          refine ev_storeA hp (i := 0) (off := 0) (vs := [(.bool x_1a.Neg), v_1e]) rfl rfl rfl rfl T24 rfl (Nat.le_of_ble_eq_true rfl) (ones_cons rfl (ones_cons r_1f.one ones_nil)) ?_
          intro w_1g hp hs
          replace r_1f := r_1f.step hs
          replace r_5 := r_5.step hs
          apply go
          refine ev (rn_load rfl rfl (run_loadVarA T24 rfl (hp.at_ (i := 1) rfl))) ?_
          obtain ⟨x_1h, q_1i, q_16⟩ := bind_some q_16
          refine ev_call rfl rfl C75 (((ref01_Neg_ok n) _ _  (Int_2.mk x_3.Neg x_3.Mag) v_4 r_5 hp.imm _ q_1i).mono ?_)
          rintro _ w_1j ⟨I_1k, v_1l, hv, hq, r_1m⟩
          replace hv := hv.symm
          subst hv
          have hs := hq.st
          have hp := hp.join0 hq
          replace r_1f := r_1f.step hs
          replace r_5 := r_5.step hs
          refine ev_storeA hp (i := 1) (off := 0) (vs := [(.bool x_1h.Neg), v_1l]) rfl rfl rfl rfl T24 rfl (Nat.le_of_ble_eq_true rfl) (ones_cons rfl (ones_cons r_1m.one ones_nil)) ?_
          intro w_1n hp hs
          replace r_1f := r_1f.step hs
          replace r_1m := r_1m.step hs
          obtain rfl := Option.some.inj q_16
          exact ⟨(x_1a.Neg, x_1a.Mag, x_1h.Neg, x_1h.Mag, v_1e, v_1l, I_1k), (.c rfl (.c rfl (.c rfl .n))), rfl, hp, r_1f, r_1m⟩
        ·
          have q_16 := cond_f q_16 hc
          apply go
          obtain rfl := Option.some.inj q_16
          exact ⟨(x_0.Neg, x_0.Mag, x_3.Neg, x_3.Mag, v_1, v_4, I0), (.c rfl (.c rfl (.c rfl .n))), rfl, hp, r_2, r_5⟩
      ·
        rintro ⟨x_1o, x_1p, x_1q, x_1r, v_1s, v_1t, I_1u⟩ w_1v ⟨hy, hp, r_1w, r_1x⟩
        replace hy := hy.symm
        subst hy
        apply go
        apply go
        refine ev (rn_load rfl rfl (run_loadVarA T24 rfl (hp.at_ (i := 0) rfl))) ?_
        refine ev (rn_load rfl rfl (run_loadVarA T24 rfl (hp.at_ (i := 1) rfl))) ?_
        obtain ⟨x_1y, q_1z, h⟩ := bind_some h
        refine ev_call rfl rfl C76 (((ref01_Gcd_ok n) _ _  (Int_2.mk x_1o x_1p) v_1s r_1w (Int_2.mk x_1q x_1r) v_1t r_1x hp.imm _ q_1z).mono ?_)
        rintro _ w_20 ⟨I_21, v_22, hv, hq, r_23⟩
        replace hv := hv.symm
        subst hv
        have hs := hq.st
        have hp := hp.join0 hq
        replace r_1w := r_1w.step hs
        replace r_1x := r_1x.step hs
        refine ev_alloc hp rfl T24 ?_
        intro g_24 w_25 hp hs
        replace r_23 := r_23.step hs
        replace r_1w := r_1w.step hs
        replace r_1x := r_1x.step hs
        refine ev_storeA hp (i := 0) (off := 0) (vs := [(.bool x_1y.Neg), v_22]) rfl rfl rfl rfl T24 rfl (Nat.le_of_ble_eq_true rfl) (ones_cons rfl (ones_cons r_23.one ones_nil)) ?_
        intro w_26 hp hs
        replace r_23 := r_23.step hs
        replace r_1w := r_1w.step hs
        replace r_1x := r_1x.step hs
        apply go
        have hs := hp.stp (Ch.drew [] w_26)
        have hp := hp.drew
        replace r_23 := r_23.step hs
        replace r_1w := r_1w.step hs
        replace r_1x := r_1x.step hs
        refine W.held [(0, true), (1, true), (3, true), (4, true), (2, false), (5, false), (6, true), (7, false)] (fun x => Stp I_21 w_26.drew I_21 x ∧ OwnK [(g_6, [(.bool x_1o), v_1s], 24), (g_24, [(.bool x_1y.Neg), v_22], 24), (g_8, [(.bool x_1q), v_1t], 24)] x) MX (by kernel_rfl) ⟨Stp.refl _ _, (OwnK.cons (hp.own 1 _ _ _ rfl).1 (OwnK.cons (hp.own 0 _ _ _ rfl).1 (OwnK.cons (hp.own 2 _ _ _ rfl).1 OwnK.nil)))⟩ ?_
        have hz := Stp.refl I_21 w_26.drew
        refine evh (fun w' hw => rn_load rfl rfl (run_loadVarA T24 rfl (hw.2.at_ (i := 0) rfl))) ?_
        refine evh (fun w' hw => rn_load rfl rfl (run_loadVarA T24 rfl (hw.2.at_ (i := 1) rfl))) ?_
        refine evh (fun w' hw => rn_load rfl rfl (run_loadVarA T24 rfl (hw.2.at_ (i := 2) rfl))) ?_
        refine evh (fun w' hw => rn_load rfl rfl (run_loadVarA T24 rfl (hw.2.at_ (i := 1) rfl))) ?_
        obtain ⟨x_27, q_28, h⟩ := bind_some h
        refine ev_call rfl rfl C50 (((ref02_part_ok n) _ _  (Int_2.mk x_1o x_1p) v_1s r_1w (Int_2.mk x_1y.Neg x_1y.Mag) v_22 r_23 hp.imm _ q_28).mono ?_)
        rintro _ w_29 ⟨I_2a, v_2b, hv, hq, r_2c⟩
        replace hv := hv.symm
        subst hv
        have hs := hq.st
        have hp := hp.join0 hq
        replace hz := hz.trans hs
        replace r_1x := r_1x.step hs
        replace r_23 := r_23.step hs
        replace r_1w := r_1w.step hs
        refine ⟨fun x => Stp I_2a w_29 I_2a x ∧ OwnK [(g_6, [(.bool x_1o), v_1s], 24), (g_24, [(.bool x_1y.Neg), v_22], 24), (g_8, [(.bool x_1q), v_1t], 24)] x, ⟨Stp.refl _ _, (OwnK.cons (hp.own 1 _ _ _ rfl).1 (OwnK.cons (hp.own 0 _ _ _ rfl).1 (OwnK.cons (hp.own 2 _ _ _ rfl).1 OwnK.nil)))⟩, fun x hx => ⟨hz.held hx.1, hx.2⟩, ?_⟩
        have hz := Stp.refl I_2a w_29
        obtain ⟨x_2d, q_2e, h⟩ := bind_some h
        refine ev_call rfl rfl C50 (((ref02_part_ok n) _ _  (Int_2.mk x_1q x_1r) v_1t r_1x (Int_2.mk x_1y.Neg x_1y.Mag) v_22 r_23 hp.imm _ q_2e).mono ?_)
        rintro _ w_2f ⟨I_2g, v_2h, hv, hq, r_2i⟩
        replace hv := hv.symm
        subst hv
        have hs := hq.st
        have hp := hp.join0 hq
        replace hz := hz.trans hs
        replace r_2c := r_2c.step hs
        replace r_23 := r_23.step hs
        replace r_1w := r_1w.step hs
        replace r_1x := r_1x.step hs
        refine ⟨fun x => Stp I_2g w_2f I_2g x ∧ OwnK [(g_6, [(.bool x_1o), v_1s], 24), (g_24, [(.bool x_1y.Neg), v_22], 24), (g_8, [(.bool x_1q), v_1t], 24)] x, ⟨Stp.refl _ _, (OwnK.cons (hp.own 1 _ _ _ rfl).1 (OwnK.cons (hp.own 0 _ _ _ rfl).1 (OwnK.cons (hp.own 2 _ _ _ rfl).1 OwnK.nil)))⟩, fun x hx => ⟨hz.held hx.1, hx.2⟩, ?_⟩
        have hz := Stp.refl I_2g w_2f
        obtain ⟨A_2j, m_2k, m_2l, rfl⟩ := r_2c.isSl
        obtain ⟨A_2m, m_2n, m_2o, rfl⟩ := r_2i.isSl
        refine evh0 (fun w => rn_build (cs := [(.bool x_27.Neg), (.slice A_2j m_2k m_2l), (.bool x_2d.Neg), (.slice A_2m m_2n m_2o)]) rfl rfl T26 PL26 rfl) ?_
        refine ev_storeA hp (i := 3) (off := 0) (vs := [(.bool x_27.Neg), (.slice A_2j m_2k m_2l), (.bool x_2d.Neg), (.slice A_2m m_2n m_2o)]) rfl rfl rfl rfl T26 rfl (Nat.le_of_ble_eq_true rfl) (ones_cons rfl (ones_cons r_2c.one (ones_cons rfl (ones_cons r_2i.one ones_nil)))) ?_
        intro w_2p hp hs
        replace hz := hz.trans hs
        replace r_23 := r_23.step hs
        replace r_1w := r_1w.step hs
        replace r_1x := r_1x.step hs
        replace r_2c := r_2c.step hs
        replace r_2i := r_2i.step hs
        refine ⟨fun x => Stp I_2g w_2p I_2g x ∧ OwnK [(g_6, [(.bool x_1o), v_1s], 24), (g_24, [(.bool x_1y.Neg), v_22], 24), (g_8, [(.bool x_1q), v_1t], 24)] x, ⟨Stp.refl _ _, (OwnK.cons (hp.own 1 _ _ _ rfl).1 (OwnK.cons (hp.own 0 _ _ _ rfl).1 (OwnK.cons (hp.own 2 _ _ _ rfl).1 OwnK.nil)))⟩, fun x hx => ⟨hz.held hx.1, hx.2⟩, ?_⟩
        have hz := Stp.refl I_2g w_2p
        apply go
        obtain rfl := Option.some.inj h
        refine ⟨_, run_loadVarA T26 rfl (hp.at_ (i := 3) rfl), ?_⟩
        have hp := hp.sel [] (by decide)
        exact ⟨I_2g, (.slice A_2j m_2k m_2l), (.slice A_2m m_2n m_2o), rfl, hp, r_2c, r_2i⟩

end Go.Proofs.YtepadjfmcbjkmaaGreatDoor

namespace Go.Proofs.YtepadjfmcbjkmaaGreatDoor
open Go Go.Proofs.YtepadjfmcbjkmaaGreatDoor.Gw Go.RowKit
set_option linter.unusedVariables false
attribute [local irreducible] Ev EvQ EvS EvH
def ref02_Norm_S (f : Rational → Option Rational) : Prop := ∀ (w0 : World) (I0 : Nat → Prop) (x_0 : Rational) (v_1 : Value) (r_2 : RepS (dI .u32) w0 I0 v_1 x_0.Num.Mag) (v_3 : Value) (r_4 : RepS (dI .u32) w0 I0 v_3 x_0.Den.Mag) (hI : ∀ g, I0 g → g < w0.heap.size) (r : Rational), f x_0 = some r →
    Ret Tryz.prog 35 #[(.agg #[(.bool x_0.Num.Neg), v_1, (.bool x_0.Den.Neg), v_3])] w0 fun v w1 => ∃ (I1 : Nat → Prop) (u_5 : Value) (u_6 : Value), v = (.agg #[(.bool r.Num.Neg), u_5, (.bool r.Den.Neg), u_6]) ∧ Hp ⟨w0, I0, []⟩ I1 [] w1 ∧ RepS (dI .u32) w1 I1 u_5 r.Num.Mag ∧ RepS (dI .u32) w1 I1 u_6 r.Den.Mag
theorem ref02_Norm_ok (n : Nat) : ref02_Norm_S (ref02_Norm n) := by
  intro w0 I0 x_0 v_1 r_2 v_3 r_4 hI r h
  unfold ref02_Norm at h
  refine enter Tryz.func35 rfl (Nat.le_of_ble_eq_true rfl) ?_
  have hp : Hp ⟨w0, I0, []⟩ I0 [] w0 := Hp.start hI
  apply go
  apply go
  refine ev_boxI hp rfl rfl ?_
  intro p_5 I_6 w_7 hp hs a_8
  replace r_2 := r_2.step hs
  replace r_4 := r_4.step hs
  refine ev_alloc hp rfl T26 ?_
  intro g_9 w_a hp hs
  replace a_8 := a_8.step hs
  replace r_2 := r_2.step hs
  replace r_4 := r_4.step hs
  apply go
  apply go
  refine ev0 (rn_field rfl rfl FO26_0) ?_
  refine ev (rn_load rfl rfl (run_loadVarA T24 rfl ((a_8.drop 0).take 2))) ?_
  refine ev0 (rn_field rfl rfl FO26_1) ?_
  refine ev (rn_load rfl rfl (run_loadVarA T24 rfl ((a_8.drop 2).take 2))) ?_
  obtain ⟨x_b, q_c, h⟩ := bind_some h
  refine ev_call rfl rfl C41 (((ref02_New_ok n) _ _  (Int_2.mk x_0.Num.Neg x_0.Num.Mag) v_1 r_2 (Int_2.mk x_0.Den.Neg x_0.Den.Mag) v_3 r_4 hp.imm _ q_c).mono ?_)
  rintro _ w_d ⟨I_e, v_f, v_g, hv, hq, r_h, r_i⟩
  replace hv := hv.symm
  subst hv
  have hs := hq.st
  have hp := hp.join0 hq
  refine ev_storeA hp (i := 0) (off := 0) (vs := [(.bool x_b.Num.Neg), v_f, (.bool x_b.Den.Neg), v_g]) rfl rfl rfl rfl T26 rfl (Nat.le_of_ble_eq_true rfl) (ones_cons rfl (ones_cons r_h.one (ones_cons rfl (ones_cons r_i.one ones_nil)))) ?_
  intro w_j hp hs
  replace r_h := r_h.step hs
  replace r_i := r_i.step hs
  apply go
  obtain rfl := Option.some.inj h
  refine ⟨_, run_loadVarA T26 rfl (hp.at_ (i := 0) rfl), ?_⟩
  have hp := hp.sel [] (by decide)
  exact ⟨I_e, v_f, v_g, rfl, hp, r_h, r_i⟩

end Go.Proofs.YtepadjfmcbjkmaaGreatDoor

namespace Go.Proofs.YtepadjfmcbjkmaaGreatDoor
open Go Go.Proofs.YtepadjfmcbjkmaaGreatDoor.Gw Go.RowKit
set_option linter.unusedVariables false
attribute [local irreducible] Ev EvQ EvS EvH
def ref02_Sign_S (f : Rational → Option Int) : Prop := ∀ (w0 : World) (I0 : Nat → Prop) (x_0 : Rational) (v_1 : Value) (r_2 : RepS (dI .u32) w0 I0 v_1 x_0.Num.Mag) (v_3 : Value) (r_4 : RepS (dI .u32) w0 I0 v_3 x_0.Den.Mag) (hI : ∀ g, I0 g → g < w0.heap.size) (r : Int), f x_0 = some r →
    Ret Tryz.prog 40 #[(.agg #[(.bool x_0.Num.Neg), v_1, (.bool x_0.Den.Neg), v_3])] w0 fun v w1 => v = (.int .i64 r) ∧ Ch [] w0 w1
theorem ref02_Sign_ok (n : Nat) : ref02_Sign_S (ref02_Sign n) := by
  intro w0 I0 x_0 v_1 r_2 v_3 r_4 hI r h
  unfold ref02_Sign at h
  refine enter Tryz.func40 rfl (Nat.le_of_ble_eq_true rfl) ?_
  have hp : Hp ⟨w0, I0, []⟩ I0 [] w0 := Hp.start hI
  apply go
  apply go
  refine ev_boxI hp rfl rfl ?_
  intro p_5 I_6 w_7 hp hs a_8
  replace r_2 := r_2.step hs
  replace r_4 := r_4.step hs
  apply go
  apply go
  refine ev (rn_load rfl rfl (run_loadVarA T26 rfl a_8)) ?_
  obtain ⟨x_9, q_a, h⟩ := bind_some h
  refine ev_call rfl rfl C35 (((ref02_Norm_ok n) _ _  (Rational.mk (Int_2.mk x_0.Num.Neg x_0.Num.Mag) (Int_2.mk x_0.Den.Neg x_0.Den.Mag)) v_1 r_2 v_3 r_4 hp.imm _ q_a).mono ?_)
  rintro _ w_b ⟨I_c, v_d, v_e, hv, hq, r_f, r_g⟩
  replace hv := hv.symm
  subst hv
  have hs := hq.st
  have hp := hp.join0 hq
  refine ev0 (rn_fieldV (off := 0) (size := 2) rfl rfl (by unfold FT; kernel_rfl) T24) ?_
  obtain ⟨x_h, q_i, h⟩ := bind_some h
  refine ev_call rfl rfl C73 (((ref01_Sign_ok n) _ _  (Int_2.mk x_9.Num.Neg x_9.Num.Mag) v_d r_f hp.imm _ q_i).mono ?_)
  rintro _ w_j ⟨rfl, hc⟩
  have hs := hp.stp hc
  replace hp := hp.ext hc
  apply go
  obtain rfl := Option.some.inj h
  exact ⟨rfl, hp.ch⟩

end Go.Proofs.YtepadjfmcbjkmaaGreatDoor

namespace Go.Proofs.YtepadjfmcbjkmaaGreatDoor
open Go Go.Proofs.YtepadjfmcbjkmaaGreatDoor.Gw Go.RowKit
set_option linter.unusedVariables false
attribute [local irreducible] Ev EvQ EvS EvH
def ref01_Mul_S (f : Int_2 → Int_2 → Option Int_2) : Prop := ∀ (w0 : World) (I0 : Nat → Prop) (x_0 : Int_2) (v_1 : Value) (r_2 : RepS (dI .u32) w0 I0 v_1 x_0.Mag) (x_3 : Int_2) (v_4 : Value) (r_5 : RepS (dI .u32) w0 I0 v_4 x_3.Mag) (hI : ∀ g, I0 g → g < w0.heap.size) (r : Int_2), f x_0 x_3 = some r →
    Ret Tryz.prog 42 #[(.agg #[(.bool x_0.Neg), v_1]), (.agg #[(.bool x_3.Neg), v_4])] w0 fun v w1 => ∃ (I1 : Nat → Prop) (u_6 : Value), v = (.agg #[(.bool r.Neg), u_6]) ∧ Hp ⟨w0, I0, []⟩ I1 [] w1 ∧ RepS (dI .u32) w1 I1 u_6 r.Mag
theorem ref01_Mul_ok (n : Nat) : ref01_Mul_S (ref01_Mul n) := by
  intro w0 I0 x_0 v_1 r_2 x_3 v_4 r_5 hI r h
  unfold ref01_Mul at h
  refine enter Tryz.func42 rfl (Nat.le_of_ble_eq_true rfl) ?_
  have hp : Hp ⟨w0, I0, []⟩ I0 [] w0 := Hp.start hI
  apply go
  apply go
  refine ev_boxI hp rfl rfl ?_
  intro p_6 I_7 w_8 hp hs a_9
  replace r_5 := r_5.step hs
  replace r_2 := r_2.step hs
  refine ev_boxI hp rfl rfl ?_
  intro p_a I_b w_c hp hs a_d
  replace a_9 := a_9.step hs
  replace r_2 := r_2.step hs
  replace r_5 := r_5.step hs
  refine ev_alloc hp rfl T24 ?_
  intro g_e w_f hp hs
  replace a_9 := a_9.step hs
  replace r_2 := r_2.step hs
  replace a_d := a_d.step hs
  replace r_5 := r_5.step hs
  apply go
  apply go
  refine ev0 (rn_field rfl rfl FO24_1) ?_
  refine ev (rn_load rfl rfl (run_loadVar1 T22 (a_9.2 1 _ rfl))) ?_
  refine ev0 (rn_len rfl rfl Tryz.underlying22 r_2) ?_
  refine ev0 (rn_field rfl rfl FO24_1) ?_
  refine ev (rn_load rfl rfl (run_loadVar1 T22 (a_d.2 1 _ rfl))) ?_
  refine ev0 (rn_len rfl rfl Tryz.underlying22 r_5) ?_
  obtain ⟨x_g, q_h, h⟩ := bind_some h
  refine ev_make (d := (dI .u32)) (x0 := 0) hp rfl rfl rfl Tryz.underlying22 T46 (fun _ _ => rfl) (Nat.le_of_ble_eq_true rfl) q_h ?_
  intro v_i e_j w_k hp hs o_l
  replace a_9 := a_9.step hs
  replace r_2 := r_2.step hs
  replace a_d := a_d.step hs
  replace r_5 := r_5.step hs
  obtain ⟨y_m, q_n, h⟩ := bind_some h
  refine W.cut (γ := ((List Int) × Ent)) (fun g => [(2, (.pointer (some (p_6)))), (3, (.pointer (some (p_a)))), (4, (.pointer (some ⟨g_e, 0, none⟩))), (5, v_i)]) (fun g w' => y_m = (g.1) ∧ Hp ⟨w0, I0, []⟩ I_b [some (g_e, [(.bool false), (.slice none 0 0)], 24), (g.2)] w' ∧ RepS (dI .u32) w' I_b v_1 x_0.Mag ∧ At w' I_b p_6 [(.bool x_0.Neg), v_1] ∧ RepS (dI .u32) w' I_b v_4 x_3.Mag ∧ At w' I_b p_a [(.bool x_3.Neg), v_4] ∧ OwnS (dI .u32) 46 w' I_b v_i (g.2) (g.1)) ?_ ?_
  ·
    apply go
    apply go
    apply go
    have hp := hp.perm [1, 0] (by decide)
    refine W.loop q_n (γ := Ent) (fun s g => [(2, (.pointer (some (p_6)))), (3, (.pointer (some (p_a)))), (4, (.pointer (some ⟨g_e, 0, none⟩))), (5, v_i), (6, (.int .i64 (s.2)))]) (fun s g w' => Hp ⟨w0, I0, []⟩ I_b [some (g_e, [(.bool false), (.slice none 0 0)], 24), (g)] w' ∧ RepS (dI .u32) w' I_b v_1 x_0.Mag ∧ At w' I_b p_6 [(.bool x_0.Neg), v_1] ∧ RepS (dI .u32) w' I_b v_4 x_3.Mag ∧ At w' I_b p_a [(.bool x_3.Neg), v_4] ∧ OwnS (dI .u32) 46 w' I_b v_i (g) (s.1)) e_j (.c rfl (.c rfl (.c rfl (.c rfl (.c rfl .n))))) ⟨hp, r_2, a_9, r_5, a_d, o_l⟩ ?_
    rintro ⟨x_o, x_p⟩ e_q w_r y_s ⟨hp, r_2, a_9, r_5, a_d, o_t⟩ q_u q_v
    unfold ref01_Mul_L11 at q_u
    apply go
    apply go
    apply go
    refine ev0 (rn_field rfl rfl FO24_1) ?_
    refine ev (rn_load rfl rfl (run_loadVar1 T22 (a_9.2 1 _ rfl))) ?_
    refine ev0 (rn_len rfl rfl Tryz.underlying22 r_2) ?_
    apply go
    refine sel_of (fun hc => ?_) (fun hc => ?_)
    ·
      have q_u := cond_t q_u hc
      apply go
      obtain ⟨y_w, q_x, q_u⟩ := bind_some q_u
      refine W.cut (γ := ((List Int) × Ent)) (fun g => [(2, (.pointer (some (p_6)))), (3, (.pointer (some (p_a)))), (4, (.pointer (some ⟨g_e, 0, none⟩))), (5, v_i), (6, (.int .i64 x_p))]) (fun g w' => y_w = (g.1) ∧ Hp ⟨w0, I0, []⟩ I_b [some (g_e, [(.bool false), (.slice none 0 0)], 24), (g.2)] w' ∧ RepS (dI .u32) w' I_b v_1 x_0.Mag ∧ At w' I_b p_6 [(.bool x_0.Neg), v_1] ∧ RepS (dI .u32) w' I_b v_4 x_3.Mag ∧ At w' I_b p_a [(.bool x_3.Neg), v_4] ∧ OwnS (dI .u32) 46 w' I_b v_i (g.2) (g.1)) ?_ ?_
      ·
        apply go
        apply go
        apply go
        apply go
        apply go
        apply go
        refine W.loop q_x (γ := Ent) (fun s g => [(2, (.pointer (some (p_6)))), (3, (.pointer (some (p_a)))), (4, (.pointer (some ⟨g_e, 0, none⟩))), (5, v_i), (6, (.int .i64 x_p)), (7, (.int .u64 (s.2.1))), (8, (.int .i64 (s.2.2)))]) (fun s g w' => Hp ⟨w0, I0, []⟩ I_b [some (g_e, [(.bool false), (.slice none 0 0)], 24), (g)] w' ∧ RepS (dI .u32) w' I_b v_1 x_0.Mag ∧ At w' I_b p_6 [(.bool x_0.Neg), v_1] ∧ RepS (dI .u32) w' I_b v_4 x_3.Mag ∧ At w' I_b p_a [(.bool x_3.Neg), v_4] ∧ OwnS (dI .u32) 46 w' I_b v_i (g) (s.1)) e_q (.c rfl (.c rfl (.c rfl (.c rfl (.c rfl (.c rfl (.c rfl .n))))))) ⟨hp, r_2, a_9, r_5, a_d, o_t⟩ ?_
        rintro ⟨x_y, x_z, x_10⟩ e_11 w_12 y_13 ⟨hp, r_2, a_9, r_5, a_d, o_14⟩ q_15 q_16
        unfold ref01_Mul_L13 at q_15
        apply go
        obtain ⟨y_17, q_18, q_15⟩ := bind_some q_15
        refine W.cut (γ := Bool) (fun g => [(2, (.pointer (some (p_6)))), (3, (.pointer (some (p_a)))), (4, (.pointer (some ⟨g_e, 0, none⟩))), (5, v_i), (6, (.int .i64 x_p)), (7, (.int .u64 x_z)), (8, (.int .i64 x_10)), (34, (.bool (g)))]) (fun g w' => y_17 = (g) ∧ w_12 = w') ?_ ?_
        ·
          apply go
          refine ev0 (rn_field rfl rfl FO24_1) ?_
          refine ev (rn_load rfl rfl (run_loadVar1 T22 (a_d.2 1 _ rfl))) ?_
          refine ev0 (rn_len rfl rfl Tryz.underlying22 r_5) ?_
          refine sel_of (fun hc => ?_) (fun hc => ?_)
          ·
            have q_18 := cond_t q_18 hc
            obtain rfl := Option.some.inj q_18
            exact ⟨true, (.c rfl (.c rfl (.c rfl (.c rfl (.c rfl (.c rfl (.c rfl (.c rfl .n)))))))), rfl, rfl⟩
          ·
            have q_18 := cond_f q_18 hc
            obtain rfl := Option.some.inj q_18
            exact ⟨(decide (x_z > 0)), (.c rfl (.c rfl (.c rfl (.c rfl (.c rfl (.c rfl (.c rfl (.c rfl .n)))))))), rfl, rfl⟩
        ·
          rintro x_19 _ ⟨hy, rfl⟩
          replace hy := hy.symm
          subst hy
          apply go
          refine sel_of (fun hc => ?_) (fun hc => ?_)
          ·
            have q_15 := cond_t q_15 hc
            apply go
            apply go
            apply go
            apply go
            apply go
            obtain ⟨x_1a, q_1b, q_15⟩ := bind_some q_15
            refine ev_indexO rfl rfl rfl Tryz.underlying22 T46 o_14 q_1b ?_
            intro g_1c c_1d h_1e d_1f l_1g
            refine ev (rn_load rfl rfl (run_loadVar1 T46 (hp.cellE (i := 1) rfl h_1e d_1f (j := 0) rfl))) ?_
            refine ev0 (rn_conv rfl rfl U46 Tryz.underlying75) ?_
            obtain ⟨y_1h, q_1i, q_15⟩ := bind_some q_15
            refine W.cut (γ := Int) (fun g => [(2, (.pointer (some (p_6)))), (3, (.pointer (some (p_a)))), (4, (.pointer (some ⟨g_e, 0, none⟩))), (5, v_i), (6, (.int .i64 x_p)), (8, (.int .i64 x_10)), (9, (.int .u64 (g)))]) (fun g w' => y_1h = (g) ∧ Hp ⟨w0, I0, []⟩ I_b [some (g_e, [(.bool false), (.slice none 0 0)], 24), e_11] w' ∧ RepS (dI .u32) w' I_b v_1 x_0.Mag ∧ At w' I_b p_6 [(.bool x_0.Neg), v_1] ∧ RepS (dI .u32) w' I_b v_4 x_3.Mag ∧ At w' I_b p_a [(.bool x_3.Neg), v_4] ∧ OwnS (dI .u32) 46 w' I_b v_i e_11 x_y) ?_ ?_
            ·
              apply go
              apply go
              refine ev0 (rn_field rfl rfl FO24_1) ?_
              refine ev (rn_load rfl rfl (run_loadVar1 T22 (a_d.2 1 _ rfl))) ?_
              refine ev0 (rn_len rfl rfl Tryz.underlying22 r_5) ?_
              apply go
              refine sel_of (fun hc => ?_) (fun hc => ?_)
              ·
                have q_1i := cond_t q_1i hc
                refine W.quiet (fun w' => Ch [] w_12 w') MX (by kernel_rfl) (Ch.drew [] w_12) ?_
                refine evq0 (rn_field rfl rfl FO24_1) ?_
                refine evq (fun w' hw => rn_load rfl rfl (run_loadVar1 T22 ((a_9.step (hp.stp hw)).2 1 _ rfl))) ?_
                obtain ⟨x_1j, q_1k, q_1i⟩ := bind_some q_1i
                refine evq_index rfl rfl rfl Tryz.underlying22 T46 r_2 q_1k ?_
                intro p_1l c_1m d_1n a_1o
                obtain rfl : c_1m = [(.int .u32 x_1j)] := d_1n
                refine evq (fun w' hw => rn_load rfl rfl (run_loadVar1 T46 ((a_1o.step (hp.stp hw)).2 0 _ rfl))) ?_
                refine evq0 (rn_conv rfl rfl U46 Tryz.underlying75) ?_
                refine evq0 (rn_field rfl rfl FO24_1) ?_
                refine evq (fun w' hw => rn_load rfl rfl (run_loadVar1 T22 ((a_d.step (hp.stp hw)).2 1 _ rfl))) ?_
                obtain ⟨x_1p, q_1q, q_1i⟩ := bind_some q_1i
                refine evq_index rfl rfl rfl Tryz.underlying22 T46 r_5 q_1q ?_
                intro p_1r c_1s d_1t a_1u
                obtain rfl : c_1s = [(.int .u32 x_1p)] := d_1t
                refine evq (fun w' hw => rn_load rfl rfl (run_loadVar1 T46 ((a_1u.step (hp.stp hw)).2 0 _ rfl))) ?_
                refine evq0 (rn_conv rfl rfl U46 Tryz.underlying75) ?_
                intro w_1v hc
                have hs := hp.stp hc
                replace hp := hp.ext hc
                replace a_9 := a_9.step hs
                replace r_2 := r_2.step hs
                replace a_d := a_d.step hs
                replace r_5 := r_5.step hs
                replace o_14 := o_14.step hs
                obtain rfl := Option.some.inj q_1i
                exact ⟨(IntKind.u64.wrap ((IntKind.u64.wrap ((IntKind.u64.wrap x_1a) + x_z)) + (IntKind.u64.wrap ((IntKind.u64.wrap x_1j) * (IntKind.u64.wrap x_1p))))), (.c rfl (.c rfl (.c rfl (.c rfl (.c rfl (.c rfl (.c rfl .n))))))), rfl, hp, r_2, a_9, r_5, a_d, o_14⟩
              ·
                have q_1i := cond_f q_1i hc
                apply go
                obtain rfl := Option.some.inj q_1i
                exact ⟨(IntKind.u64.wrap ((IntKind.u64.wrap x_1a) + x_z)), (.c rfl (.c rfl (.c rfl (.c rfl (.c rfl (.c rfl (.c rfl .n))))))), rfl, hp, r_2, a_9, r_5, a_d, o_14⟩
            ·
              rintro x_1w w_1x ⟨hy, hp, r_2, a_9, r_5, a_d, o_14⟩
              replace hy := hy.symm
              subst hy
              apply go
              apply go
              refine ev0 (rn_conv rfl rfl U75 Tryz.underlying46) ?_
              obtain ⟨x_1y, q_1z, q_15⟩ := bind_some q_15
              refine ev_indexO rfl rfl rfl Tryz.underlying22 T46 o_14 q_1z ?_
              intro g_20 c_21 h_22 d_23 l_24
              refine ev_storeE hp (i := 1) rfl h_22 rfl rfl rfl T46 o_14 q_1z (x0 := (IntKind.u32.wrap x_1w)) rfl ?_
              intro e_25 w_26 hp hs o_27
              replace a_9 := a_9.step hs
              replace r_2 := r_2.step hs
              replace a_d := a_d.step hs
              replace r_5 := r_5.step hs
              apply go
              refine ⟨by decide, ?_⟩
              apply go
              exact ⟨_, (Option.some.inj q_15).symm, e_25, (.c rfl (.c rfl (.c rfl (.c rfl (.c rfl (.c rfl (.c rfl .n))))))), ⟨hp, r_2, a_9, r_5, a_d, o_27⟩⟩
          ·
            have q_15 := cond_f q_15 hc
            apply go
            have q_28 := congrArg some (q_16 _ (Option.some.inj q_15).symm)
            obtain rfl := Option.some.inj q_28
            exact ⟨(x_y, e_11), (.c rfl (.c rfl (.c rfl (.c rfl (.c rfl .n))))), rfl, hp, r_2, a_9, r_5, a_d, o_14⟩
      ·
        rintro ⟨x_29, e_2a⟩ w_2b ⟨hy, hp, r_2, a_9, r_5, a_d, o_2c⟩
        replace hy := hy.symm
        subst hy
        apply go
        exact ⟨_, (Option.some.inj q_u).symm, e_2a, (.c rfl (.c rfl (.c rfl (.c rfl (.c rfl .n))))), ⟨hp, r_2, a_9, r_5, a_d, o_2c⟩⟩
    ·
      have q_u := cond_f q_u hc
      apply go
      have q_2d := congrArg some (q_v _ (Option.some.inj q_u).symm)
      obtain rfl := Option.some.inj q_2d
      exact ⟨(x_o, e_q), (.c rfl (.c rfl (.c rfl (.c rfl .n)))), rfl, hp, r_2, a_9, r_5, a_d, o_t⟩
  ·
    rintro ⟨x_2e, e_2f⟩ w_2g ⟨hy, hp, r_2, a_9, r_5, a_d, o_2h⟩
    replace hy := hy.symm
    subst hy
    apply go
    apply go
    refine ev0 (rn_field rfl rfl FO24_0) ?_
    refine ev (rn_load rfl rfl (run_loadVar1 T4 (a_9.2 0 _ rfl))) ?_
    refine ev0 (rn_field rfl rfl FO24_0) ?_
    refine ev (rn_load rfl rfl (run_loadVar1 T4 (a_d.2 0 _ rfl))) ?_
    refine ev0 (rn_neB rfl rfl rfl Tryz.underlying4) ?_
    obtain ⟨A_2i, m_2j, m_2k, rfl⟩ := o_2h.isSl
    refine ev0 (fun w => rn_build (cs := [(.bool (!(x_0.Neg == x_3.Neg))), (.slice A_2i m_2j m_2k)]) rfl rfl T24 PL24 rfl) ?_
    have r_2l := o_2h.frz hp (i := 1) rfl
    obtain ⟨hp, hs⟩ := freeze_hp hp (i := 1) rfl
    have hp := hp.sel [0] (by decide)
    obtain ⟨x_2m, q_2n, h⟩ := bind_some h
    refine ev_call rfl rfl C77 (((ref01_Norm_ok n) _ _  (Int_2.mk (!(x_0.Neg == x_3.Neg)) x_2e) (.slice A_2i m_2j m_2k) r_2l hp.imm _ q_2n).mono ?_)
    rintro _ w_2o ⟨I_2p, v_2q, hv, hq, r_2r⟩
    replace hv := hv.symm
    subst hv
    have hs := hq.st
    have hp := hp.join0 hq
    refine ev_storeA hp (i := 0) (off := 0) (vs := [(.bool x_2m.Neg), v_2q]) rfl rfl rfl rfl T24 rfl (Nat.le_of_ble_eq_true rfl) (ones_cons rfl (ones_cons r_2r.one ones_nil)) ?_
    intro w_2s hp hs
    replace r_2r := r_2r.step hs
    apply go
    obtain rfl := Option.some.inj h
    refine ⟨_, run_loadVarA T24 rfl (hp.at_ (i := 0) rfl), ?_⟩
    have hp := hp.sel [] (by decide)
    exact ⟨I_2p, v_2q, rfl, hp, r_2r⟩

end Go.Proofs.YtepadjfmcbjkmaaGreatDoor

namespace Go.Proofs.YtepadjfmcbjkmaaGreatDoor
open Go Go.Proofs.YtepadjfmcbjkmaaGreatDoor.Gw Go.RowKit
set_option linter.unusedVariables false
attribute [local irreducible] Ev EvQ EvS EvH vch
def ref02_Add_S (f : Rational → Rational → Option Rational) : Prop := ∀ (w0 : World) (I0 : Nat → Prop) (x_0 : Rational) (v_1 : Value) (r_2 : RepS (dI .u32) w0 I0 v_1 x_0.Num.Mag) (v_3 : Value) (r_4 : RepS (dI .u32) w0 I0 v_3 x_0.Den.Mag) (x_5 : Rational) (v_6 : Value) (r_7 : RepS (dI .u32) w0 I0 v_6 x_5.Num.Mag) (v_8 : Value) (r_9 : RepS (dI .u32) w0 I0 v_8 x_5.Den.Mag) (hI : ∀ g, I0 g → g < w0.heap.size) (r : Rational), f x_0 x_5 = some r →
    Ret Tryz.prog 53 #[(.agg #[(.bool x_0.Num.Neg), v_1, (.bool x_0.Den.Neg), v_3]), (.agg #[(.bool x_5.Num.Neg), v_6, (.bool x_5.Den.Neg), v_8])] w0 fun v w1 => ∃ (I1 : Nat → Prop) (u_a : Value) (u_b : Value), v = (.agg #[(.bool r.Num.Neg), u_a, (.bool r.Den.Neg), u_b]) ∧ Hp ⟨w0, I0, []⟩ I1 [] w1 ∧ RepS (dI .u32) w1 I1 u_a r.Num.Mag ∧ RepS (dI .u32) w1 I1 u_b r.Den.Mag
theorem ref02_Add_ok (n : Nat) : ref02_Add_S (ref02_Add n) := by
  intro w0 I0 x_0 v_1 r_2 v_3 r_4 x_5 v_6 r_7 v_8 r_9 hI r h
  unfold ref02_Add at h
  refine enter Tryz.func53 rfl (Nat.le_of_ble_eq_true rfl) ?_
  have hp : Hp ⟨w0, I0, []⟩ I0 [] w0 := Hp.start hI
  apply go
  apply go
  refine ev_boxI hp rfl rfl ?_
  intro p_a I_b w_c hp hs a_d
  replace r_7 := r_7.step hs
  replace r_9 := r_9.step hs
  replace r_2 := r_2.step hs
  replace r_4 := r_4.step hs
  refine ev_boxI hp rfl rfl ?_
  intro p_e I_f w_g hp hs a_h
  replace a_d := a_d.step hs
  replace r_2 := r_2.step hs
  replace r_4 := r_4.step hs
  replace r_7 := r_7.step hs
  replace r_9 := r_9.step hs
  refine ev_alloc hp rfl T26 ?_
  intro g_i w_j hp hs
  replace a_d := a_d.step hs
  replace r_2 := r_2.step hs
  replace r_4 := r_4.step hs
  replace a_h := a_h.step hs
  replace r_7 := r_7.step hs
  replace r_9 := r_9.step hs
  apply go
  apply go
  refine ev (rn_load rfl rfl (run_loadVarA T26 rfl a_d)) ?_
  obtain ⟨x_k, q_l, h⟩ := bind_some h
  refine ev_call rfl rfl C35 (((ref02_Norm_ok n) _ _  (Rational.mk (Int_2.mk x_0.Num.Neg x_0.Num.Mag) (Int_2.mk x_0.Den.Neg x_0.Den.Mag)) v_1 r_2 v_3 r_4 hp.imm _ q_l).mono ?_)
  rintro _ w_m ⟨I_n, v_o, v_p, hv, hq, r_q, r_r⟩
  replace hv := hv.symm
  subst hv
  have hs := hq.st
  have hp := hp.join0 hq
  replace a_h := a_h.step hs
  replace r_7 := r_7.step hs
  replace r_9 := r_9.step hs
  refine ev_alloc hp rfl T26 ?_
  intro g_s w_t hp hs
  replace a_h := a_h.step hs
  replace r_7 := r_7.step hs
  replace r_9 := r_9.step hs
  replace r_q := r_q.step hs
  replace r_r := r_r.step hs
  refine ev_storeA hp (i := 0) (off := 0) (vs := [(.bool x_k.Num.Neg), v_o, (.bool x_k.Den.Neg), v_p]) rfl rfl rfl rfl T26 rfl (Nat.le_of_ble_eq_true rfl) (ones_cons rfl (ones_cons r_q.one (ones_cons rfl (ones_cons r_r.one ones_nil)))) ?_
  intro w_u hp hs
  replace a_h := a_h.step hs
  replace r_7 := r_7.step hs
  replace r_9 := r_9.step hs
  replace r_q := r_q.step hs
  replace r_r := r_r.step hs
  apply go
  apply go
  refine ev (rn_load rfl rfl (run_loadVarA T26 rfl a_h)) ?_
  obtain ⟨x_v, q_w, h⟩ := bind_some h
  refine ev_call rfl rfl C35 (((ref02_Norm_ok n) _ _  (Rational.mk (Int_2.mk x_5.Num.Neg x_5.Num.Mag) (Int_2.mk x_5.Den.Neg x_5.Den.Mag)) v_6 r_7 v_8 r_9 hp.imm _ q_w).mono ?_)
  rintro _ w_x ⟨I_y, v_z, v_10, hv, hq, r_11, r_12⟩
  replace hv := hv.symm
  subst hv
  have hs := hq.st
  have hp := hp.join0 hq
  replace r_q := r_q.step hs
  replace r_r := r_r.step hs
  refine ev_alloc hp rfl T26 ?_
  intro g_13 w_14 hp hs
  replace r_11 := r_11.step hs
  replace r_12 := r_12.step hs
  replace r_q := r_q.step hs
  replace r_r := r_r.step hs
  refine ev_storeA hp (i := 0) (off := 0) (vs := [(.bool x_v.Num.Neg), v_z, (.bool x_v.Den.Neg), v_10]) rfl rfl rfl rfl T26 rfl (Nat.le_of_ble_eq_true rfl) (ones_cons rfl (ones_cons r_11.one (ones_cons rfl (ones_cons r_12.one ones_nil)))) ?_
  intro w_15 hp hs
  replace r_11 := r_11.step hs
  replace r_12 := r_12.step hs
  replace r_q := r_q.step hs
  replace r_r := r_r.step hs
  apply go
  have hs := hp.stp (Ch.drew [] w_15)
  have hp := hp.drew
  replace r_11 := r_11.step hs
  replace r_12 := r_12.step hs
  replace r_q := r_q.step hs
  replace r_r := r_r.step hs
  refine W.heldT [(0, true), (1, true), (2, true), (3, true), (5, true), (6, true), (7, true), (8, true), (11, true), (12, true), (13, true), (14, true), (4, false), (9, false), (10, false), (15, false), (16, false), (17, false)] (fun x => Stp I_y w_15.drew I_y x ∧ OwnK [(g_s, [(.bool x_k.Num.Neg), v_o, (.bool x_k.Den.Neg), v_p], 26), (g_13, [(.bool x_v.Num.Neg), v_z, (.bool x_v.Den.Neg), v_10], 26)] x) MX (by kernel_rfl) ⟨Stp.refl _ _, (OwnK.cons (hp.own 1 _ _ _ rfl).1 (OwnK.cons (hp.own 0 _ _ _ rfl).1 OwnK.nil))⟩ ?_
  have hz := Stp.refl I_y w_15.drew
  intro ops hops
  have e0 : nthO ops 0 = some _ := (hops 0).trans rfl
  have e1 : nthO ops 1 = some _ := (hops 1).trans rfl
  have e2 : nthO ops 2 = some _ := (hops 2).trans rfl
  have e3 : nthO ops 3 = some _ := (hops 3).trans rfl
  have e4 : nthO ops 4 = some _ := (hops 4).trans rfl
  have e5 : nthO ops 5 = some _ := (hops 5).trans rfl
  have e6 : nthO ops 6 = some _ := (hops 6).trans rfl
  have e7 : nthO ops 7 = some _ := (hops 7).trans rfl
  have e8 : nthO ops 8 = some _ := (hops 8).trans rfl
  have e9 : nthO ops 9 = some _ := (hops 9).trans rfl
  have e10 : nthO ops 10 = some _ := (hops 10).trans rfl
  have e11 : nthO ops 11 = some _ := (hops 11).trans rfl
  have e12 : nthO ops 12 = some _ := (hops 12).trans rfl
  have e13 : nthO ops 13 = some _ := (hops 13).trans rfl
  have e14 : nthO ops 14 = some _ := (hops 14).trans rfl
  have e15 : nthO ops 15 = some _ := (hops 15).trans rfl
  have e16 : nthO ops 16 = some _ := (hops 16).trans rfl
  have e17 : nthO ops 17 = some _ := (hops 17).trans rfl
  clear hops
  refine vch_q e0 rfl ?_
  refine evh0 (rn_field rfl rfl FO26_0) ?_
  refine vch_q e1 rfl ?_
  refine evh (fun w' hw => rn_load rfl rfl (run_loadVarA T24 rfl (((hw.2.at_ (i := 0) rfl).drop 0).take 2))) ?_
  refine vch_q e2 rfl ?_
  refine evh0 (rn_field rfl rfl FO26_1) ?_
  refine vch_q e3 rfl ?_
  refine evh (fun w' hw => rn_load rfl rfl (run_loadVarA T24 rfl (((hw.2.at_ (i := 1) rfl).drop 2).take 2))) ?_
  refine vch_q e5 rfl ?_
  refine evh0 (rn_field rfl rfl FO26_0) ?_
  refine vch_q e6 rfl ?_
  refine evh (fun w' hw => rn_load rfl rfl (run_loadVarA T24 rfl (((hw.2.at_ (i := 1) rfl).drop 0).take 2))) ?_
  refine vch_q e7 rfl ?_
  refine evh0 (rn_field rfl rfl FO26_1) ?_
  refine vch_q e8 rfl ?_
  refine evh (fun w' hw => rn_load rfl rfl (run_loadVarA T24 rfl (((hw.2.at_ (i := 0) rfl).drop 2).take 2))) ?_
  refine vch_q e11 rfl ?_
  refine evh0 (rn_field rfl rfl FO26_1) ?_
  refine vch_q e12 rfl ?_
  refine evh (fun w' hw => rn_load rfl rfl (run_loadVarA T24 rfl (((hw.2.at_ (i := 0) rfl).drop 2).take 2))) ?_
  refine vch_q e13 rfl ?_
  refine evh0 (rn_field rfl rfl FO26_1) ?_
  refine vch_q e14 rfl ?_
  refine evh (fun w' hw => rn_load rfl rfl (run_loadVarA T24 rfl (((hw.2.at_ (i := 1) rfl).drop 2).take 2))) ?_
  refine vch_l e4 rfl ?_
  obtain ⟨x_16, q_17, h⟩ := bind_some h
  refine ev_call rfl rfl C42 (((ref01_Mul_ok n) _ _  (Int_2.mk x_k.Num.Neg x_k.Num.Mag) v_o r_q (Int_2.mk x_v.Den.Neg x_v.Den.Mag) v_10 r_12 hp.imm _ q_17).mono ?_)
  rintro _ w_18 ⟨I_19, v_1a, hv, hq, r_1b⟩
  replace hv := hv.symm
  subst hv
  have hs := hq.st
  have hp := hp.join0 hq
  replace hz := hz.trans hs
  replace r_11 := r_11.step hs
  replace r_r := r_r.step hs
  replace r_12 := r_12.step hs
  replace r_q := r_q.step hs
  refine ⟨fun x => Stp I_19 w_18 I_19 x ∧ OwnK [(g_s, [(.bool x_k.Num.Neg), v_o, (.bool x_k.Den.Neg), v_p], 26), (g_13, [(.bool x_v.Num.Neg), v_z, (.bool x_v.Den.Neg), v_10], 26)] x, ⟨Stp.refl _ _, (OwnK.cons (hp.own 1 _ _ _ rfl).1 (OwnK.cons (hp.own 0 _ _ _ rfl).1 OwnK.nil))⟩, fun x hx => ⟨hz.held hx.1, hx.2⟩, ?_⟩
  have hz := Stp.refl I_19 w_18
  refine vch_l e9 rfl ?_
  obtain ⟨x_1c, q_1d, h⟩ := bind_some h
  refine ev_call rfl rfl C42 (((ref01_Mul_ok n) _ _  (Int_2.mk x_v.Num.Neg x_v.Num.Mag) v_z r_11 (Int_2.mk x_k.Den.Neg x_k.Den.Mag) v_p r_r hp.imm _ q_1d).mono ?_)
  rintro _ w_1e ⟨I_1f, v_1g, hv, hq, r_1h⟩
  replace hv := hv.symm
  subst hv
  have hs := hq.st
  have hp := hp.join0 hq
  replace hz := hz.trans hs
  replace r_r := r_r.step hs
  replace r_12 := r_12.step hs
  replace r_1b := r_1b.step hs
  replace r_11 := r_11.step hs
  replace r_q := r_q.step hs
  refine ⟨fun x => Stp I_1f w_1e I_1f x ∧ OwnK [(g_s, [(.bool x_k.Num.Neg), v_o, (.bool x_k.Den.Neg), v_p], 26), (g_13, [(.bool x_v.Num.Neg), v_z, (.bool x_v.Den.Neg), v_10], 26)] x, ⟨Stp.refl _ _, (OwnK.cons (hp.own 1 _ _ _ rfl).1 (OwnK.cons (hp.own 0 _ _ _ rfl).1 OwnK.nil))⟩, fun x hx => ⟨hz.held hx.1, hx.2⟩, ?_⟩
  have hz := Stp.refl I_1f w_1e
  refine vch_l e10 rfl ?_
  obtain ⟨x_1i, q_1j, h⟩ := bind_some h
  refine ev_call rfl rfl C84 (((ref01_Add_ok n) _ _  x_16 v_1a r_1b x_1c v_1g r_1h hp.imm _ q_1j).mono ?_)
  rintro _ w_1k ⟨I_1l, v_1m, hv, hq, r_1n⟩
  replace hv := hv.symm
  subst hv
  have hs := hq.st
  have hp := hp.join0 hq
  replace hz := hz.trans hs
  replace r_r := r_r.step hs
  replace r_12 := r_12.step hs
  replace r_11 := r_11.step hs
  replace r_q := r_q.step hs
  refine ⟨fun x => Stp I_1l w_1k I_1l x ∧ OwnK [(g_s, [(.bool x_k.Num.Neg), v_o, (.bool x_k.Den.Neg), v_p], 26), (g_13, [(.bool x_v.Num.Neg), v_z, (.bool x_v.Den.Neg), v_10], 26)] x, ⟨Stp.refl _ _, (OwnK.cons (hp.own 1 _ _ _ rfl).1 (OwnK.cons (hp.own 0 _ _ _ rfl).1 OwnK.nil))⟩, fun x hx => ⟨hz.held hx.1, hx.2⟩, ?_⟩
  have hz := Stp.refl I_1l w_1k
  refine vch_l e15 rfl ?_
  obtain ⟨x_1o, q_1p, h⟩ := bind_some h
  refine ev_call rfl rfl C42 (((ref01_Mul_ok n) _ _  (Int_2.mk x_k.Den.Neg x_k.Den.Mag) v_p r_r (Int_2.mk x_v.Den.Neg x_v.Den.Mag) v_10 r_12 hp.imm _ q_1p).mono ?_)
  rintro _ w_1q ⟨I_1r, v_1s, hv, hq, r_1t⟩
  replace hv := hv.symm
  subst hv
  have hs := hq.st
  have hp := hp.join0 hq
  replace hz := hz.trans hs
  replace r_1n := r_1n.step hs
  replace r_11 := r_11.step hs
  replace r_12 := r_12.step hs
  replace r_q := r_q.step hs
  replace r_r := r_r.step hs
  refine ⟨fun x => Stp I_1r w_1q I_1r x ∧ OwnK [(g_s, [(.bool x_k.Num.Neg), v_o, (.bool x_k.Den.Neg), v_p], 26), (g_13, [(.bool x_v.Num.Neg), v_z, (.bool x_v.Den.Neg), v_10], 26)] x, ⟨Stp.refl _ _, (OwnK.cons (hp.own 1 _ _ _ rfl).1 (OwnK.cons (hp.own 0 _ _ _ rfl).1 OwnK.nil))⟩, fun x hx => ⟨hz.held hx.1, hx.2⟩, ?_⟩
  have hz := Stp.refl I_1r w_1q
  refine vch_l e16 rfl ?_
  obtain ⟨x_1u, q_1v, h⟩ := bind_some h
  refine ev_call rfl rfl C41 (((ref02_New_ok n) _ _  x_1i v_1m r_1n x_1o v_1s r_1t hp.imm _ q_1v).mono ?_)
  rintro _ w_1w ⟨I_1x, v_1y, v_1z, hv, hq, r_20, r_21⟩
  replace hv := hv.symm
  subst hv
  have hs := hq.st
  have hp := hp.join0 hq
  replace hz := hz.trans hs
  replace r_11 := r_11.step hs
  replace r_12 := r_12.step hs
  replace r_q := r_q.step hs
  replace r_r := r_r.step hs
  refine ⟨fun x => Stp I_1x w_1w I_1x x ∧ OwnK [(g_s, [(.bool x_k.Num.Neg), v_o, (.bool x_k.Den.Neg), v_p], 26), (g_13, [(.bool x_v.Num.Neg), v_z, (.bool x_v.Den.Neg), v_10], 26)] x, ⟨Stp.refl _ _, (OwnK.cons (hp.own 1 _ _ _ rfl).1 (OwnK.cons (hp.own 0 _ _ _ rfl).1 OwnK.nil))⟩, fun x hx => ⟨hz.held hx.1, hx.2⟩, ?_⟩
  have hz := Stp.refl I_1x w_1w
  refine vch_l e17 rfl ?_
  refine ev_storeA hp (i := 2) (off := 0) (vs := [(.bool x_1u.Num.Neg), v_1y, (.bool x_1u.Den.Neg), v_1z]) rfl rfl rfl rfl T26 rfl (Nat.le_of_ble_eq_true rfl) (ones_cons rfl (ones_cons r_20.one (ones_cons rfl (ones_cons r_21.one ones_nil)))) ?_
  intro w_22 hp hs
  replace hz := hz.trans hs
  replace r_11 := r_11.step hs
  replace r_12 := r_12.step hs
  replace r_q := r_q.step hs
  replace r_r := r_r.step hs
  replace r_20 := r_20.step hs
  replace r_21 := r_21.step hs
  refine ⟨fun x => Stp I_1x w_22 I_1x x ∧ OwnK [(g_s, [(.bool x_k.Num.Neg), v_o, (.bool x_k.Den.Neg), v_p], 26), (g_13, [(.bool x_v.Num.Neg), v_z, (.bool x_v.Den.Neg), v_10], 26)] x, ⟨Stp.refl _ _, (OwnK.cons (hp.own 1 _ _ _ rfl).1 (OwnK.cons (hp.own 0 _ _ _ rfl).1 OwnK.nil))⟩, fun x hx => ⟨hz.held hx.1, hx.2⟩, ?_⟩
  have hz := Stp.refl I_1x w_22
  refine vch_end ?_
  apply go
  obtain rfl := Option.some.inj h
  refine ⟨_, run_loadVarA T26 rfl (hp.at_ (i := 2) rfl), ?_⟩
  have hp := hp.sel [] (by decide)
  exact ⟨I_1x, v_1y, v_1z, rfl, hp, r_20, r_21⟩

end Go.Proofs.YtepadjfmcbjkmaaGreatDoor

namespace Go.Proofs.YtepadjfmcbjkmaaGreatDoor
open Go Go.Proofs.YtepadjfmcbjkmaaGreatDoor.Gw Go.RowKit
set_option linter.unusedVariables false
attribute [local irreducible] Ev EvQ EvS EvH
def ref02_Neg_S (f : Rational → Option Rational) : Prop := ∀ (w0 : World) (I0 : Nat → Prop) (x_0 : Rational) (v_1 : Value) (r_2 : RepS (dI .u32) w0 I0 v_1 x_0.Num.Mag) (v_3 : Value) (r_4 : RepS (dI .u32) w0 I0 v_3 x_0.Den.Mag) (hI : ∀ g, I0 g → g < w0.heap.size) (r : Rational), f x_0 = some r →
    Ret Tryz.prog 61 #[(.agg #[(.bool x_0.Num.Neg), v_1, (.bool x_0.Den.Neg), v_3])] w0 fun v w1 => ∃ (I1 : Nat → Prop) (u_5 : Value) (u_6 : Value), v = (.agg #[(.bool r.Num.Neg), u_5, (.bool r.Den.Neg), u_6]) ∧ Hp ⟨w0, I0, []⟩ I1 [] w1 ∧ RepS (dI .u32) w1 I1 u_5 r.Num.Mag ∧ RepS (dI .u32) w1 I1 u_6 r.Den.Mag
theorem ref02_Neg_ok (n : Nat) : ref02_Neg_S (ref02_Neg n) := by
  intro w0 I0 x_0 v_1 r_2 v_3 r_4 hI r h
  unfold ref02_Neg at h
  refine enter Tryz.func61 rfl (Nat.le_of_ble_eq_true rfl) ?_
  have hp : Hp ⟨w0, I0, []⟩ I0 [] w0 := Hp.start hI
  apply go
  apply go
  refine ev_boxI hp rfl rfl ?_
  intro p_5 I_6 w_7 hp hs a_8
  replace r_2 := r_2.step hs
  replace r_4 := r_4.step hs
  refine ev_alloc hp rfl T26 ?_
  intro g_9 w_a hp hs
  replace a_8 := a_8.step hs
  replace r_2 := r_2.step hs
  replace r_4 := r_4.step hs
  apply go
  apply go
  refine ev (rn_load rfl rfl (run_loadVarA T26 rfl a_8)) ?_
  obtain ⟨x_b, q_c, h⟩ := bind_some h
  refine ev_call rfl rfl C35 (((ref02_Norm_ok n) _ _  (Rational.mk (Int_2.mk x_0.Num.Neg x_0.Num.Mag) (Int_2.mk x_0.Den.Neg x_0.Den.Mag)) v_1 r_2 v_3 r_4 hp.imm _ q_c).mono ?_)
  rintro _ w_d ⟨I_e, v_f, v_g, hv, hq, r_h, r_i⟩
  replace hv := hv.symm
  subst hv
  have hs := hq.st
  have hp := hp.join0 hq
  refine ev_alloc hp rfl T26 ?_
  intro g_j w_k hp hs
  replace r_h := r_h.step hs
  replace r_i := r_i.step hs
  refine ev_storeA hp (i := 0) (off := 0) (vs := [(.bool x_b.Num.Neg), v_f, (.bool x_b.Den.Neg), v_g]) rfl rfl rfl rfl T26 rfl (Nat.le_of_ble_eq_true rfl) (ones_cons rfl (ones_cons r_h.one (ones_cons rfl (ones_cons r_i.one ones_nil)))) ?_
  intro w_l hp hs
  replace r_h := r_h.step hs
  replace r_i := r_i.step hs
  apply go
  have hs := hp.stp (Ch.drew [] w_l)
  have hp := hp.drew
  replace r_h := r_h.step hs
  replace r_i := r_i.step hs
  refine W.held [(0, true), (1, true), (3, true), (4, true), (2, false), (5, false), (6, false)] (fun x => Stp I_e w_l.drew I_e x ∧ OwnK [(g_j, [(.bool x_b.Num.Neg), v_f, (.bool x_b.Den.Neg), v_g], 26)] x) MX (by kernel_rfl) ⟨Stp.refl _ _, (OwnK.cons (hp.own 0 _ _ _ rfl).1 OwnK.nil)⟩ ?_
  have hz := Stp.refl I_e w_l.drew
  refine evh0 (rn_field rfl rfl FO26_0) ?_
  refine evh (fun w' hw => rn_load rfl rfl (run_loadVarA T24 rfl (((hw.2.at_ (i := 0) rfl).drop 0).take 2))) ?_
  refine evh0 (rn_field rfl rfl FO26_1) ?_
  refine evh (fun w' hw => rn_load rfl rfl (run_loadVarA T24 rfl (((hw.2.at_ (i := 0) rfl).drop 2).take 2))) ?_
  obtain ⟨x_m, q_n, h⟩ := bind_some h
  refine ev_call rfl rfl C75 (((ref01_Neg_ok n) _ _  (Int_2.mk x_b.Num.Neg x_b.Num.Mag) v_f r_h hp.imm _ q_n).mono ?_)
  rintro _ w_o ⟨I_p, v_q, hv, hq, r_r⟩
  replace hv := hv.symm
  subst hv
  have hs := hq.st
  have hp := hp.join0 hq
  replace hz := hz.trans hs
  replace r_i := r_i.step hs
  replace r_h := r_h.step hs
  refine ⟨fun x => Stp I_p w_o I_p x ∧ OwnK [(g_j, [(.bool x_b.Num.Neg), v_f, (.bool x_b.Den.Neg), v_g], 26)] x, ⟨Stp.refl _ _, (OwnK.cons (hp.own 0 _ _ _ rfl).1 OwnK.nil)⟩, fun x hx => ⟨hz.held hx.1, hx.2⟩, ?_⟩
  have hz := Stp.refl I_p w_o
  obtain ⟨x_s, q_t, h⟩ := bind_some h
  refine ev_call rfl rfl C41 (((ref02_New_ok n) _ _  x_m v_q r_r (Int_2.mk x_b.Den.Neg x_b.Den.Mag) v_g r_i hp.imm _ q_t).mono ?_)
  rintro _ w_u ⟨I_v, v_w, v_x, hv, hq, r_y, r_z⟩
  replace hv := hv.symm
  subst hv
  have hs := hq.st
  have hp := hp.join0 hq
  replace hz := hz.trans hs
  replace r_h := r_h.step hs
  replace r_i := r_i.step hs
  refine ⟨fun x => Stp I_v w_u I_v x ∧ OwnK [(g_j, [(.bool x_b.Num.Neg), v_f, (.bool x_b.Den.Neg), v_g], 26)] x, ⟨Stp.refl _ _, (OwnK.cons (hp.own 0 _ _ _ rfl).1 OwnK.nil)⟩, fun x hx => ⟨hz.held hx.1, hx.2⟩, ?_⟩
  have hz := Stp.refl I_v w_u
  refine ev_storeA hp (i := 1) (off := 0) (vs := [(.bool x_s.Num.Neg), v_w, (.bool x_s.Den.Neg), v_x]) rfl rfl rfl rfl T26 rfl (Nat.le_of_ble_eq_true rfl) (ones_cons rfl (ones_cons r_y.one (ones_cons rfl (ones_cons r_z.one ones_nil)))) ?_
  intro w_10 hp hs
  replace hz := hz.trans hs
  replace r_h := r_h.step hs
  replace r_i := r_i.step hs
  replace r_y := r_y.step hs
  replace r_z := r_z.step hs
  refine ⟨fun x => Stp I_v w_10 I_v x ∧ OwnK [(g_j, [(.bool x_b.Num.Neg), v_f, (.bool x_b.Den.Neg), v_g], 26)] x, ⟨Stp.refl _ _, (OwnK.cons (hp.own 0 _ _ _ rfl).1 OwnK.nil)⟩, fun x hx => ⟨hz.held hx.1, hx.2⟩, ?_⟩
  have hz := Stp.refl I_v w_10
  apply go
  obtain rfl := Option.some.inj h
  refine ⟨_, run_loadVarA T26 rfl (hp.at_ (i := 1) rfl), ?_⟩
  have hp := hp.sel [] (by decide)
  exact ⟨I_v, v_w, v_x, rfl, hp, r_y, r_z⟩

end Go.Proofs.YtepadjfmcbjkmaaGreatDoor

namespace Go.Proofs.YtepadjfmcbjkmaaGreatDoor
open Go Go.Proofs.YtepadjfmcbjkmaaGreatDoor.Gw Go.RowKit
set_option linter.unusedVariables false
attribute [local irreducible] Ev EvQ EvS EvH
def ref02_Sub_S (f : Rational → Rational → Option Rational) : Prop := ∀ (w0 : World) (I0 : Nat → Prop) (x_0 : Rational) (v_1 : Value) (r_2 : RepS (dI .u32) w0 I0 v_1 x_0.Num.Mag) (v_3 : Value) (r_4 : RepS (dI .u32) w0 I0 v_3 x_0.Den.Mag) (x_5 : Rational) (v_6 : Value) (r_7 : RepS (dI .u32) w0 I0 v_6 x_5.Num.Mag) (v_8 : Value) (r_9 : RepS (dI .u32) w0 I0 v_8 x_5.Den.Mag) (hI : ∀ g, I0 g → g < w0.heap.size) (r : Rational), f x_0 x_5 = some r →
    Ret Tryz.prog 48 #[(.agg #[(.bool x_0.Num.Neg), v_1, (.bool x_0.Den.Neg), v_3]), (.agg #[(.bool x_5.Num.Neg), v_6, (.bool x_5.Den.Neg), v_8])] w0 fun v w1 => ∃ (I1 : Nat → Prop) (u_a : Value) (u_b : Value), v = (.agg #[(.bool r.Num.Neg), u_a, (.bool r.Den.Neg), u_b]) ∧ Hp ⟨w0, I0, []⟩ I1 [] w1 ∧ RepS (dI .u32) w1 I1 u_a r.Num.Mag ∧ RepS (dI .u32) w1 I1 u_b r.Den.Mag
theorem ref02_Sub_ok (n : Nat) : ref02_Sub_S (ref02_Sub n) := by
  intro w0 I0 x_0 v_1 r_2 v_3 r_4 x_5 v_6 r_7 v_8 r_9 hI r h
  unfold ref02_Sub at h
  refine enter Tryz.func48 rfl (Nat.le_of_ble_eq_true rfl) ?_
  have hp : Hp ⟨w0, I0, []⟩ I0 [] w0 := Hp.start hI
  apply go
  apply go
  refine ev_boxI hp rfl rfl ?_
  intro p_a I_b w_c hp hs a_d
  replace r_7 := r_7.step hs
  replace r_9 := r_9.step hs
  replace r_2 := r_2.step hs
  replace r_4 := r_4.step hs
  refine ev_boxI hp rfl rfl ?_
  intro p_e I_f w_g hp hs a_h
  replace a_d := a_d.step hs
  replace r_2 := r_2.step hs
  replace r_4 := r_4.step hs
  replace r_7 := r_7.step hs
  replace r_9 := r_9.step hs
  refine ev_alloc hp rfl T26 ?_
  intro g_i w_j hp hs
  replace a_d := a_d.step hs
  replace r_2 := r_2.step hs
  replace r_4 := r_4.step hs
  replace a_h := a_h.step hs
  replace r_7 := r_7.step hs
  replace r_9 := r_9.step hs
  apply go
  have hs := hp.stp (Ch.drew [] w_j)
  have hp := hp.drew
  replace a_d := a_d.step hs
  replace r_2 := r_2.step hs
  replace r_4 := r_4.step hs
  replace a_h := a_h.step hs
  replace r_7 := r_7.step hs
  replace r_9 := r_9.step hs
  refine W.held [(0, true), (1, true), (2, false), (3, false), (4, false)] (Stp I_f w_j.drew I_f) MX (by kernel_rfl) (Stp.refl _ _) ?_
  have hz := Stp.refl I_f w_j.drew
  refine evh (fun w' hw => rn_load rfl rfl (run_loadVarA T26 rfl (a_d.step hw))) ?_
  refine evh (fun w' hw => rn_load rfl rfl (run_loadVarA T26 rfl (a_h.step hw))) ?_
  obtain ⟨x_k, q_l, h⟩ := bind_some h
  refine ev_call rfl rfl C61 (((ref02_Neg_ok n) _ _  (Rational.mk (Int_2.mk x_5.Num.Neg x_5.Num.Mag) (Int_2.mk x_5.Den.Neg x_5.Den.Mag)) v_6 r_7 v_8 r_9 hp.imm _ q_l).mono ?_)
  rintro _ w_m ⟨I_n, v_o, v_p, hv, hq, r_q, r_r⟩
  replace hv := hv.symm
  subst hv
  have hs := hq.st
  have hp := hp.join0 hq
  replace hz := hz.trans hs
  replace r_2 := r_2.step hs
  replace r_4 := r_4.step hs
  refine ⟨Stp I_n w_m I_n, Stp.refl _ _, fun x hx => hz.held hx, ?_⟩
  have hz := Stp.refl I_n w_m
  obtain ⟨x_s, q_t, h⟩ := bind_some h
  refine ev_call rfl rfl C53 (((ref02_Add_ok n) _ _  (Rational.mk (Int_2.mk x_0.Num.Neg x_0.Num.Mag) (Int_2.mk x_0.Den.Neg x_0.Den.Mag)) v_1 r_2 v_3 r_4 x_k v_o r_q v_p r_r hp.imm _ q_t).mono ?_)
  rintro _ w_u ⟨I_v, v_w, v_x, hv, hq, r_y, r_z⟩
  replace hv := hv.symm
  subst hv
  have hs := hq.st
  have hp := hp.join0 hq
  replace hz := hz.trans hs
  refine ⟨Stp I_v w_u I_v, Stp.refl _ _, fun x hx => hz.held hx, ?_⟩
  have hz := Stp.refl I_v w_u
  refine ev_storeA hp (i := 0) (off := 0) (vs := [(.bool x_s.Num.Neg), v_w, (.bool x_s.Den.Neg), v_x]) rfl rfl rfl rfl T26 rfl (Nat.le_of_ble_eq_true rfl) (ones_cons rfl (ones_cons r_y.one (ones_cons rfl (ones_cons r_z.one ones_nil)))) ?_
  intro w_10 hp hs
  replace hz := hz.trans hs
  replace r_y := r_y.step hs
  replace r_z := r_z.step hs
  refine ⟨Stp I_v w_10 I_v, Stp.refl _ _, fun x hx => hz.held hx, ?_⟩
  have hz := Stp.refl I_v w_10
  apply go
  obtain rfl := Option.some.inj h
  refine ⟨_, run_loadVarA T26 rfl (hp.at_ (i := 0) rfl), ?_⟩
  have hp := hp.sel [] (by decide)
  exact ⟨I_v, v_w, v_x, rfl, hp, r_y, r_z⟩

end Go.Proofs.YtepadjfmcbjkmaaGreatDoor

namespace Go.Proofs.YtepadjfmcbjkmaaGreatDoor
open Go Go.Proofs.YtepadjfmcbjkmaaGreatDoor.Gw Go.RowKit
set_option linter.unusedVariables false
attribute [local irreducible] Ev EvQ EvS EvH
def ref02_Cmp_S (f : Rational → Rational → Option Int) : Prop := ∀ (w0 : World) (I0 : Nat → Prop) (x_0 : Rational) (v_1 : Value) (r_2 : RepS (dI .u32) w0 I0 v_1 x_0.Num.Mag) (v_3 : Value) (r_4 : RepS (dI .u32) w0 I0 v_3 x_0.Den.Mag) (x_5 : Rational) (v_6 : Value) (r_7 : RepS (dI .u32) w0 I0 v_6 x_5.Num.Mag) (v_8 : Value) (r_9 : RepS (dI .u32) w0 I0 v_8 x_5.Den.Mag) (hI : ∀ g, I0 g → g < w0.heap.size) (r : Int), f x_0 x_5 = some r →
    Ret Tryz.prog 16 #[(.agg #[(.bool x_0.Num.Neg), v_1, (.bool x_0.Den.Neg), v_3]), (.agg #[(.bool x_5.Num.Neg), v_6, (.bool x_5.Den.Neg), v_8])] w0 fun v w1 => v = (.int .i64 r) ∧ Ch [] w0 w1
theorem ref02_Cmp_ok (n : Nat) : ref02_Cmp_S (ref02_Cmp n) := by
  intro w0 I0 x_0 v_1 r_2 v_3 r_4 x_5 v_6 r_7 v_8 r_9 hI r h
  unfold ref02_Cmp at h
  refine enter Tryz.func16 rfl (Nat.le_of_ble_eq_true rfl) ?_
  have hp : Hp ⟨w0, I0, []⟩ I0 [] w0 := Hp.start hI
  apply go
  apply go
  refine ev_boxI hp rfl rfl ?_
  intro p_a I_b w_c hp hs a_d
  replace r_7 := r_7.step hs
  replace r_9 := r_9.step hs
  replace r_2 := r_2.step hs
  replace r_4 := r_4.step hs
  refine ev_boxI hp rfl rfl ?_
  intro p_e I_f w_g hp hs a_h
  replace a_d := a_d.step hs
  replace r_2 := r_2.step hs
  replace r_4 := r_4.step hs
  replace r_7 := r_7.step hs
  replace r_9 := r_9.step hs
  apply go
  apply go
  refine ev (rn_load rfl rfl (run_loadVarA T26 rfl a_d)) ?_
  refine ev (rn_load rfl rfl (run_loadVarA T26 rfl a_h)) ?_
  obtain ⟨x_i, q_j, h⟩ := bind_some h
  refine ev_call rfl rfl C48 (((ref02_Sub_ok n) _ _  (Rational.mk (Int_2.mk x_0.Num.Neg x_0.Num.Mag) (Int_2.mk x_0.Den.Neg x_0.Den.Mag)) v_1 r_2 v_3 r_4 (Rational.mk (Int_2.mk x_5.Num.Neg x_5.Num.Mag) (Int_2.mk x_5.Den.Neg x_5.Den.Mag)) v_6 r_7 v_8 r_9 hp.imm _ q_j).mono ?_)
  rintro _ w_k ⟨I_l, v_m, v_n, hv, hq, r_o, r_p⟩
  replace hv := hv.symm
  subst hv
  have hs := hq.st
  have hp := hp.join0 hq
  obtain ⟨x_q, q_r, h⟩ := bind_some h
  refine ev_call rfl rfl C40 (((ref02_Sign_ok n) _ _  x_i v_m r_o v_n r_p hp.imm _ q_r).mono ?_)
  rintro _ w_s ⟨rfl, hc⟩
  have hs := hp.stp hc
  replace hp := hp.ext hc
  apply go
  obtain rfl := Option.some.inj h
  exact ⟨rfl, hp.ch⟩

end Go.Proofs.YtepadjfmcbjkmaaGreatDoor

namespace Go.Proofs.YtepadjfmcbjkmaaGreatDoor
open Go Go.Proofs.YtepadjfmcbjkmaaGreatDoor.Gw Go.RowKit
set_option linter.unusedVariables false
attribute [local irreducible] Ev EvQ EvS EvH
def ref02_Empty_S (f : Interval → Option Bool) : Prop := ∀ (w0 : World) (I0 : Nat → Prop) (x_0 : Interval) (v_1 : Value) (r_2 : RepS (dI .u32) w0 I0 v_1 x_0.Lo.Num.Mag) (v_3 : Value) (r_4 : RepS (dI .u32) w0 I0 v_3 x_0.Lo.Den.Mag) (v_5 : Value) (r_6 : RepS (dI .u32) w0 I0 v_5 x_0.Hi.Num.Mag) (v_7 : Value) (r_8 : RepS (dI .u32) w0 I0 v_7 x_0.Hi.Den.Mag) (hI : ∀ g, I0 g → g < w0.heap.size) (r : Bool), f x_0 = some r →
    Ret Tryz.prog 52 #[(.agg #[(.bool x_0.Lo.Num.Neg), v_1, (.bool x_0.Lo.Den.Neg), v_3, (.bool x_0.Hi.Num.Neg), v_5, (.bool x_0.Hi.Den.Neg), v_7])] w0 fun v w1 => v = (.bool r) ∧ Ch [] w0 w1
theorem ref02_Empty_ok (n : Nat) : ref02_Empty_S (ref02_Empty n) := by
  intro w0 I0 x_0 v_1 r_2 v_3 r_4 v_5 r_6 v_7 r_8 hI r h
  unfold ref02_Empty at h
  refine enter Tryz.func52 rfl (Nat.le_of_ble_eq_true rfl) ?_
  have hp : Hp ⟨w0, I0, []⟩ I0 [] w0 := Hp.start hI
  apply go
  apply go
  refine ev_boxI hp rfl rfl ?_
  intro p_9 I_a w_b hp hs a_c
  replace r_2 := r_2.step hs
  replace r_4 := r_4.step hs
  replace r_6 := r_6.step hs
  replace r_8 := r_8.step hs
  apply go
  apply go
  refine ev0 (rn_field rfl rfl FO39_0) ?_
  refine ev (rn_load rfl rfl (run_loadVarA T26 rfl ((a_c.drop 0).take 4))) ?_
  refine ev0 (rn_field rfl rfl FO39_1) ?_
  refine ev (rn_load rfl rfl (run_loadVarA T26 rfl ((a_c.drop 4).take 4))) ?_
  obtain ⟨x_d, q_e, h⟩ := bind_some h
  refine ev_call rfl rfl C16 (((ref02_Cmp_ok n) _ _  (Rational.mk (Int_2.mk x_0.Lo.Num.Neg x_0.Lo.Num.Mag) (Int_2.mk x_0.Lo.Den.Neg x_0.Lo.Den.Mag)) v_1 r_2 v_3 r_4 (Rational.mk (Int_2.mk x_0.Hi.Num.Neg x_0.Hi.Num.Mag) (Int_2.mk x_0.Hi.Den.Neg x_0.Hi.Den.Mag)) v_5 r_6 v_7 r_8 hp.imm _ q_e).mono ?_)
  rintro _ w_f ⟨rfl, hc⟩
  have hs := hp.stp hc
  replace hp := hp.ext hc
  apply go
  obtain rfl := Option.some.inj h
  exact ⟨rfl, hp.ch⟩

end Go.Proofs.YtepadjfmcbjkmaaGreatDoor

namespace Go.Proofs.YtepadjfmcbjkmaaGreatDoor
open Go Go.Proofs.YtepadjfmcbjkmaaGreatDoor.Gw Go.RowKit
set_option linter.unusedVariables false
attribute [local irreducible] Ev EvQ EvS EvH
def ref02_Plus_S (f : Interval → Interval → Option (Interval × Int)) : Prop := ∀ (w0 : World) (I0 : Nat → Prop) (x_0 : Interval) (v_1 : Value) (r_2 : RepS (dI .u32) w0 I0 v_1 x_0.Lo.Num.Mag) (v_3 : Value) (r_4 : RepS (dI .u32) w0 I0 v_3 x_0.Lo.Den.Mag) (v_5 : Value) (r_6 : RepS (dI .u32) w0 I0 v_5 x_0.Hi.Num.Mag) (v_7 : Value) (r_8 : RepS (dI .u32) w0 I0 v_7 x_0.Hi.Den.Mag) (x_9 : Interval) (v_a : Value) (r_b : RepS (dI .u32) w0 I0 v_a x_9.Lo.Num.Mag) (v_c : Value) (r_d : RepS (dI .u32) w0 I0 v_c x_9.Lo.Den.Mag) (v_e : Value) (r_f : RepS (dI .u32) w0 I0 v_e x_9.Hi.Num.Mag) (v_g : Value) (r_h : RepS (dI .u32) w0 I0 v_g x_9.Hi.Den.Mag) (hI : ∀ g, I0 g → g < w0.heap.size) (r : (Interval × Int)), f x_0 x_9 = some r →
    Ret Tryz.prog 23 #[(.agg #[(.bool x_0.Lo.Num.Neg), v_1, (.bool x_0.Lo.Den.Neg), v_3, (.bool x_0.Hi.Num.Neg), v_5, (.bool x_0.Hi.Den.Neg), v_7]), (.agg #[(.bool x_9.Lo.Num.Neg), v_a, (.bool x_9.Lo.Den.Neg), v_c, (.bool x_9.Hi.Num.Neg), v_e, (.bool x_9.Hi.Den.Neg), v_g])] w0 fun v w1 => ∃ (I1 : Nat → Prop) (u_i : Value) (u_j : Value) (u_k : Value) (u_l : Value), v = (.tuple #[(.agg #[(.bool r.1.Lo.Num.Neg), u_i, (.bool r.1.Lo.Den.Neg), u_j, (.bool r.1.Hi.Num.Neg), u_k, (.bool r.1.Hi.Den.Neg), u_l]), (.int .i64 r.2)]) ∧ Hp ⟨w0, I0, []⟩ I1 [] w1 ∧ RepS (dI .u32) w1 I1 u_i r.1.Lo.Num.Mag ∧ RepS (dI .u32) w1 I1 u_j r.1.Lo.Den.Mag ∧ RepS (dI .u32) w1 I1 u_k r.1.Hi.Num.Mag ∧ RepS (dI .u32) w1 I1 u_l r.1.Hi.Den.Mag
theorem ref02_Plus_ok (n : Nat) : ref02_Plus_S (ref02_Plus n) := by
  intro w0 I0 x_0 v_1 r_2 v_3 r_4 v_5 r_6 v_7 r_8 x_9 v_a r_b v_c r_d v_e r_f v_g r_h hI r h
  unfold ref02_Plus at h
  refine enter Tryz.func23 rfl (Nat.le_of_ble_eq_true rfl) ?_
  have hp : Hp ⟨w0, I0, []⟩ I0 [] w0 := Hp.start hI
  apply go
  apply go
  refine ev_boxI hp rfl rfl ?_
  intro p_i I_j w_k hp hs a_l
  replace r_b := r_b.step hs
  replace r_d := r_d.step hs
  replace r_f := r_f.step hs
  replace r_h := r_h.step hs
  replace r_2 := r_2.step hs
  replace r_4 := r_4.step hs
  replace r_6 := r_6.step hs
  replace r_8 := r_8.step hs
  refine ev_boxI hp rfl rfl ?_
  intro p_m I_n w_o hp hs a_p
  replace a_l := a_l.step hs
  replace r_2 := r_2.step hs
  replace r_4 := r_4.step hs
  replace r_6 := r_6.step hs
  replace r_8 := r_8.step hs
  replace r_b := r_b.step hs
  replace r_d := r_d.step hs
  replace r_f := r_f.step hs
  replace r_h := r_h.step hs
  refine ev_alloc hp rfl T39 ?_
  intro g_q w_r hp hs
  replace a_l := a_l.step hs
  replace r_2 := r_2.step hs
  replace r_4 := r_4.step hs
  replace r_6 := r_6.step hs
  replace r_8 := r_8.step hs
  replace a_p := a_p.step hs
  replace r_b := r_b.step hs
  replace r_d := r_d.step hs
  replace r_f := r_f.step hs
  replace r_h := r_h.step hs
  apply go
  obtain ⟨y_s, q_t, h⟩ := bind_some h
  refine W.cut (γ := Bool) (fun g => [(2, (.pointer (some (p_i)))), (3, (.pointer (some (p_m)))), (4, (.pointer (some ⟨g_q, 0, none⟩))), (11, (.bool (g)))]) (fun g w' => y_s = (g) ∧ Hp ⟨w0, I0, []⟩ I_n [some (g_q, [(.bool false), (.slice none 0 0), (.bool false), (.slice none 0 0), (.bool false), (.slice none 0 0), (.bool false), (.slice none 0 0)], 39)] w' ∧ RepS (dI .u32) w' I_n v_1 x_0.Lo.Num.Mag ∧ RepS (dI .u32) w' I_n v_3 x_0.Lo.Den.Mag ∧ RepS (dI .u32) w' I_n v_5 x_0.Hi.Num.Mag ∧ RepS (dI .u32) w' I_n v_7 x_0.Hi.Den.Mag ∧ At w' I_n p_i [(.bool x_0.Lo.Num.Neg), v_1, (.bool x_0.Lo.Den.Neg), v_3, (.bool x_0.Hi.Num.Neg), v_5, (.bool x_0.Hi.Den.Neg), v_7] ∧ RepS (dI .u32) w' I_n v_a x_9.Lo.Num.Mag ∧ RepS (dI .u32) w' I_n v_c x_9.Lo.Den.Mag ∧ RepS (dI .u32) w' I_n v_e x_9.Hi.Num.Mag ∧ RepS (dI .u32) w' I_n v_g x_9.Hi.Den.Mag ∧ At w' I_n p_m [(.bool x_9.Lo.Num.Neg), v_a, (.bool x_9.Lo.Den.Neg), v_c, (.bool x_9.Hi.Num.Neg), v_e, (.bool x_9.Hi.Den.Neg), v_g]) ?_ ?_
  ·
    apply go
    refine ev (rn_load rfl rfl (run_loadVarA T39 rfl a_l)) ?_
    obtain ⟨x_u, q_v, q_t⟩ := bind_some q_t
    refine ev_call rfl rfl C52 (((ref02_Empty_ok n) _ _  (Interval.mk (Rational.mk (Int_2.mk x_0.Lo.Num.Neg x_0.Lo.Num.Mag) (Int_2.mk x_0.Lo.Den.Neg x_0.Lo.Den.Mag)) (Rational.mk (Int_2.mk x_0.Hi.Num.Neg x_0.Hi.Num.Mag) (Int_2.mk x_0.Hi.Den.Neg x_0.Hi.Den.Mag))) v_1 r_2 v_3 r_4 v_5 r_6 v_7 r_8 hp.imm _ q_v).mono ?_)
    rintro _ w_w ⟨rfl, hc⟩
    have hs := hp.stp hc
    replace hp := hp.ext hc
    replace a_l := a_l.step hs
    replace r_2 := r_2.step hs
    replace r_4 := r_4.step hs
    replace r_6 := r_6.step hs
    replace r_8 := r_8.step hs
    replace a_p := a_p.step hs
    replace r_b := r_b.step hs
    replace r_d := r_d.step hs
    replace r_f := r_f.step hs
    replace r_h := r_h.step hs
    refine sel_of (fun hc => ?_) (fun hc => ?_)
    ·
      have q_t := cond_t q_t hc
      obtain rfl := Option.some.inj q_t
      exact ⟨true, (.c rfl (.c rfl (.c rfl (.c rfl .n)))), rfl, hp, r_2, r_4, r_6, r_8, a_l, r_b, r_d, r_f, r_h, a_p⟩
    ·
      have q_t := cond_f q_t hc
      refine ev (rn_load rfl rfl (run_loadVarA T39 rfl a_p)) ?_
      obtain ⟨x_x, q_y, q_t⟩ := bind_some q_t
      refine ev_call rfl rfl C52 (((ref02_Empty_ok n) _ _  (Interval.mk (Rational.mk (Int_2.mk x_9.Lo.Num.Neg x_9.Lo.Num.Mag) (Int_2.mk x_9.Lo.Den.Neg x_9.Lo.Den.Mag)) (Rational.mk (Int_2.mk x_9.Hi.Num.Neg x_9.Hi.Num.Mag) (Int_2.mk x_9.Hi.Den.Neg x_9.Hi.Den.Mag))) v_a r_b v_c r_d v_e r_f v_g r_h hp.imm _ q_y).mono ?_)
      rintro _ w_z ⟨rfl, hc⟩
      have hs := hp.stp hc
      replace hp := hp.ext hc
      replace a_l := a_l.step hs
      replace r_2 := r_2.step hs
      replace r_4 := r_4.step hs
      replace r_6 := r_6.step hs
      replace r_8 := r_8.step hs
      replace a_p := a_p.step hs
      replace r_b := r_b.step hs
      replace r_d := r_d.step hs
      replace r_f := r_f.step hs
      replace r_h := r_h.step hs
      obtain rfl := Option.some.inj q_t
      exact ⟨x_x, (.c rfl (.c rfl (.c rfl (.c rfl .n)))), rfl, hp, r_2, r_4, r_6, r_8, a_l, r_b, r_d, r_f, r_h, a_p⟩
  ·
    rintro x_10 w_11 ⟨hy, hp, r_2, r_4, r_6, r_8, a_l, r_b, r_d, r_f, r_h, a_p⟩
    replace hy := hy.symm
    subst hy
    apply go
    refine sel_of (fun hc => ?_) (fun hc => ?_)
    ·
      have h := cond_t h hc
      apply go
      apply go
      refine ev0 (fun w => rn_build (cs := [(.bool false), (.slice none 0 0), (.bool false), (.slice none 0 0), (.bool false), (.slice none 0 0), (.bool false), (.slice none 0 0)]) rfl rfl T39 PL39 (by kernel_rfl)) ?_
      refine ev_storeA hp (i := 0) (off := 0) (vs := [(.bool false), (.slice none 0 0), (.bool false), (.slice none 0 0), (.bool false), (.slice none 0 0), (.bool false), (.slice none 0 0)]) rfl rfl rfl rfl T39 rfl (Nat.le_of_ble_eq_true rfl) (ones_of rfl) ?_
      intro w_12 hp hs
      apply go
      obtain rfl := Option.some.inj h
      refine ⟨_, run_loadVarA T39 rfl (hp.at_ (i := 0) rfl), ?_⟩
      have hp := hp.sel [] (by decide)
      exact ⟨I_n, .slice none 0 0, .slice none 0 0, .slice none 0 0, .slice none 0 0, rfl, hp, RepS.nil _ _ _, RepS.nil _ _ _, RepS.nil _ _ _, RepS.nil _ _ _⟩
    ·
      have h := cond_f h hc
      apply go
      apply go
      have hs := hp.stp (Ch.drew [] w_11)
      have hp := hp.drew
      replace a_l := a_l.step hs
      replace r_2 := r_2.step hs
      replace r_4 := r_4.step hs
      replace r_6 := r_6.step hs
      replace r_8 := r_8.step hs
      replace a_p := a_p.step hs
      replace r_b := r_b.step hs
      replace r_d := r_d.step hs
      replace r_f := r_f.step hs
      replace r_h := r_h.step hs
      refine W.held [(0, true), (1, true), (2, true), (3, true), (5, true), (6, true), (7, true), (8, true), (4, false), (9, false), (10, true), (11, false), (12, true)] (Stp I_n w_11.drew I_n) MX (by kernel_rfl) (Stp.refl _ _) ?_
      have hz := Stp.refl I_n w_11.drew
      refine evh0 (rn_field rfl rfl FO39_0) ?_
      refine evh (fun w' hw => rn_load rfl rfl (run_loadVarA T26 rfl (((a_l.step hw).drop 0).take 4))) ?_
      refine evh0 (rn_field rfl rfl FO39_0) ?_
      refine evh (fun w' hw => rn_load rfl rfl (run_loadVarA T26 rfl (((a_p.step hw).drop 0).take 4))) ?_
      refine evh0 (rn_field rfl rfl FO39_1) ?_
      refine evh (fun w' hw => rn_load rfl rfl (run_loadVarA T26 rfl (((a_l.step hw).drop 4).take 4))) ?_
      refine evh0 (rn_field rfl rfl FO39_1) ?_
      refine evh (fun w' hw => rn_load rfl rfl (run_loadVarA T26 rfl (((a_p.step hw).drop 4).take 4))) ?_
      obtain ⟨x_13, q_14, h⟩ := bind_some h
      refine ev_call rfl rfl C53 (((ref02_Add_ok n) _ _  (Rational.mk (Int_2.mk x_0.Lo.Num.Neg x_0.Lo.Num.Mag) (Int_2.mk x_0.Lo.Den.Neg x_0.Lo.Den.Mag)) v_1 r_2 v_3 r_4 (Rational.mk (Int_2.mk x_9.Lo.Num.Neg x_9.Lo.Num.Mag) (Int_2.mk x_9.Lo.Den.Neg x_9.Lo.Den.Mag)) v_a r_b v_c r_d hp.imm _ q_14).mono ?_)
      rintro _ w_15 ⟨I_16, v_17, v_18, hv, hq, r_19, r_1a⟩
      replace hv := hv.symm
      subst hv
      have hs := hq.st
      have hp := hp.join0 hq
      replace hz := hz.trans hs
      replace r_6 := r_6.step hs
      replace r_8 := r_8.step hs
      replace r_f := r_f.step hs
      replace r_h := r_h.step hs
      refine ⟨Stp I_16 w_15 I_16, Stp.refl _ _, fun x hx => hz.held hx, ?_⟩
      have hz := Stp.refl I_16 w_15
      obtain ⟨x_1b, q_1c, h⟩ := bind_some h
      refine ev_call rfl rfl C53 (((ref02_Add_ok n) _ _  (Rational.mk (Int_2.mk x_0.Hi.Num.Neg x_0.Hi.Num.Mag) (Int_2.mk x_0.Hi.Den.Neg x_0.Hi.Den.Mag)) v_5 r_6 v_7 r_8 (Rational.mk (Int_2.mk x_9.Hi.Num.Neg x_9.Hi.Num.Mag) (Int_2.mk x_9.Hi.Den.Neg x_9.Hi.Den.Mag)) v_e r_f v_g r_h hp.imm _ q_1c).mono ?_)
      rintro _ w_1d ⟨I_1e, v_1f, v_1g, hv, hq, r_1h, r_1i⟩
      replace hv := hv.symm
      subst hv
      have hs := hq.st
      have hp := hp.join0 hq
      replace hz := hz.trans hs
      replace r_19 := r_19.step hs
      replace r_1a := r_1a.step hs
      refine ⟨Stp I_1e w_1d I_1e, Stp.refl _ _, fun x hx => hz.held hx, ?_⟩
      have hz := Stp.refl I_1e w_1d
      obtain ⟨A_1j, m_1k, m_1l, rfl⟩ := r_19.isSl
      obtain ⟨A_1m, m_1n, m_1o, rfl⟩ := r_1a.isSl
      obtain ⟨A_1p, m_1q, m_1r, rfl⟩ := r_1h.isSl
      obtain ⟨A_1s, m_1t, m_1u, rfl⟩ := r_1i.isSl
      refine evh0 (fun w => rn_build (cs := [(.bool x_13.Num.Neg), (.slice A_1j m_1k m_1l), (.bool x_13.Den.Neg), (.slice A_1m m_1n m_1o), (.bool x_1b.Num.Neg), (.slice A_1p m_1q m_1r), (.bool x_1b.Den.Neg), (.slice A_1s m_1t m_1u)]) rfl rfl T39 PL39 (by kernel_rfl)) ?_
      refine ev_storeA hp (i := 0) (off := 0) (vs := [(.bool x_13.Num.Neg), (.slice A_1j m_1k m_1l), (.bool x_13.Den.Neg), (.slice A_1m m_1n m_1o), (.bool x_1b.Num.Neg), (.slice A_1p m_1q m_1r), (.bool x_1b.Den.Neg), (.slice A_1s m_1t m_1u)]) rfl rfl rfl rfl T39 rfl (Nat.le_of_ble_eq_true rfl) (ones_cons rfl (ones_cons r_19.one (ones_cons rfl (ones_cons r_1a.one (ones_cons rfl (ones_cons r_1h.one (ones_cons rfl (ones_cons r_1i.one ones_nil)))))))) ?_
      intro w_1v hp hs
      replace hz := hz.trans hs
      replace r_19 := r_19.step hs
      replace r_1a := r_1a.step hs
      replace r_1h := r_1h.step hs
      replace r_1i := r_1i.step hs
      refine ⟨Stp I_1e w_1v I_1e, Stp.refl _ _, fun x hx => hz.held hx, ?_⟩
      have hz := Stp.refl I_1e w_1v
      apply go
      obtain rfl := Option.some.inj h
      refine ⟨_, run_loadVarA T39 rfl (hp.at_ (i := 0) rfl), ?_⟩
      have hp := hp.sel [] (by decide)
      exact ⟨I_1e, (.slice A_1j m_1k m_1l), (.slice A_1m m_1n m_1o), (.slice A_1p m_1q m_1r), (.slice A_1s m_1t m_1u), rfl, hp, r_19, r_1a, r_1h, r_1i⟩

end Go.Proofs.YtepadjfmcbjkmaaGreatDoor

namespace Go.Proofs.YtepadjfmcbjkmaaGreatDoor
open Go Go.Proofs.YtepadjfmcbjkmaaGreatDoor.Gw Go.RowKit
set_option linter.unusedVariables false
attribute [local irreducible] Ev EvQ EvS EvH
def ref02_Mul_S (f : Rational → Rational → Option Rational) : Prop := ∀ (w0 : World) (I0 : Nat → Prop) (x_0 : Rational) (v_1 : Value) (r_2 : RepS (dI .u32) w0 I0 v_1 x_0.Num.Mag) (v_3 : Value) (r_4 : RepS (dI .u32) w0 I0 v_3 x_0.Den.Mag) (x_5 : Rational) (v_6 : Value) (r_7 : RepS (dI .u32) w0 I0 v_6 x_5.Num.Mag) (v_8 : Value) (r_9 : RepS (dI .u32) w0 I0 v_8 x_5.Den.Mag) (hI : ∀ g, I0 g → g < w0.heap.size) (r : Rational), f x_0 x_5 = some r →
    Ret Tryz.prog 54 #[(.agg #[(.bool x_0.Num.Neg), v_1, (.bool x_0.Den.Neg), v_3]), (.agg #[(.bool x_5.Num.Neg), v_6, (.bool x_5.Den.Neg), v_8])] w0 fun v w1 => ∃ (I1 : Nat → Prop) (u_a : Value) (u_b : Value), v = (.agg #[(.bool r.Num.Neg), u_a, (.bool r.Den.Neg), u_b]) ∧ Hp ⟨w0, I0, []⟩ I1 [] w1 ∧ RepS (dI .u32) w1 I1 u_a r.Num.Mag ∧ RepS (dI .u32) w1 I1 u_b r.Den.Mag
theorem ref02_Mul_ok (n : Nat) : ref02_Mul_S (ref02_Mul n) := by
  intro w0 I0 x_0 v_1 r_2 v_3 r_4 x_5 v_6 r_7 v_8 r_9 hI r h
  unfold ref02_Mul at h
  refine enter Tryz.func54 rfl (Nat.le_of_ble_eq_true rfl) ?_
  have hp : Hp ⟨w0, I0, []⟩ I0 [] w0 := Hp.start hI
  apply go
  apply go
  refine ev_boxI hp rfl rfl ?_
  intro p_a I_b w_c hp hs a_d
  replace r_7 := r_7.step hs
  replace r_9 := r_9.step hs
  replace r_2 := r_2.step hs
  replace r_4 := r_4.step hs
  refine ev_boxI hp rfl rfl ?_
  intro p_e I_f w_g hp hs a_h
  replace a_d := a_d.step hs
  replace r_2 := r_2.step hs
  replace r_4 := r_4.step hs
  replace r_7 := r_7.step hs
  replace r_9 := r_9.step hs
  refine ev_alloc hp rfl T26 ?_
  intro g_i w_j hp hs
  replace a_d := a_d.step hs
  replace r_2 := r_2.step hs
  replace r_4 := r_4.step hs
  replace a_h := a_h.step hs
  replace r_7 := r_7.step hs
  replace r_9 := r_9.step hs
  apply go
  apply go
  refine ev (rn_load rfl rfl (run_loadVarA T26 rfl a_d)) ?_
  obtain ⟨x_k, q_l, h⟩ := bind_some h
  refine ev_call rfl rfl C35 (((ref02_Norm_ok n) _ _  (Rational.mk (Int_2.mk x_0.Num.Neg x_0.Num.Mag) (Int_2.mk x_0.Den.Neg x_0.Den.Mag)) v_1 r_2 v_3 r_4 hp.imm _ q_l).mono ?_)
  rintro _ w_m ⟨I_n, v_o, v_p, hv, hq, r_q, r_r⟩
  replace hv := hv.symm
  subst hv
  have hs := hq.st
  have hp := hp.join0 hq
  replace a_h := a_h.step hs
  replace r_7 := r_7.step hs
  replace r_9 := r_9.step hs
  refine ev_alloc hp rfl T26 ?_
  intro g_s w_t hp hs
  replace a_h := a_h.step hs
  replace r_7 := r_7.step hs
  replace r_9 := r_9.step hs
  replace r_q := r_q.step hs
  replace r_r := r_r.step hs
  refine ev_storeA hp (i := 0) (off := 0) (vs := [(.bool x_k.Num.Neg), v_o, (.bool x_k.Den.Neg), v_p]) rfl rfl rfl rfl T26 rfl (Nat.le_of_ble_eq_true rfl) (ones_cons rfl (ones_cons r_q.one (ones_cons rfl (ones_cons r_r.one ones_nil)))) ?_
  intro w_u hp hs
  replace a_h := a_h.step hs
  replace r_7 := r_7.step hs
  replace r_9 := r_9.step hs
  replace r_q := r_q.step hs
  replace r_r := r_r.step hs
  apply go
  apply go
  refine ev (rn_load rfl rfl (run_loadVarA T26 rfl a_h)) ?_
  obtain ⟨x_v, q_w, h⟩ := bind_some h
  refine ev_call rfl rfl C35 (((ref02_Norm_ok n) _ _  (Rational.mk (Int_2.mk x_5.Num.Neg x_5.Num.Mag) (Int_2.mk x_5.Den.Neg x_5.Den.Mag)) v_6 r_7 v_8 r_9 hp.imm _ q_w).mono ?_)
  rintro _ w_x ⟨I_y, v_z, v_10, hv, hq, r_11, r_12⟩
  replace hv := hv.symm
  subst hv
  have hs := hq.st
  have hp := hp.join0 hq
  replace r_q := r_q.step hs
  replace r_r := r_r.step hs
  refine ev_alloc hp rfl T26 ?_
  intro g_13 w_14 hp hs
  replace r_11 := r_11.step hs
  replace r_12 := r_12.step hs
  replace r_q := r_q.step hs
  replace r_r := r_r.step hs
  refine ev_storeA hp (i := 0) (off := 0) (vs := [(.bool x_v.Num.Neg), v_z, (.bool x_v.Den.Neg), v_10]) rfl rfl rfl rfl T26 rfl (Nat.le_of_ble_eq_true rfl) (ones_cons rfl (ones_cons r_11.one (ones_cons rfl (ones_cons r_12.one ones_nil)))) ?_
  intro w_15 hp hs
  replace r_11 := r_11.step hs
  replace r_12 := r_12.step hs
  replace r_q := r_q.step hs
  replace r_r := r_r.step hs
  apply go
  have hs := hp.stp (Ch.drew [] w_15)
  have hp := hp.drew
  replace r_11 := r_11.step hs
  replace r_12 := r_12.step hs
  replace r_q := r_q.step hs
  replace r_r := r_r.step hs
  refine W.held [(0, true), (1, true), (2, true), (3, true), (5, true), (6, true), (7, true), (8, true), (4, false), (9, false), (10, false), (11, false)] (fun x => Stp I_y w_15.drew I_y x ∧ OwnK [(g_s, [(.bool x_k.Num.Neg), v_o, (.bool x_k.Den.Neg), v_p], 26), (g_13, [(.bool x_v.Num.Neg), v_z, (.bool x_v.Den.Neg), v_10], 26)] x) MX (by kernel_rfl) ⟨Stp.refl _ _, (OwnK.cons (hp.own 1 _ _ _ rfl).1 (OwnK.cons (hp.own 0 _ _ _ rfl).1 OwnK.nil))⟩ ?_
  have hz := Stp.refl I_y w_15.drew
  refine evh0 (rn_field rfl rfl FO26_0) ?_
  refine evh (fun w' hw => rn_load rfl rfl (run_loadVarA T24 rfl (((hw.2.at_ (i := 0) rfl).drop 0).take 2))) ?_
  refine evh0 (rn_field rfl rfl FO26_0) ?_
  refine evh (fun w' hw => rn_load rfl rfl (run_loadVarA T24 rfl (((hw.2.at_ (i := 1) rfl).drop 0).take 2))) ?_
  refine evh0 (rn_field rfl rfl FO26_1) ?_
  refine evh (fun w' hw => rn_load rfl rfl (run_loadVarA T24 rfl (((hw.2.at_ (i := 0) rfl).drop 2).take 2))) ?_
  refine evh0 (rn_field rfl rfl FO26_1) ?_
  refine evh (fun w' hw => rn_load rfl rfl (run_loadVarA T24 rfl (((hw.2.at_ (i := 1) rfl).drop 2).take 2))) ?_
  obtain ⟨x_16, q_17, h⟩ := bind_some h
  refine ev_call rfl rfl C42 (((ref01_Mul_ok n) _ _  (Int_2.mk x_k.Num.Neg x_k.Num.Mag) v_o r_q (Int_2.mk x_v.Num.Neg x_v.Num.Mag) v_z r_11 hp.imm _ q_17).mono ?_)
  rintro _ w_18 ⟨I_19, v_1a, hv, hq, r_1b⟩
  replace hv := hv.symm
  subst hv
  have hs := hq.st
  have hp := hp.join0 hq
  replace hz := hz.trans hs
  replace r_r := r_r.step hs
  replace r_12 := r_12.step hs
  replace r_11 := r_11.step hs
  replace r_q := r_q.step hs
  refine ⟨fun x => Stp I_19 w_18 I_19 x ∧ OwnK [(g_s, [(.bool x_k.Num.Neg), v_o, (.bool x_k.Den.Neg), v_p], 26), (g_13, [(.bool x_v.Num.Neg), v_z, (.bool x_v.Den.Neg), v_10], 26)] x, ⟨Stp.refl _ _, (OwnK.cons (hp.own 1 _ _ _ rfl).1 (OwnK.cons (hp.own 0 _ _ _ rfl).1 OwnK.nil))⟩, fun x hx => ⟨hz.held hx.1, hx.2⟩, ?_⟩
  have hz := Stp.refl I_19 w_18
  obtain ⟨x_1c, q_1d, h⟩ := bind_some h
  refine ev_call rfl rfl C42 (((ref01_Mul_ok n) _ _  (Int_2.mk x_k.Den.Neg x_k.Den.Mag) v_p r_r (Int_2.mk x_v.Den.Neg x_v.Den.Mag) v_10 r_12 hp.imm _ q_1d).mono ?_)
  rintro _ w_1e ⟨I_1f, v_1g, hv, hq, r_1h⟩
  replace hv := hv.symm
  subst hv
  have hs := hq.st
  have hp := hp.join0 hq
  replace hz := hz.trans hs
  replace r_1b := r_1b.step hs
  replace r_11 := r_11.step hs
  replace r_12 := r_12.step hs
  replace r_q := r_q.step hs
  replace r_r := r_r.step hs
  refine ⟨fun x => Stp I_1f w_1e I_1f x ∧ OwnK [(g_s, [(.bool x_k.Num.Neg), v_o, (.bool x_k.Den.Neg), v_p], 26), (g_13, [(.bool x_v.Num.Neg), v_z, (.bool x_v.Den.Neg), v_10], 26)] x, ⟨Stp.refl _ _, (OwnK.cons (hp.own 1 _ _ _ rfl).1 (OwnK.cons (hp.own 0 _ _ _ rfl).1 OwnK.nil))⟩, fun x hx => ⟨hz.held hx.1, hx.2⟩, ?_⟩
  have hz := Stp.refl I_1f w_1e
  obtain ⟨x_1i, q_1j, h⟩ := bind_some h
  refine ev_call rfl rfl C41 (((ref02_New_ok n) _ _  x_16 v_1a r_1b x_1c v_1g r_1h hp.imm _ q_1j).mono ?_)
  rintro _ w_1k ⟨I_1l, v_1m, v_1n, hv, hq, r_1o, r_1p⟩
  replace hv := hv.symm
  subst hv
  have hs := hq.st
  have hp := hp.join0 hq
  replace hz := hz.trans hs
  replace r_11 := r_11.step hs
  replace r_12 := r_12.step hs
  replace r_q := r_q.step hs
  replace r_r := r_r.step hs
  refine ⟨fun x => Stp I_1l w_1k I_1l x ∧ OwnK [(g_s, [(.bool x_k.Num.Neg), v_o, (.bool x_k.Den.Neg), v_p], 26), (g_13, [(.bool x_v.Num.Neg), v_z, (.bool x_v.Den.Neg), v_10], 26)] x, ⟨Stp.refl _ _, (OwnK.cons (hp.own 1 _ _ _ rfl).1 (OwnK.cons (hp.own 0 _ _ _ rfl).1 OwnK.nil))⟩, fun x hx => ⟨hz.held hx.1, hx.2⟩, ?_⟩
  have hz := Stp.refl I_1l w_1k
  refine ev_storeA hp (i := 2) (off := 0) (vs := [(.bool x_1i.Num.Neg), v_1m, (.bool x_1i.Den.Neg), v_1n]) rfl rfl rfl rfl T26 rfl (Nat.le_of_ble_eq_true rfl) (ones_cons rfl (ones_cons r_1o.one (ones_cons rfl (ones_cons r_1p.one ones_nil)))) ?_
  intro w_1q hp hs
  replace hz := hz.trans hs
  replace r_11 := r_11.step hs
  replace r_12 := r_12.step hs
  replace r_q := r_q.step hs
  replace r_r := r_r.step hs
  replace r_1o := r_1o.step hs
  replace r_1p := r_1p.step hs
  refine ⟨fun x => Stp I_1l w_1q I_1l x ∧ OwnK [(g_s, [(.bool x_k.Num.Neg), v_o, (.bool x_k.Den.Neg), v_p], 26), (g_13, [(.bool x_v.Num.Neg), v_z, (.bool x_v.Den.Neg), v_10], 26)] x, ⟨Stp.refl _ _, (OwnK.cons (hp.own 1 _ _ _ rfl).1 (OwnK.cons (hp.own 0 _ _ _ rfl).1 OwnK.nil))⟩, fun x hx => ⟨hz.held hx.1, hx.2⟩, ?_⟩
  have hz := Stp.refl I_1l w_1q
  apply go
  obtain rfl := Option.some.inj h
  refine ⟨_, run_loadVarA T26 rfl (hp.at_ (i := 2) rfl), ?_⟩
  have hp := hp.sel [] (by decide)
  exact ⟨I_1l, v_1m, v_1n, rfl, hp, r_1o, r_1p⟩

end Go.Proofs.YtepadjfmcbjkmaaGreatDoor

namespace Go.Proofs.YtepadjfmcbjkmaaGreatDoor
open Go Go.Proofs.YtepadjfmcbjkmaaGreatDoor.Gw Go.RowKit
set_option linter.unusedVariables false
attribute [local irreducible] Ev EvQ EvS EvH
def ref02_least_S (f : Rational → Rational → Option Rational) : Prop := ∀ (w0 : World) (I0 : Nat → Prop) (x_0 : Rational) (v_1 : Value) (r_2 : RepS (dI .u32) w0 I0 v_1 x_0.Num.Mag) (v_3 : Value) (r_4 : RepS (dI .u32) w0 I0 v_3 x_0.Den.Mag) (x_5 : Rational) (v_6 : Value) (r_7 : RepS (dI .u32) w0 I0 v_6 x_5.Num.Mag) (v_8 : Value) (r_9 : RepS (dI .u32) w0 I0 v_8 x_5.Den.Mag) (hI : ∀ g, I0 g → g < w0.heap.size) (r : Rational), f x_0 x_5 = some r →
    Ret Tryz.prog 55 #[(.agg #[(.bool x_0.Num.Neg), v_1, (.bool x_0.Den.Neg), v_3]), (.agg #[(.bool x_5.Num.Neg), v_6, (.bool x_5.Den.Neg), v_8])] w0 fun v w1 => ∃ (I1 : Nat → Prop) (u_a : Value) (u_b : Value), v = (.agg #[(.bool r.Num.Neg), u_a, (.bool r.Den.Neg), u_b]) ∧ Hp ⟨w0, I0, []⟩ I1 [] w1 ∧ RepS (dI .u32) w1 I1 u_a r.Num.Mag ∧ RepS (dI .u32) w1 I1 u_b r.Den.Mag
theorem ref02_least_ok (n : Nat) : ref02_least_S (ref02_least n) := by
  intro w0 I0 x_0 v_1 r_2 v_3 r_4 x_5 v_6 r_7 v_8 r_9 hI r h
  unfold ref02_least at h
  refine enter Tryz.func55 rfl (Nat.le_of_ble_eq_true rfl) ?_
  have hp : Hp ⟨w0, I0, []⟩ I0 [] w0 := Hp.start hI
  apply go
  apply go
  refine ev_boxI hp rfl rfl ?_
  intro p_a I_b w_c hp hs a_d
  replace r_7 := r_7.step hs
  replace r_9 := r_9.step hs
  replace r_2 := r_2.step hs
  replace r_4 := r_4.step hs
  refine ev_boxI hp rfl rfl ?_
  intro p_e I_f w_g hp hs a_h
  replace a_d := a_d.step hs
  replace r_2 := r_2.step hs
  replace r_4 := r_4.step hs
  replace r_7 := r_7.step hs
  replace r_9 := r_9.step hs
  refine ev_alloc hp rfl T26 ?_
  intro g_i w_j hp hs
  replace a_d := a_d.step hs
  replace r_2 := r_2.step hs
  replace r_4 := r_4.step hs
  replace a_h := a_h.step hs
  replace r_7 := r_7.step hs
  replace r_9 := r_9.step hs
  apply go
  apply go
  apply go
  refine ev (rn_load rfl rfl (run_loadVarA T26 rfl a_h)) ?_
  refine ev (rn_load rfl rfl (run_loadVarA T26 rfl a_d)) ?_
  obtain ⟨x_k, q_l, h⟩ := bind_some h
  refine ev_call rfl rfl C16 (((ref02_Cmp_ok n) _ _  (Rational.mk (Int_2.mk x_5.Num.Neg x_5.Num.Mag) (Int_2.mk x_5.Den.Neg x_5.Den.Mag)) v_6 r_7 v_8 r_9 (Rational.mk (Int_2.mk x_0.Num.Neg x_0.Num.Mag) (Int_2.mk x_0.Den.Neg x_0.Den.Mag)) v_1 r_2 v_3 r_4 hp.imm _ q_l).mono ?_)
  rintro _ w_m ⟨rfl, hc⟩
  have hs := hp.stp hc
  replace hp := hp.ext hc
  replace a_d := a_d.step hs
  replace r_2 := r_2.step hs
  replace r_4 := r_4.step hs
  replace a_h := a_h.step hs
  replace r_7 := r_7.step hs
  replace r_9 := r_9.step hs
  apply go
  refine sel_of (fun hc => ?_) (fun hc => ?_)
  ·
    have h := cond_t h hc
    apply go
    apply go
    refine ev (rn_load rfl rfl (run_loadVarA T26 rfl a_h)) ?_
    obtain ⟨x_n, q_o, h⟩ := bind_some h
    refine ev_call rfl rfl C35 (((ref02_Norm_ok n) _ _  (Rational.mk (Int_2.mk x_5.Num.Neg x_5.Num.Mag) (Int_2.mk x_5.Den.Neg x_5.Den.Mag)) v_6 r_7 v_8 r_9 hp.imm _ q_o).mono ?_)
    rintro _ w_p ⟨I_q, v_r, v_s, hv, hq, r_t, r_u⟩
    replace hv := hv.symm
    subst hv
    have hs := hq.st
    have hp := hp.join0 hq
    refine ev_storeA hp (i := 0) (off := 0) (vs := [(.bool x_n.Num.Neg), v_r, (.bool x_n.Den.Neg), v_s]) rfl rfl rfl rfl T26 rfl (Nat.le_of_ble_eq_true rfl) (ones_cons rfl (ones_cons r_t.one (ones_cons rfl (ones_cons r_u.one ones_nil)))) ?_
    intro w_v hp hs
    replace r_t := r_t.step hs
    replace r_u := r_u.step hs
    apply go
    obtain rfl := Option.some.inj h
    refine ⟨_, run_loadVarA T26 rfl (hp.at_ (i := 0) rfl), ?_⟩
    have hp := hp.sel [] (by decide)
    exact ⟨I_q, v_r, v_s, rfl, hp, r_t, r_u⟩
  ·
    have h := cond_f h hc
    apply go
    apply go
    apply go
    refine ev (rn_load rfl rfl (run_loadVarA T26 rfl a_d)) ?_
    obtain ⟨x_w, q_x, h⟩ := bind_some h
    refine ev_call rfl rfl C35 (((ref02_Norm_ok n) _ _  (Rational.mk (Int_2.mk x_0.Num.Neg x_0.Num.Mag) (Int_2.mk x_0.Den.Neg x_0.Den.Mag)) v_1 r_2 v_3 r_4 hp.imm _ q_x).mono ?_)
    rintro _ w_y ⟨I_z, v_10, v_11, hv, hq, r_12, r_13⟩
    replace hv := hv.symm
    subst hv
    have hs := hq.st
    have hp := hp.join0 hq
    refine ev_storeA hp (i := 0) (off := 0) (vs := [(.bool x_w.Num.Neg), v_10, (.bool x_w.Den.Neg), v_11]) rfl rfl rfl rfl T26 rfl (Nat.le_of_ble_eq_true rfl) (ones_cons rfl (ones_cons r_12.one (ones_cons rfl (ones_cons r_13.one ones_nil)))) ?_
    intro w_14 hp hs
    replace r_12 := r_12.step hs
    replace r_13 := r_13.step hs
    apply go
    obtain rfl := Option.some.inj h
    refine ⟨_, run_loadVarA T26 rfl (hp.at_ (i := 0) rfl), ?_⟩
    have hp := hp.sel [] (by decide)
    exact ⟨I_z, v_10, v_11, rfl, hp, r_12, r_13⟩

end Go.Proofs.YtepadjfmcbjkmaaGreatDoor

namespace Go.Proofs.YtepadjfmcbjkmaaGreatDoor
open Go Go.Proofs.YtepadjfmcbjkmaaGreatDoor.Gw Go.RowKit
set_option linter.unusedVariables false
attribute [local irreducible] Ev EvQ EvS EvH
def ref02_greatest_S (f : Rational → Rational → Option Rational) : Prop := ∀ (w0 : World) (I0 : Nat → Prop) (x_0 : Rational) (v_1 : Value) (r_2 : RepS (dI .u32) w0 I0 v_1 x_0.Num.Mag) (v_3 : Value) (r_4 : RepS (dI .u32) w0 I0 v_3 x_0.Den.Mag) (x_5 : Rational) (v_6 : Value) (r_7 : RepS (dI .u32) w0 I0 v_6 x_5.Num.Mag) (v_8 : Value) (r_9 : RepS (dI .u32) w0 I0 v_8 x_5.Den.Mag) (hI : ∀ g, I0 g → g < w0.heap.size) (r : Rational), f x_0 x_5 = some r →
    Ret Tryz.prog 56 #[(.agg #[(.bool x_0.Num.Neg), v_1, (.bool x_0.Den.Neg), v_3]), (.agg #[(.bool x_5.Num.Neg), v_6, (.bool x_5.Den.Neg), v_8])] w0 fun v w1 => ∃ (I1 : Nat → Prop) (u_a : Value) (u_b : Value), v = (.agg #[(.bool r.Num.Neg), u_a, (.bool r.Den.Neg), u_b]) ∧ Hp ⟨w0, I0, []⟩ I1 [] w1 ∧ RepS (dI .u32) w1 I1 u_a r.Num.Mag ∧ RepS (dI .u32) w1 I1 u_b r.Den.Mag
theorem ref02_greatest_ok (n : Nat) : ref02_greatest_S (ref02_greatest n) := by
  intro w0 I0 x_0 v_1 r_2 v_3 r_4 x_5 v_6 r_7 v_8 r_9 hI r h
  unfold ref02_greatest at h
  refine enter Tryz.func56 rfl (Nat.le_of_ble_eq_true rfl) ?_
  have hp : Hp ⟨w0, I0, []⟩ I0 [] w0 := Hp.start hI
  apply go
  apply go
  refine ev_boxI hp rfl rfl ?_
  intro p_a I_b w_c hp hs a_d
  replace r_7 := r_7.step hs
  replace r_9 := r_9.step hs
  replace r_2 := r_2.step hs
  replace r_4 := r_4.step hs
  refine ev_boxI hp rfl rfl ?_
  intro p_e I_f w_g hp hs a_h
  replace a_d := a_d.step hs
  replace r_2 := r_2.step hs
  replace r_4 := r_4.step hs
  replace r_7 := r_7.step hs
  replace r_9 := r_9.step hs
  refine ev_alloc hp rfl T26 ?_
  intro g_i w_j hp hs
  replace a_d := a_d.step hs
  replace r_2 := r_2.step hs
  replace r_4 := r_4.step hs
  replace a_h := a_h.step hs
  replace r_7 := r_7.step hs
  replace r_9 := r_9.step hs
  apply go
  apply go
  apply go
  refine ev (rn_load rfl rfl (run_loadVarA T26 rfl a_h)) ?_
  refine ev (rn_load rfl rfl (run_loadVarA T26 rfl a_d)) ?_
  obtain ⟨x_k, q_l, h⟩ := bind_some h
  refine ev_call rfl rfl C16 (((ref02_Cmp_ok n) _ _  (Rational.mk (Int_2.mk x_5.Num.Neg x_5.Num.Mag) (Int_2.mk x_5.Den.Neg x_5.Den.Mag)) v_6 r_7 v_8 r_9 (Rational.mk (Int_2.mk x_0.Num.Neg x_0.Num.Mag) (Int_2.mk x_0.Den.Neg x_0.Den.Mag)) v_1 r_2 v_3 r_4 hp.imm _ q_l).mono ?_)
  rintro _ w_m ⟨rfl, hc⟩
  have hs := hp.stp hc
  replace hp := hp.ext hc
  replace a_d := a_d.step hs
  replace r_2 := r_2.step hs
  replace r_4 := r_4.step hs
  replace a_h := a_h.step hs
  replace r_7 := r_7.step hs
  replace r_9 := r_9.step hs
  apply go
  refine sel_of (fun hc => ?_) (fun hc => ?_)
  ·
    have h := cond_t h hc
    apply go
    apply go
    refine ev (rn_load rfl rfl (run_loadVarA T26 rfl a_h)) ?_
    obtain ⟨x_n, q_o, h⟩ := bind_some h
    refine ev_call rfl rfl C35 (((ref02_Norm_ok n) _ _  (Rational.mk (Int_2.mk x_5.Num.Neg x_5.Num.Mag) (Int_2.mk x_5.Den.Neg x_5.Den.Mag)) v_6 r_7 v_8 r_9 hp.imm _ q_o).mono ?_)
    rintro _ w_p ⟨I_q, v_r, v_s, hv, hq, r_t, r_u⟩
    replace hv := hv.symm
    subst hv
    have hs := hq.st
    have hp := hp.join0 hq
    refine ev_storeA hp (i := 0) (off := 0) (vs := [(.bool x_n.Num.Neg), v_r, (.bool x_n.Den.Neg), v_s]) rfl rfl rfl rfl T26 rfl (Nat.le_of_ble_eq_true rfl) (ones_cons rfl (ones_cons r_t.one (ones_cons rfl (ones_cons r_u.one ones_nil)))) ?_
    intro w_v hp hs
    replace r_t := r_t.step hs
    replace r_u := r_u.step hs
    apply go
    obtain rfl := Option.some.inj h
    refine ⟨_, run_loadVarA T26 rfl (hp.at_ (i := 0) rfl), ?_⟩
    have hp := hp.sel [] (by decide)
    exact ⟨I_q, v_r, v_s, rfl, hp, r_t, r_u⟩
  ·
    have h := cond_f h hc
    apply go
    apply go
    apply go
    refine ev (rn_load rfl rfl (run_loadVarA T26 rfl a_d)) ?_
    obtain ⟨x_w, q_x, h⟩ := bind_some h
    refine ev_call rfl rfl C35 (((ref02_Norm_ok n) _ _  (Rational.mk (Int_2.mk x_0.Num.Neg x_0.Num.Mag) (Int_2.mk x_0.Den.Neg x_0.Den.Mag)) v_1 r_2 v_3 r_4 hp.imm _ q_x).mono ?_)
    rintro _ w_y ⟨I_z, v_10, v_11, hv, hq, r_12, r_13⟩
    replace hv := hv.symm
    subst hv
    have hs := hq.st
    have hp := hp.join0 hq
    refine ev_storeA hp (i := 0) (off := 0) (vs := [(.bool x_w.Num.Neg), v_10, (.bool x_w.Den.Neg), v_11]) rfl rfl rfl rfl T26 rfl (Nat.le_of_ble_eq_true rfl) (ones_cons rfl (ones_cons r_12.one (ones_cons rfl (ones_cons r_13.one ones_nil)))) ?_
    intro w_14 hp hs
    replace r_12 := r_12.step hs
    replace r_13 := r_13.step hs
    apply go
    obtain rfl := Option.some.inj h
    refine ⟨_, run_loadVarA T26 rfl (hp.at_ (i := 0) rfl), ?_⟩
    have hp := hp.sel [] (by decide)
    exact ⟨I_z, v_10, v_11, rfl, hp, r_12, r_13⟩

end Go.Proofs.YtepadjfmcbjkmaaGreatDoor

namespace Go.Proofs.YtepadjfmcbjkmaaGreatDoor
open Go Go.Proofs.YtepadjfmcbjkmaaGreatDoor.Gw Go.RowKit
set_option linter.unusedVariables false
attribute [local irreducible] Ev EvQ EvS EvH vch
def ref02_Times_S (f : Interval → Interval → Option (Interval × Int)) : Prop := ∀ (w0 : World) (I0 : Nat → Prop) (x_0 : Interval) (v_1 : Value) (r_2 : RepS (dI .u32) w0 I0 v_1 x_0.Lo.Num.Mag) (v_3 : Value) (r_4 : RepS (dI .u32) w0 I0 v_3 x_0.Lo.Den.Mag) (v_5 : Value) (r_6 : RepS (dI .u32) w0 I0 v_5 x_0.Hi.Num.Mag) (v_7 : Value) (r_8 : RepS (dI .u32) w0 I0 v_7 x_0.Hi.Den.Mag) (x_9 : Interval) (v_a : Value) (r_b : RepS (dI .u32) w0 I0 v_a x_9.Lo.Num.Mag) (v_c : Value) (r_d : RepS (dI .u32) w0 I0 v_c x_9.Lo.Den.Mag) (v_e : Value) (r_f : RepS (dI .u32) w0 I0 v_e x_9.Hi.Num.Mag) (v_g : Value) (r_h : RepS (dI .u32) w0 I0 v_g x_9.Hi.Den.Mag) (hI : ∀ g, I0 g → g < w0.heap.size) (r : (Interval × Int)), f x_0 x_9 = some r →
    Ret Tryz.prog 24 #[(.agg #[(.bool x_0.Lo.Num.Neg), v_1, (.bool x_0.Lo.Den.Neg), v_3, (.bool x_0.Hi.Num.Neg), v_5, (.bool x_0.Hi.Den.Neg), v_7]), (.agg #[(.bool x_9.Lo.Num.Neg), v_a, (.bool x_9.Lo.Den.Neg), v_c, (.bool x_9.Hi.Num.Neg), v_e, (.bool x_9.Hi.Den.Neg), v_g])] w0 fun v w1 => ∃ (I1 : Nat → Prop) (u_i : Value) (u_j : Value) (u_k : Value) (u_l : Value), v = (.tuple #[(.agg #[(.bool r.1.Lo.Num.Neg), u_i, (.bool r.1.Lo.Den.Neg), u_j, (.bool r.1.Hi.Num.Neg), u_k, (.bool r.1.Hi.Den.Neg), u_l]), (.int .i64 r.2)]) ∧ Hp ⟨w0, I0, []⟩ I1 [] w1 ∧ RepS (dI .u32) w1 I1 u_i r.1.Lo.Num.Mag ∧ RepS (dI .u32) w1 I1 u_j r.1.Lo.Den.Mag ∧ RepS (dI .u32) w1 I1 u_k r.1.Hi.Num.Mag ∧ RepS (dI .u32) w1 I1 u_l r.1.Hi.Den.Mag
theorem ref02_Times_ok (n : Nat) : ref02_Times_S (ref02_Times n) := by
  intro w0 I0 x_0 v_1 r_2 v_3 r_4 v_5 r_6 v_7 r_8 x_9 v_a r_b v_c r_d v_e r_f v_g r_h hI r h
  unfold ref02_Times at h
  refine enter Tryz.func24 rfl (Nat.le_of_ble_eq_true rfl) ?_
  have hp : Hp ⟨w0, I0, []⟩ I0 [] w0 := Hp.start hI
  apply go
  apply go
  refine ev_boxI hp rfl rfl ?_
  intro p_i I_j w_k hp hs a_l
  replace r_b := r_b.step hs
  replace r_d := r_d.step hs
  replace r_f := r_f.step hs
  replace r_h := r_h.step hs
  replace r_2 := r_2.step hs
  replace r_4 := r_4.step hs
  replace r_6 := r_6.step hs
  replace r_8 := r_8.step hs
  refine ev_boxI hp rfl rfl ?_
  intro p_m I_n w_o hp hs a_p
  replace a_l := a_l.step hs
  replace r_2 := r_2.step hs
  replace r_4 := r_4.step hs
  replace r_6 := r_6.step hs
  replace r_8 := r_8.step hs
  replace r_b := r_b.step hs
  replace r_d := r_d.step hs
  replace r_f := r_f.step hs
  replace r_h := r_h.step hs
  refine ev_alloc hp rfl T39 ?_
  intro g_q w_r hp hs
  replace a_l := a_l.step hs
  replace r_2 := r_2.step hs
  replace r_4 := r_4.step hs
  replace r_6 := r_6.step hs
  replace r_8 := r_8.step hs
  replace a_p := a_p.step hs
  replace r_b := r_b.step hs
  replace r_d := r_d.step hs
  replace r_f := r_f.step hs
  replace r_h := r_h.step hs
  apply go
  obtain ⟨y_s, q_t, h⟩ := bind_some h
  refine W.cut (γ := Bool) (fun g => [(2, (.pointer (some (p_i)))), (3, (.pointer (some (p_m)))), (4, (.pointer (some ⟨g_q, 0, none⟩))), (14, (.bool (g)))]) (fun g w' => y_s = (g) ∧ Hp ⟨w0, I0, []⟩ I_n [some (g_q, [(.bool false), (.slice none 0 0), (.bool false), (.slice none 0 0), (.bool false), (.slice none 0 0), (.bool false), (.slice none 0 0)], 39)] w' ∧ RepS (dI .u32) w' I_n v_1 x_0.Lo.Num.Mag ∧ RepS (dI .u32) w' I_n v_3 x_0.Lo.Den.Mag ∧ RepS (dI .u32) w' I_n v_5 x_0.Hi.Num.Mag ∧ RepS (dI .u32) w' I_n v_7 x_0.Hi.Den.Mag ∧ At w' I_n p_i [(.bool x_0.Lo.Num.Neg), v_1, (.bool x_0.Lo.Den.Neg), v_3, (.bool x_0.Hi.Num.Neg), v_5, (.bool x_0.Hi.Den.Neg), v_7] ∧ RepS (dI .u32) w' I_n v_a x_9.Lo.Num.Mag ∧ RepS (dI .u32) w' I_n v_c x_9.Lo.Den.Mag ∧ RepS (dI .u32) w' I_n v_e x_9.Hi.Num.Mag ∧ RepS (dI .u32) w' I_n v_g x_9.Hi.Den.Mag ∧ At w' I_n p_m [(.bool x_9.Lo.Num.Neg), v_a, (.bool x_9.Lo.Den.Neg), v_c, (.bool x_9.Hi.Num.Neg), v_e, (.bool x_9.Hi.Den.Neg), v_g]) ?_ ?_
  ·
    apply go
    refine ev (rn_load rfl rfl (run_loadVarA T39 rfl a_l)) ?_
    obtain ⟨x_u, q_v, q_t⟩ := bind_some q_t
    refine ev_call rfl rfl C52 (((ref02_Empty_ok n) _ _  (Interval.mk (Rational.mk (Int_2.mk x_0.Lo.Num.Neg x_0.Lo.Num.Mag) (Int_2.mk x_0.Lo.Den.Neg x_0.Lo.Den.Mag)) (Rational.mk (Int_2.mk x_0.Hi.Num.Neg x_0.Hi.Num.Mag) (Int_2.mk x_0.Hi.Den.Neg x_0.Hi.Den.Mag))) v_1 r_2 v_3 r_4 v_5 r_6 v_7 r_8 hp.imm _ q_v).mono ?_)
    rintro _ w_w ⟨rfl, hc⟩
    have hs := hp.stp hc
    replace hp := hp.ext hc
    replace a_l := a_l.step hs
    replace r_2 := r_2.step hs
    replace r_4 := r_4.step hs
    replace r_6 := r_6.step hs
    replace r_8 := r_8.step hs
    replace a_p := a_p.step hs
    replace r_b := r_b.step hs
    replace r_d := r_d.step hs
    replace r_f := r_f.step hs
    replace r_h := r_h.step hs
    refine sel_of (fun hc => ?_) (fun hc => ?_)
    ·
      have q_t := cond_t q_t hc
      obtain rfl := Option.some.inj q_t
      exact ⟨true, (.c rfl (.c rfl (.c rfl (.c rfl .n)))), rfl, hp, r_2, r_4, r_6, r_8, a_l, r_b, r_d, r_f, r_h, a_p⟩
    ·
      have q_t := cond_f q_t hc
      refine ev (rn_load rfl rfl (run_loadVarA T39 rfl a_p)) ?_
      obtain ⟨x_x, q_y, q_t⟩ := bind_some q_t
      refine ev_call rfl rfl C52 (((ref02_Empty_ok n) _ _  (Interval.mk (Rational.mk (Int_2.mk x_9.Lo.Num.Neg x_9.Lo.Num.Mag) (Int_2.mk x_9.Lo.Den.Neg x_9.Lo.Den.Mag)) (Rational.mk (Int_2.mk x_9.Hi.Num.Neg x_9.Hi.Num.Mag) (Int_2.mk x_9.Hi.Den.Neg x_9.Hi.Den.Mag))) v_a r_b v_c r_d v_e r_f v_g r_h hp.imm _ q_y).mono ?_)
      rintro _ w_z ⟨rfl, hc⟩
      have hs := hp.stp hc
      replace hp := hp.ext hc
      replace a_l := a_l.step hs
      replace r_2 := r_2.step hs
      replace r_4 := r_4.step hs
      replace r_6 := r_6.step hs
      replace r_8 := r_8.step hs
      replace a_p := a_p.step hs
      replace r_b := r_b.step hs
      replace r_d := r_d.step hs
      replace r_f := r_f.step hs
      replace r_h := r_h.step hs
      obtain rfl := Option.some.inj q_t
      exact ⟨x_x, (.c rfl (.c rfl (.c rfl (.c rfl .n)))), rfl, hp, r_2, r_4, r_6, r_8, a_l, r_b, r_d, r_f, r_h, a_p⟩
  ·
    rintro x_10 w_11 ⟨hy, hp, r_2, r_4, r_6, r_8, a_l, r_b, r_d, r_f, r_h, a_p⟩
    replace hy := hy.symm
    subst hy
    apply go
    refine sel_of (fun hc => ?_) (fun hc => ?_)
    ·
      have h := cond_t h hc
      apply go
      apply go
      refine ev0 (fun w => rn_build (cs := [(.bool false), (.slice none 0 0), (.bool false), (.slice none 0 0), (.bool false), (.slice none 0 0), (.bool false), (.slice none 0 0)]) rfl rfl T39 PL39 (by kernel_rfl)) ?_
      refine ev_storeA hp (i := 0) (off := 0) (vs := [(.bool false), (.slice none 0 0), (.bool false), (.slice none 0 0), (.bool false), (.slice none 0 0), (.bool false), (.slice none 0 0)]) rfl rfl rfl rfl T39 rfl (Nat.le_of_ble_eq_true rfl) (ones_of rfl) ?_
      intro w_12 hp hs
      apply go
      obtain rfl := Option.some.inj h
      refine ⟨_, run_loadVarA T39 rfl (hp.at_ (i := 0) rfl), ?_⟩
      have hp := hp.sel [] (by decide)
      exact ⟨I_n, .slice none 0 0, .slice none 0 0, .slice none 0 0, .slice none 0 0, rfl, hp, RepS.nil _ _ _, RepS.nil _ _ _, RepS.nil _ _ _, RepS.nil _ _ _⟩
    ·
      have h := cond_f h hc
      apply go
      apply go
      have hs := hp.stp (Ch.drew [] w_11)
      have hp := hp.drew
      replace a_l := a_l.step hs
      replace r_2 := r_2.step hs
      replace r_4 := r_4.step hs
      replace r_6 := r_6.step hs
      replace r_8 := r_8.step hs
      replace a_p := a_p.step hs
      replace r_b := r_b.step hs
      replace r_d := r_d.step hs
      replace r_f := r_f.step hs
      replace r_h := r_h.step hs
      refine W.heldT [(0, true), (1, true), (2, true), (3, true), (5, true), (6, true), (7, true), (8, true), (10, true), (11, true), (12, true), (13, true), (15, true), (16, true), (17, true), (18, true), (4, false), (9, false), (14, false), (19, false), (20, false), (21, true)] (Stp I_n w_11.drew I_n) MX (by kernel_rfl) (Stp.refl _ _) ?_
      have hz := Stp.refl I_n w_11.drew
      intro ops hops
      have e0 : nthO ops 0 = some _ := (hops 0).trans rfl
      have e1 : nthO ops 1 = some _ := (hops 1).trans rfl
      have e2 : nthO ops 2 = some _ := (hops 2).trans rfl
      have e3 : nthO ops 3 = some _ := (hops 3).trans rfl
      have e4 : nthO ops 4 = some _ := (hops 4).trans rfl
      have e5 : nthO ops 5 = some _ := (hops 5).trans rfl
      have e6 : nthO ops 6 = some _ := (hops 6).trans rfl
      have e7 : nthO ops 7 = some _ := (hops 7).trans rfl
      have e8 : nthO ops 8 = some _ := (hops 8).trans rfl
      have e9 : nthO ops 9 = some _ := (hops 9).trans rfl
      have e10 : nthO ops 10 = some _ := (hops 10).trans rfl
      have e11 : nthO ops 11 = some _ := (hops 11).trans rfl
      have e12 : nthO ops 12 = some _ := (hops 12).trans rfl
      have e13 : nthO ops 13 = some _ := (hops 13).trans rfl
      have e14 : nthO ops 14 = some _ := (hops 14).trans rfl
      have e15 : nthO ops 15 = some _ := (hops 15).trans rfl
      have e16 : nthO ops 16 = some _ := (hops 16).trans rfl
      have e17 : nthO ops 17 = some _ := (hops 17).trans rfl
      have e18 : nthO ops 18 = some _ := (hops 18).trans rfl
      have e19 : nthO ops 19 = some _ := (hops 19).trans rfl
      have e20 : nthO ops 20 = some _ := (hops 20).trans rfl
      have e21 : nthO ops 21 = some _ := (hops 21).trans rfl
      clear hops
      refine vch_q e0 rfl ?_
      refine evh0 (rn_field rfl rfl FO39_0) ?_
      refine vch_q e1 rfl ?_
      refine evh (fun w' hw => rn_load rfl rfl (run_loadVarA T26 rfl (((a_l.step hw).drop 0).take 4))) ?_
      refine vch_q e2 rfl ?_
      refine evh0 (rn_field rfl rfl FO39_0) ?_
      refine vch_q e3 rfl ?_
      refine evh (fun w' hw => rn_load rfl rfl (run_loadVarA T26 rfl (((a_p.step hw).drop 0).take 4))) ?_
      refine vch_q e5 rfl ?_
      refine evh0 (rn_field rfl rfl FO39_0) ?_
      refine vch_q e6 rfl ?_
      refine evh (fun w' hw => rn_load rfl rfl (run_loadVarA T26 rfl (((a_l.step hw).drop 0).take 4))) ?_
      refine vch_q e7 rfl ?_
      refine evh0 (rn_field rfl rfl FO39_1) ?_
      refine vch_q e8 rfl ?_
      refine evh (fun w' hw => rn_load rfl rfl (run_loadVarA T26 rfl (((a_p.step hw).drop 4).take 4))) ?_
      refine vch_q e10 rfl ?_
      refine evh0 (rn_field rfl rfl FO39_1) ?_
      refine vch_q e11 rfl ?_
      refine evh (fun w' hw => rn_load rfl rfl (run_loadVarA T26 rfl (((a_l.step hw).drop 4).take 4))) ?_
      refine vch_q e12 rfl ?_
      refine evh0 (rn_field rfl rfl FO39_0) ?_
      refine vch_q e13 rfl ?_
      refine evh (fun w' hw => rn_load rfl rfl (run_loadVarA T26 rfl (((a_p.step hw).drop 0).take 4))) ?_
      refine vch_q e15 rfl ?_
      refine evh0 (rn_field rfl rfl FO39_1) ?_
      refine vch_q e16 rfl ?_
      refine evh (fun w' hw => rn_load rfl rfl (run_loadVarA T26 rfl (((a_l.step hw).drop 4).take 4))) ?_
      refine vch_q e17 rfl ?_
      refine evh0 (rn_field rfl rfl FO39_1) ?_
      refine vch_q e18 rfl ?_
      refine evh (fun w' hw => rn_load rfl rfl (run_loadVarA T26 rfl (((a_p.step hw).drop 4).take 4))) ?_
      refine vch_l e4 rfl ?_
      obtain ⟨x_13, q_14, h⟩ := bind_some h
      refine ev_call rfl rfl C54 (((ref02_Mul_ok n) _ _  (Rational.mk (Int_2.mk x_0.Lo.Num.Neg x_0.Lo.Num.Mag) (Int_2.mk x_0.Lo.Den.Neg x_0.Lo.Den.Mag)) v_1 r_2 v_3 r_4 (Rational.mk (Int_2.mk x_9.Lo.Num.Neg x_9.Lo.Num.Mag) (Int_2.mk x_9.Lo.Den.Neg x_9.Lo.Den.Mag)) v_a r_b v_c r_d hp.imm _ q_14).mono ?_)
      rintro _ w_15 ⟨I_16, v_17, v_18, hv, hq, r_19, r_1a⟩
      replace hv := hv.symm
      subst hv
      have hs := hq.st
      have hp := hp.join0 hq
      replace hz := hz.trans hs
      replace r_2 := r_2.step hs
      replace r_4 := r_4.step hs
      replace r_f := r_f.step hs
      replace r_h := r_h.step hs
      replace r_6 := r_6.step hs
      replace r_8 := r_8.step hs
      replace r_b := r_b.step hs
      replace r_d := r_d.step hs
      refine ⟨Stp I_16 w_15 I_16, Stp.refl _ _, fun x hx => hz.held hx, ?_⟩
      have hz := Stp.refl I_16 w_15
      refine vch_l e9 rfl ?_
      obtain ⟨x_1b, q_1c, h⟩ := bind_some h
      refine ev_call rfl rfl C54 (((ref02_Mul_ok n) _ _  (Rational.mk (Int_2.mk x_0.Lo.Num.Neg x_0.Lo.Num.Mag) (Int_2.mk x_0.Lo.Den.Neg x_0.Lo.Den.Mag)) v_1 r_2 v_3 r_4 (Rational.mk (Int_2.mk x_9.Hi.Num.Neg x_9.Hi.Num.Mag) (Int_2.mk x_9.Hi.Den.Neg x_9.Hi.Den.Mag)) v_e r_f v_g r_h hp.imm _ q_1c).mono ?_)
      rintro _ w_1d ⟨I_1e, v_1f, v_1g, hv, hq, r_1h, r_1i⟩
      replace hv := hv.symm
      subst hv
      have hs := hq.st
      have hp := hp.join0 hq
      replace hz := hz.trans hs
      replace r_6 := r_6.step hs
      replace r_8 := r_8.step hs
      replace r_b := r_b.step hs
      replace r_d := r_d.step hs
      replace r_f := r_f.step hs
      replace r_h := r_h.step hs
      replace r_19 := r_19.step hs
      replace r_1a := r_1a.step hs
      refine ⟨Stp I_1e w_1d I_1e, Stp.refl _ _, fun x hx => hz.held hx, ?_⟩
      have hz := Stp.refl I_1e w_1d
      refine vch_l e14 rfl ?_
      obtain ⟨x_1j, q_1k, h⟩ := bind_some h
      refine ev_call rfl rfl C54 (((ref02_Mul_ok n) _ _  (Rational.mk (Int_2.mk x_0.Hi.Num.Neg x_0.Hi.Num.Mag) (Int_2.mk x_0.Hi.Den.Neg x_0.Hi.Den.Mag)) v_5 r_6 v_7 r_8 (Rational.mk (Int_2.mk x_9.Lo.Num.Neg x_9.Lo.Num.Mag) (Int_2.mk x_9.Lo.Den.Neg x_9.Lo.Den.Mag)) v_a r_b v_c r_d hp.imm _ q_1k).mono ?_)
      rintro _ w_1l ⟨I_1m, v_1n, v_1o, hv, hq, r_1p, r_1q⟩
      replace hv := hv.symm
      subst hv
      have hs := hq.st
      have hp := hp.join0 hq
      replace hz := hz.trans hs
      replace r_6 := r_6.step hs
      replace r_8 := r_8.step hs
      replace r_f := r_f.step hs
      replace r_h := r_h.step hs
      replace r_19 := r_19.step hs
      replace r_1a := r_1a.step hs
      replace r_1h := r_1h.step hs
      replace r_1i := r_1i.step hs
      refine ⟨Stp I_1m w_1l I_1m, Stp.refl _ _, fun x hx => hz.held hx, ?_⟩
      have hz := Stp.refl I_1m w_1l
      refine vch_l e19 rfl ?_
      obtain ⟨x_1r, q_1s, h⟩ := bind_some h
      refine ev_call rfl rfl C54 (((ref02_Mul_ok n) _ _  (Rational.mk (Int_2.mk x_0.Hi.Num.Neg x_0.Hi.Num.Mag) (Int_2.mk x_0.Hi.Den.Neg x_0.Hi.Den.Mag)) v_5 r_6 v_7 r_8 (Rational.mk (Int_2.mk x_9.Hi.Num.Neg x_9.Hi.Num.Mag) (Int_2.mk x_9.Hi.Den.Neg x_9.Hi.Den.Mag)) v_e r_f v_g r_h hp.imm _ q_1s).mono ?_)
      rintro _ w_1t ⟨I_1u, v_1v, v_1w, hv, hq, r_1x, r_1y⟩
      replace hv := hv.symm
      subst hv
      have hs := hq.st
      have hp := hp.join0 hq
      replace hz := hz.trans hs
      replace r_19 := r_19.step hs
      replace r_1a := r_1a.step hs
      replace r_1h := r_1h.step hs
      replace r_1i := r_1i.step hs
      replace r_1p := r_1p.step hs
      replace r_1q := r_1q.step hs
      refine ⟨Stp I_1u w_1t I_1u, Stp.refl _ _, fun x hx => hz.held hx, ?_⟩
      have hz := Stp.refl I_1u w_1t
      refine vch_l e20 rfl ?_
      obtain ⟨A_1z, m_20, m_21, rfl⟩ := r_19.isSl
      obtain ⟨A_22, m_23, m_24, rfl⟩ := r_1a.isSl
      obtain ⟨A_25, m_26, m_27, rfl⟩ := r_1h.isSl
      obtain ⟨A_28, m_29, m_2a, rfl⟩ := r_1i.isSl
      obtain ⟨A_2b, m_2c, m_2d, rfl⟩ := r_1p.isSl
      obtain ⟨A_2e, m_2f, m_2g, rfl⟩ := r_1q.isSl
      obtain ⟨A_2h, m_2i, m_2j, rfl⟩ := r_1x.isSl
      obtain ⟨A_2k, m_2l, m_2m, rfl⟩ := r_1y.isSl
      refine ev_litN (d := dRational) (xs := [x_13, x_1b, x_1j, x_1r]) (cs := [(.bool x_13.Num.Neg), (.slice A_1z m_20 m_21), (.bool x_13.Den.Neg), (.slice A_22 m_23 m_24), (.bool x_1b.Num.Neg), (.slice A_25 m_26 m_27), (.bool x_1b.Den.Neg), (.slice A_28 m_29 m_2a), (.bool x_1j.Num.Neg), (.slice A_2b m_2c m_2d), (.bool x_1j.Den.Neg), (.slice A_2e m_2f m_2g), (.bool x_1r.Num.Neg), (.slice A_2h m_2i m_2j), (.bool x_1r.Den.Neg), (.slice A_2k m_2l m_2m)]) hp rfl rfl Tryz.underlying56 T26 (by decide) (by kernel_rfl) rfl (Elems.cons (d := dRational) (xs := _) (dRational_m r_19 r_1a) (Elems.cons (d := dRational) (xs := _) (dRational_m r_1h r_1i) (Elems.cons (d := dRational) (xs := _) (dRational_m r_1p r_1q) (Elems.cons (d := dRational) (xs := _) (dRational_m r_1x r_1y) (Elems.nil _ _ _ _))))) ?_
      intro v_2n I_2o w_2p hp hs r_2q
      replace hz := hz.trans hs
      refine ⟨Stp I_2o w_2p I_2o, Stp.refl _ _, fun x hx => hz.held hx, ?_⟩
      have hz := Stp.refl I_2o w_2p
      refine vch_q e21 rfl ?_
      refine vch_end ?_
      apply go
      have hs := hp.stp (Ch.drew [] w_2p)
      have hp := hp.drew
      replace r_2q := r_2q.step hs
      refine W.heldT [(0, true), (1, true), (2, true), (3, true), (4, true), (5, true), (6, true), (7, false), (8, false)] (Stp I_2o w_2p.drew I_2o) MX (by kernel_rfl) (Stp.refl _ _) ?_
      have hz := Stp.refl I_2o w_2p.drew
      intro ops hops
      have e0 : nthO ops 0 = some _ := (hops 0).trans rfl
      have e1 : nthO ops 1 = some _ := (hops 1).trans rfl
      have e2 : nthO ops 2 = some _ := (hops 2).trans rfl
      have e3 : nthO ops 3 = some _ := (hops 3).trans rfl
      have e4 : nthO ops 4 = some _ := (hops 4).trans rfl
      have e5 : nthO ops 5 = some _ := (hops 5).trans rfl
      have e6 : nthO ops 6 = some _ := (hops 6).trans rfl
      have e7 : nthO ops 7 = some _ := (hops 7).trans rfl
      have e8 : nthO ops 8 = some _ := (hops 8).trans rfl
      clear hops
      refine vch_q e0 rfl ?_
      refine vch_q e1 rfl ?_
      obtain ⟨x_2r, q_2s, h⟩ := bind_some h
      refine evh_index rfl rfl rfl Tryz.underlying56 T26 r_2q q_2s ?_
      intro p_2t c_2u d_2v a_2w
      obtain ⟨v_2x, v_2y, rfl, r_2z, r_30⟩ := dRational_o d_2v
      refine vch_q e2 rfl ?_
      refine evh (fun w' hw => rn_load rfl rfl (run_loadVarA T26 rfl (a_2w.step hw))) ?_
      refine vch_q e3 rfl ?_
      refine vch_q e4 rfl ?_
      obtain ⟨x_31, q_32, h⟩ := bind_some h
      refine evh_index rfl rfl rfl Tryz.underlying56 T26 r_2q q_32 ?_
      intro p_33 c_34 d_35 a_36
      obtain ⟨v_37, v_38, rfl, r_39, r_3a⟩ := dRational_o d_35
      refine vch_q e5 rfl ?_
      refine evh (fun w' hw => rn_load rfl rfl (run_loadVarA T26 rfl (a_36.step hw))) ?_
      refine vch_q e6 rfl ?_
      obtain ⟨A_3b, m_3c, m_3d, rfl⟩ := r_2z.isSl
      obtain ⟨A_3e, m_3f, m_3g, rfl⟩ := r_30.isSl
      obtain ⟨A_3h, m_3i, m_3j, rfl⟩ := r_39.isSl
      obtain ⟨A_3k, m_3l, m_3m, rfl⟩ := r_3a.isSl
      refine evh0 (fun w => rn_build (cs := [(.bool x_2r.Num.Neg), (.slice A_3b m_3c m_3d), (.bool x_2r.Den.Neg), (.slice A_3e m_3f m_3g), (.bool x_31.Num.Neg), (.slice A_3h m_3i m_3j), (.bool x_31.Den.Neg), (.slice A_3k m_3l m_3m)]) rfl rfl T39 PL39 (by kernel_rfl)) ?_
      refine vch_l e7 rfl ?_
      refine ev_alloc hp rfl T39 ?_
      intro g_3n w_3o hp hs
      replace hz := hz.trans hs
      replace r_2q := r_2q.step hs
      replace r_2z := r_2z.step hs
      replace r_30 := r_30.step hs
      replace r_39 := r_39.step hs
      replace r_3a := r_3a.step hs
      refine ⟨Stp I_2o w_3o I_2o, Stp.refl _ _, fun x hx => hz.held hx, ?_⟩
      have hz := Stp.refl I_2o w_3o
      refine vch_l e8 rfl ?_
      refine ev_storeA hp (i := 0) (off := 0) (vs := [(.bool x_2r.Num.Neg), (.slice A_3b m_3c m_3d), (.bool x_2r.Den.Neg), (.slice A_3e m_3f m_3g), (.bool x_31.Num.Neg), (.slice A_3h m_3i m_3j), (.bool x_31.Den.Neg), (.slice A_3k m_3l m_3m)]) rfl rfl rfl rfl T39 rfl (Nat.le_of_ble_eq_true rfl) (ones_cons rfl (ones_cons r_2z.one (ones_cons rfl (ones_cons r_30.one (ones_cons rfl (ones_cons r_39.one (ones_cons rfl (ones_cons r_3a.one ones_nil)))))))) ?_
      intro w_3p hp hs
      replace hz := hz.trans hs
      replace r_2q := r_2q.step hs
      replace r_2z := r_2z.step hs
      replace r_30 := r_30.step hs
      replace r_39 := r_39.step hs
      replace r_3a := r_3a.step hs
      refine ⟨Stp I_2o w_3p I_2o, Stp.refl _ _, fun x hx => hz.held hx, ?_⟩
      have hz := Stp.refl I_2o w_3p
      refine vch_end ?_
      obtain ⟨y_3q, q_3r, h⟩ := bind_some h
      refine W.cut (γ := (Bool × (List Int) × Bool × (List Int) × Bool × (List Int) × Bool × (List Int) × Value × Value × Value × Value × (Nat → Prop))) (fun g => [(4, (.pointer (some ⟨g_q, 0, none⟩))), (7, (.pointer (some ⟨g_3n, 0, none⟩)))]) (fun g w' => y_3q = ((g.1), (g.2.1), (g.2.2.1), (g.2.2.2.1), (g.2.2.2.2.1), (g.2.2.2.2.2.1), (g.2.2.2.2.2.2.1), (g.2.2.2.2.2.2.2.1)) ∧ Hp ⟨w0, I0, []⟩ (g.2.2.2.2.2.2.2.2.2.2.2.2) [some (g_q, [(.bool false), (.slice none 0 0), (.bool false), (.slice none 0 0), (.bool false), (.slice none 0 0), (.bool false), (.slice none 0 0)], 39), some (g_3n, [(.bool (g.1)), (g.2.2.2.2.2.2.2.2.1), (.bool (g.2.2.1)), (g.2.2.2.2.2.2.2.2.2.1), (.bool (g.2.2.2.2.1)), (g.2.2.2.2.2.2.2.2.2.2.1), (.bool (g.2.2.2.2.2.2.1)), (g.2.2.2.2.2.2.2.2.2.2.2.1)], 39)] w' ∧ RepS (dI .u32) w' (g.2.2.2.2.2.2.2.2.2.2.2.2) (g.2.2.2.2.2.2.2.2.1) (g.2.1) ∧ RepS (dI .u32) w' (g.2.2.2.2.2.2.2.2.2.2.2.2) (g.2.2.2.2.2.2.2.2.2.1) (g.2.2.2.1) ∧ RepS (dI .u32) w' (g.2.2.2.2.2.2.2.2.2.2.2.2) (g.2.2.2.2.2.2.2.2.2.2.1) (g.2.2.2.2.2.1) ∧ RepS (dI .u32) w' (g.2.2.2.2.2.2.2.2.2.2.2.2) (g.2.2.2.2.2.2.2.2.2.2.2.1) (g.2.2.2.2.2.2.2.1)) ?_ ?_
      ·
        apply go
        apply go
        apply go
        have hp := hp.perm [1, 0] (by decide)
        refine W.loop q_3r (γ := (Value × Value × Value × Value × (Nat → Prop))) (fun s g => [(4, (.pointer (some ⟨g_q, 0, none⟩))), (6, v_2n), (7, (.pointer (some ⟨g_3n, 0, none⟩))), (8, (.int .i64 (s.2.2.2.2.2.2.2.2)))]) (fun s g w' => Hp ⟨w0, I0, []⟩ (g.2.2.2.2) [some (g_q, [(.bool false), (.slice none 0 0), (.bool false), (.slice none 0 0), (.bool false), (.slice none 0 0), (.bool false), (.slice none 0 0)], 39), some (g_3n, [(.bool (s.1)), (g.1), (.bool (s.2.2.1)), (g.2.1), (.bool (s.2.2.2.2.1)), (g.2.2.1), (.bool (s.2.2.2.2.2.2.1)), (g.2.2.2.1)], 39)] w' ∧ RepS dRational w' (g.2.2.2.2) v_2n [x_13, x_1b, x_1j, x_1r] ∧ RepS (dI .u32) w' (g.2.2.2.2) (g.1) (s.2.1) ∧ RepS (dI .u32) w' (g.2.2.2.2) (g.2.1) (s.2.2.2.1) ∧ RepS (dI .u32) w' (g.2.2.2.2) (g.2.2.1) (s.2.2.2.2.2.1) ∧ RepS (dI .u32) w' (g.2.2.2.2) (g.2.2.2.1) (s.2.2.2.2.2.2.2.1)) ((.slice A_3b m_3c m_3d), (.slice A_3e m_3f m_3g), (.slice A_3h m_3i m_3j), (.slice A_3k m_3l m_3m), I_2o) (.c rfl (.c rfl (.c rfl (.c rfl .n)))) ⟨hp, r_2q, r_2z, r_30, r_39, r_3a⟩ ?_
        rintro ⟨x_3s, x_3t, x_3u, x_3v, x_3w, x_3x, x_3y, x_3z, x_40⟩ ⟨v_41, v_42, v_43, v_44, I_45⟩ w_46 y_47 ⟨hp, r_2q, r_48, r_49, r_4a, r_4b⟩ q_4c q_4d
        unfold ref02_Times_L1 at q_4c
        apply go
        apply go
        apply go
        apply go
        refine sel_of (fun hc => ?_) (fun hc => ?_)
        ·
          have q_4c := cond_t q_4c hc
          apply go
          apply go
          apply go
          apply go
          have hs := hp.stp (Ch.drew [] w_46)
          have hp := hp.drew
          replace r_2q := r_2q.step hs
          replace r_48 := r_48.step hs
          replace r_49 := r_49.step hs
          replace r_4a := r_4a.step hs
          replace r_4b := r_4b.step hs
          refine W.heldT [(0, true), (2, true), (3, true), (4, true), (5, true), (1, false), (6, false), (7, true), (8, false)] (Stp I_45 w_46.drew I_45) MX (by kernel_rfl) (Stp.refl _ _) ?_
          have hz := Stp.refl I_45 w_46.drew
          intro ops hops
          have e0 : nthO ops 0 = some _ := (hops 0).trans rfl
          have e1 : nthO ops 1 = some _ := (hops 1).trans rfl
          have e2 : nthO ops 2 = some _ := (hops 2).trans rfl
          have e3 : nthO ops 3 = some _ := (hops 3).trans rfl
          have e4 : nthO ops 4 = some _ := (hops 4).trans rfl
          have e5 : nthO ops 5 = some _ := (hops 5).trans rfl
          have e6 : nthO ops 6 = some _ := (hops 6).trans rfl
          have e7 : nthO ops 7 = some _ := (hops 7).trans rfl
          have e8 : nthO ops 8 = some _ := (hops 8).trans rfl
          clear hops
          refine vch_q e0 rfl ?_
          refine evh0 (rn_field rfl rfl FO39_0) ?_
          refine vch_q e2 rfl ?_
          refine vch_q e3 rfl ?_
          refine vch_q e4 rfl ?_
          obtain ⟨x_4e, q_4f, q_4c⟩ := bind_some q_4c
          refine evh_index rfl rfl rfl Tryz.underlying56 T26 r_2q q_4f ?_
          intro p_4g c_4h d_4i a_4j
          obtain ⟨v_4k, v_4l, rfl, r_4m, r_4n⟩ := dRational_o d_4i
          refine vch_q e5 rfl ?_
          refine evh (fun w' hw => rn_load rfl rfl (run_loadVarA T26 rfl (a_4j.step hw))) ?_
          refine vch_l e1 rfl ?_
          refine ev (rn_load rfl rfl (run_loadVarA T26 rfl (((hp.at_ (i := 1) rfl).drop 0).take 4))) ?_
          refine ⟨Stp I_45 w_46.drew I_45, Stp.refl _ _, fun x hx => hz.held hx, ?_⟩
          have hz := Stp.refl I_45 w_46.drew
          refine vch_l e6 rfl ?_
          obtain ⟨x_4o, q_4p, q_4c⟩ := bind_some q_4c
          refine ev_call rfl rfl C55 (((ref02_least_ok n) _ _  (Rational.mk (Int_2.mk x_3s x_3t) (Int_2.mk x_3u x_3v)) v_41 r_48 v_42 r_49 (Rational.mk (Int_2.mk x_4e.Num.Neg x_4e.Num.Mag) (Int_2.mk x_4e.Den.Neg x_4e.Den.Mag)) v_4k r_4m v_4l r_4n hp.imm _ q_4p).mono ?_)
          rintro _ w_4q ⟨I_4r, v_4s, v_4t, hv, hq, r_4u, r_4v⟩
          replace hv := hv.symm
          subst hv
          have hs := hq.st
          have hp := hp.join0 hq
          replace hz := hz.trans hs
          replace r_2q := r_2q.step hs
          replace r_48 := r_48.step hs
          replace r_49 := r_49.step hs
          replace r_4a := r_4a.step hs
          replace r_4b := r_4b.step hs
          refine ⟨Stp I_4r w_4q I_4r, Stp.refl _ _, fun x hx => hz.held hx, ?_⟩
          have hz := Stp.refl I_4r w_4q
          refine vch_q e7 rfl ?_
          refine evh0 (rn_field rfl rfl FO39_0) ?_
          refine vch_l e8 rfl ?_
          refine ev_storeA hp (i := 1) (off := 0) (vs := [(.bool x_4o.Num.Neg), v_4s, (.bool x_4o.Den.Neg), v_4t]) rfl rfl rfl rfl T26 rfl (Nat.le_of_ble_eq_true rfl) (ones_cons rfl (ones_cons r_4u.one (ones_cons rfl (ones_cons r_4v.one ones_nil)))) ?_
          intro w_4w hp hs
          replace hz := hz.trans hs
          replace r_2q := r_2q.step hs
          replace r_4u := r_4u.step hs
          replace r_4v := r_4v.step hs
          replace r_4a := r_4a.step hs
          replace r_4b := r_4b.step hs
          refine ⟨Stp I_4r w_4w I_4r, Stp.refl _ _, fun x hx => hz.held hx, ?_⟩
          have hz := Stp.refl I_4r w_4w
          refine vch_end ?_
          have hs := hp.stp (Ch.drew [] w_4w)
          have hp := hp.drew
          replace r_2q := r_2q.step hs
          replace r_4u := r_4u.step hs
          replace r_4v := r_4v.step hs
          replace r_4a := r_4a.step hs
          replace r_4b := r_4b.step hs
          refine W.heldT [(0, true), (2, true), (3, true), (4, true), (5, true), (1, false), (6, false), (7, true), (8, false)] (Stp I_4r w_4w.drew I_4r) MX (by kernel_rfl) (Stp.refl _ _) ?_
          have hz := Stp.refl I_4r w_4w.drew
          intro ops hops
          have e0 : nthO ops 0 = some _ := (hops 0).trans rfl
          have e1 : nthO ops 1 = some _ := (hops 1).trans rfl
          have e2 : nthO ops 2 = some _ := (hops 2).trans rfl
          have e3 : nthO ops 3 = some _ := (hops 3).trans rfl
          have e4 : nthO ops 4 = some _ := (hops 4).trans rfl
          have e5 : nthO ops 5 = some _ := (hops 5).trans rfl
          have e6 : nthO ops 6 = some _ := (hops 6).trans rfl
          have e7 : nthO ops 7 = some _ := (hops 7).trans rfl
          have e8 : nthO ops 8 = some _ := (hops 8).trans rfl
          clear hops
          refine vch_q e0 rfl ?_
          refine evh0 (rn_field rfl rfl FO39_1) ?_
          refine vch_q e2 rfl ?_
          refine vch_q e3 rfl ?_
          refine vch_q e4 rfl ?_
          obtain ⟨x_4x, q_4y, q_4c⟩ := bind_some q_4c
          refine evh_index rfl rfl rfl Tryz.underlying56 T26 r_2q q_4y ?_
          intro p_4z c_50 d_51 a_52
          obtain ⟨v_53, v_54, rfl, r_55, r_56⟩ := dRational_o d_51
          refine vch_q e5 rfl ?_
          refine evh (fun w' hw => rn_load rfl rfl (run_loadVarA T26 rfl (a_52.step hw))) ?_
          refine vch_l e1 rfl ?_
          refine ev (rn_load rfl rfl (run_loadVarA T26 rfl (((hp.at_ (i := 1) rfl).drop 4).take 4))) ?_
          refine ⟨Stp I_4r w_4w.drew I_4r, Stp.refl _ _, fun x hx => hz.held hx, ?_⟩
          have hz := Stp.refl I_4r w_4w.drew
          refine vch_l e6 rfl ?_
          obtain ⟨x_57, q_58, q_4c⟩ := bind_some q_4c
          refine ev_call rfl rfl C56 (((ref02_greatest_ok n) _ _  (Rational.mk (Int_2.mk x_3w x_3x) (Int_2.mk x_3y x_3z)) v_43 r_4a v_44 r_4b (Rational.mk (Int_2.mk x_4x.Num.Neg x_4x.Num.Mag) (Int_2.mk x_4x.Den.Neg x_4x.Den.Mag)) v_53 r_55 v_54 r_56 hp.imm _ q_58).mono ?_)
          rintro _ w_59 ⟨I_5a, v_5b, v_5c, hv, hq, r_5d, r_5e⟩
          replace hv := hv.symm
          subst hv
          have hs := hq.st
          have hp := hp.join0 hq
          replace hz := hz.trans hs
          replace r_2q := r_2q.step hs
          replace r_4u := r_4u.step hs
          replace r_4v := r_4v.step hs
          replace r_4a := r_4a.step hs
          replace r_4b := r_4b.step hs
          refine ⟨Stp I_5a w_59 I_5a, Stp.refl _ _, fun x hx => hz.held hx, ?_⟩
          have hz := Stp.refl I_5a w_59
          refine vch_q e7 rfl ?_
          refine evh0 (rn_field rfl rfl FO39_1) ?_
          refine vch_l e8 rfl ?_
          refine ev_storeA hp (i := 1) (off := 4) (vs := [(.bool x_57.Num.Neg), v_5b, (.bool x_57.Den.Neg), v_5c]) rfl rfl rfl rfl T26 rfl (Nat.le_of_ble_eq_true rfl) (ones_cons rfl (ones_cons r_5d.one (ones_cons rfl (ones_cons r_5e.one ones_nil)))) ?_
          intro w_5f hp hs
          replace hz := hz.trans hs
          replace r_2q := r_2q.step hs
          replace r_4u := r_4u.step hs
          replace r_4v := r_4v.step hs
          replace r_5d := r_5d.step hs
          replace r_5e := r_5e.step hs
          refine ⟨Stp I_5a w_5f I_5a, Stp.refl _ _, fun x hx => hz.held hx, ?_⟩
          have hz := Stp.refl I_5a w_5f
          refine vch_end ?_
          apply go
          exact ⟨_, (Option.some.inj q_4c).symm, (v_4s, v_4t, v_5b, v_5c, I_5a), (.c rfl (.c rfl (.c rfl (.c rfl .n)))), ⟨hp, r_2q, r_4u, r_4v, r_5d, r_5e⟩⟩
        ·
          have q_4c := cond_f q_4c hc
          apply go
          have q_5g := congrArg some (q_4d _ (Option.some.inj q_4c).symm)
          obtain rfl := Option.some.inj q_5g
          exact ⟨(x_3s, x_3t, x_3u, x_3v, x_3w, x_3x, x_3y, x_3z, v_41, v_42, v_43, v_44, I_45), (.c rfl (.c rfl .n)), rfl, hp, r_48, r_49, r_4a, r_4b⟩
      ·
        rintro ⟨x_5h, x_5i, x_5j, x_5k, x_5l, x_5m, x_5n, x_5o, v_5p, v_5q, v_5r, v_5s, I_5t⟩ w_5u ⟨hy, hp, r_5v, r_5w, r_5x, r_5y⟩
        replace hy := hy.symm
        subst hy
        apply go
        apply go
        refine ev (rn_load rfl rfl (run_loadVarA T39 rfl (hp.at_ (i := 1) rfl))) ?_
        refine ev_storeA hp (i := 0) (off := 0) (vs := [(.bool x_5h), v_5p, (.bool x_5j), v_5q, (.bool x_5l), v_5r, (.bool x_5n), v_5s]) rfl rfl rfl rfl T39 rfl (Nat.le_of_ble_eq_true rfl) (ones_cons rfl (ones_cons r_5v.one (ones_cons rfl (ones_cons r_5w.one (ones_cons rfl (ones_cons r_5x.one (ones_cons rfl (ones_cons r_5y.one ones_nil)))))))) ?_
        intro w_5z hp hs
        replace r_5v := r_5v.step hs
        replace r_5w := r_5w.step hs
        replace r_5x := r_5x.step hs
        replace r_5y := r_5y.step hs
        apply go
        obtain rfl := Option.some.inj h
        refine ⟨_, run_loadVarA T39 rfl (hp.at_ (i := 0) rfl), ?_⟩
        have hp := hp.sel [] (by decide)
        exact ⟨I_5t, v_5p, v_5q, v_5r, v_5s, rfl, hp, r_5v, r_5w, r_5x, r_5y⟩

end Go.Proofs.YtepadjfmcbjkmaaGreatDoor

namespace Go.Proofs.YtepadjfmcbjkmaaGreatDoor
open Go Go.Proofs.YtepadjfmcbjkmaaGreatDoor.Gw Go.RowKit
set_option linter.unusedVariables false
attribute [local irreducible] Ev EvQ EvS EvH
def ref02_Meet_S (f : Interval → Interval → Option (Interval × Bool)) : Prop := ∀ (w0 : World) (I0 : Nat → Prop) (x_0 : Interval) (v_1 : Value) (r_2 : RepS (dI .u32) w0 I0 v_1 x_0.Lo.Num.Mag) (v_3 : Value) (r_4 : RepS (dI .u32) w0 I0 v_3 x_0.Lo.Den.Mag) (v_5 : Value) (r_6 : RepS (dI .u32) w0 I0 v_5 x_0.Hi.Num.Mag) (v_7 : Value) (r_8 : RepS (dI .u32) w0 I0 v_7 x_0.Hi.Den.Mag) (x_9 : Interval) (v_a : Value) (r_b : RepS (dI .u32) w0 I0 v_a x_9.Lo.Num.Mag) (v_c : Value) (r_d : RepS (dI .u32) w0 I0 v_c x_9.Lo.Den.Mag) (v_e : Value) (r_f : RepS (dI .u32) w0 I0 v_e x_9.Hi.Num.Mag) (v_g : Value) (r_h : RepS (dI .u32) w0 I0 v_g x_9.Hi.Den.Mag) (hI : ∀ g, I0 g → g < w0.heap.size) (r : (Interval × Bool)), f x_0 x_9 = some r →
    Ret Tryz.prog 25 #[(.agg #[(.bool x_0.Lo.Num.Neg), v_1, (.bool x_0.Lo.Den.Neg), v_3, (.bool x_0.Hi.Num.Neg), v_5, (.bool x_0.Hi.Den.Neg), v_7]), (.agg #[(.bool x_9.Lo.Num.Neg), v_a, (.bool x_9.Lo.Den.Neg), v_c, (.bool x_9.Hi.Num.Neg), v_e, (.bool x_9.Hi.Den.Neg), v_g])] w0 fun v w1 => ∃ (I1 : Nat → Prop) (u_i : Value) (u_j : Value) (u_k : Value) (u_l : Value), v = (.tuple #[(.agg #[(.bool r.1.Lo.Num.Neg), u_i, (.bool r.1.Lo.Den.Neg), u_j, (.bool r.1.Hi.Num.Neg), u_k, (.bool r.1.Hi.Den.Neg), u_l]), (.bool r.2)]) ∧ Hp ⟨w0, I0, []⟩ I1 [] w1 ∧ RepS (dI .u32) w1 I1 u_i r.1.Lo.Num.Mag ∧ RepS (dI .u32) w1 I1 u_j r.1.Lo.Den.Mag ∧ RepS (dI .u32) w1 I1 u_k r.1.Hi.Num.Mag ∧ RepS (dI .u32) w1 I1 u_l r.1.Hi.Den.Mag
theorem ref02_Meet_ok (n : Nat) : ref02_Meet_S (ref02_Meet n) := by
  intro w0 I0 x_0 v_1 r_2 v_3 r_4 v_5 r_6 v_7 r_8 x_9 v_a r_b v_c r_d v_e r_f v_g r_h hI r h
  unfold ref02_Meet at h
  refine enter Tryz.func25 rfl (Nat.le_of_ble_eq_true rfl) ?_
  have hp : Hp ⟨w0, I0, []⟩ I0 [] w0 := Hp.start hI
  apply go
  apply go
  refine ev_boxI hp rfl rfl ?_
  intro p_i I_j w_k hp hs a_l
  replace r_b := r_b.step hs
  replace r_d := r_d.step hs
  replace r_f := r_f.step hs
  replace r_h := r_h.step hs
  replace r_2 := r_2.step hs
  replace r_4 := r_4.step hs
  replace r_6 := r_6.step hs
  replace r_8 := r_8.step hs
  refine ev_boxI hp rfl rfl ?_
  intro p_m I_n w_o hp hs a_p
  replace a_l := a_l.step hs
  replace r_2 := r_2.step hs
  replace r_4 := r_4.step hs
  replace r_6 := r_6.step hs
  replace r_8 := r_8.step hs
  replace r_b := r_b.step hs
  replace r_d := r_d.step hs
  replace r_f := r_f.step hs
  replace r_h := r_h.step hs
  refine ev_alloc hp rfl T39 ?_
  intro g_q w_r hp hs
  replace a_l := a_l.step hs
  replace r_2 := r_2.step hs
  replace r_4 := r_4.step hs
  replace r_6 := r_6.step hs
  replace r_8 := r_8.step hs
  replace a_p := a_p.step hs
  replace r_b := r_b.step hs
  replace r_d := r_d.step hs
  replace r_f := r_f.step hs
  replace r_h := r_h.step hs
  obtain ⟨y_s, q_t, h⟩ := bind_some h
  refine W.cut (γ := (Bool × (List Int) × Bool × (List Int) × Bool × (List Int) × Bool × (List Int) × Nat × Value × Value × Value × Value × (Nat → Prop))) (fun g => [(4, (.pointer (some ⟨g_q, 0, none⟩))), (6, (.pointer (some ⟨(g.2.2.2.2.2.2.2.2.1), 0, none⟩)))]) (fun g w' => y_s = ((g.1), (g.2.1), (g.2.2.1), (g.2.2.2.1), (g.2.2.2.2.1), (g.2.2.2.2.2.1), (g.2.2.2.2.2.2.1), (g.2.2.2.2.2.2.2.1)) ∧ Hp ⟨w0, I0, []⟩ (g.2.2.2.2.2.2.2.2.2.2.2.2.2) [some (g_q, [(.bool false), (.slice none 0 0), (.bool false), (.slice none 0 0), (.bool false), (.slice none 0 0), (.bool false), (.slice none 0 0)], 39), some ((g.2.2.2.2.2.2.2.2.1), [(.bool (g.1)), (g.2.2.2.2.2.2.2.2.2.1), (.bool (g.2.2.1)), (g.2.2.2.2.2.2.2.2.2.2.1), (.bool (g.2.2.2.2.1)), (g.2.2.2.2.2.2.2.2.2.2.2.1), (.bool (g.2.2.2.2.2.2.1)), (g.2.2.2.2.2.2.2.2.2.2.2.2.1)], 39)] w' ∧ RepS (dI .u32) w' (g.2.2.2.2.2.2.2.2.2.2.2.2.2) (g.2.2.2.2.2.2.2.2.2.1) (g.2.1) ∧ RepS (dI .u32) w' (g.2.2.2.2.2.2.2.2.2.2.2.2.2) (g.2.2.2.2.2.2.2.2.2.2.1) (g.2.2.2.1) ∧ RepS (dI .u32) w' (g.2.2.2.2.2.2.2.2.2.2.2.2.2) (g.2.2.2.2.2.2.2.2.2.2.2.1) (g.2.2.2.2.2.1) ∧ RepS (dI .u32) w' (g.2.2.2.2.2.2.2.2.2.2.2.2.2) (g.2.2.2.2.2.2.2.2.2.2.2.2.1) (g.2.2.2.2.2.2.2.1)) ?_ ?_
  ·
    have hs := hp.stp (Ch.drew [] w_r)
    have hp := hp.drew
    replace a_l := a_l.step hs
    replace r_2 := r_2.step hs
    replace r_4 := r_4.step hs
    replace r_6 := r_6.step hs
    replace r_8 := r_8.step hs
    replace a_p := a_p.step hs
    replace r_b := r_b.step hs
    replace r_d := r_d.step hs
    replace r_f := r_f.step hs
    replace r_h := r_h.step hs
    refine W.heldG (.q 0 (.q 1 (.q 2 (.q 3 (.q 5 (.q 6 (.q 7 (.q 8 (.l 4 (.l 9 (.q 10 (.l 11 (.l 12 .done .no) .no)) (.l 11 (.l 9 (.q 10 (.l 12 .done .no)) .no) .no)) (.l 11 (.l 4 (.l 9 (.q 10 (.l 12 .done .no)) .no) .no) .no)))))))))) (SK (Stp I_n w_r.drew I_n) [] []) MX (by kernel_rfl) ⟨Stp.refl _ _, kp_nil⟩ ?_
    have hz := Stp.refl I_n w_r.drew
    refine ⟨SK.same (by kernel_rfl), ?_⟩
    refine evh0 (rn_field rfl rfl FO39_0) ?_
    refine ⟨SK.same (by kernel_rfl), ?_⟩
    refine evh (fun w' hw => rn_load rfl rfl (run_loadVarA T26 rfl (((a_l.step (S0.si hw)).drop 0).take 4))) ?_
    refine ⟨SK.same (by kernel_rfl), ?_⟩
    refine evh0 (rn_field rfl rfl FO39_0) ?_
    refine ⟨SK.same (by kernel_rfl), ?_⟩
    refine evh (fun w' hw => rn_load rfl rfl (run_loadVarA T26 rfl (((a_p.step (S0.si hw)).drop 0).take 4))) ?_
    refine ⟨SK.same (by kernel_rfl), ?_⟩
    refine evh0 (rn_field rfl rfl FO39_1) ?_
    refine ⟨SK.same (by kernel_rfl), ?_⟩
    refine evh (fun w' hw => rn_load rfl rfl (run_loadVarA T26 rfl (((a_l.step (S0.si hw)).drop 4).take 4))) ?_
    refine ⟨SK.same (by kernel_rfl), ?_⟩
    refine evh0 (rn_field rfl rfl FO39_1) ?_
    refine ⟨SK.same (by kernel_rfl), ?_⟩
    refine evh (fun w' hw => rn_load rfl rfl (run_loadVarA T26 rfl (((a_p.step (S0.si hw)).drop 4).take 4))) ?_
    refine ⟨?_, ?_⟩
    ·
      obtain ⟨x_u, q_v, q_t⟩ := bind_some q_t
      refine ev_call rfl rfl C56 (((ref02_greatest_ok n) _ _  (Rational.mk (Int_2.mk x_0.Lo.Num.Neg x_0.Lo.Num.Mag) (Int_2.mk x_0.Lo.Den.Neg x_0.Lo.Den.Mag)) v_1 r_2 v_3 r_4 (Rational.mk (Int_2.mk x_9.Lo.Num.Neg x_9.Lo.Num.Mag) (Int_2.mk x_9.Lo.Den.Neg x_9.Lo.Den.Mag)) v_a r_b v_c r_d hp.imm _ q_v).mono ?_)
      rintro _ w_w ⟨I_x, v_y, v_z, hv, hq, r_10, r_11⟩
      replace hv := hv.symm
      subst hv
      have hs := hq.st
      have hp := hp.join0 hq
      replace hz := hz.trans hs
      replace r_6 := r_6.step hs
      replace r_8 := r_8.step hs
      replace r_f := r_f.step hs
      replace r_h := r_h.step hs
      refine ⟨SK (Stp I_x w_w I_x) [] [], ⟨Stp.refl _ _, kp_nil⟩, fun L x h => ⟨hz.held h.1, h.2⟩, ?_⟩
      have hz := Stp.refl I_x w_w
      refine ⟨?_, ?_⟩
      ·
        obtain ⟨x_12, q_13, q_t⟩ := bind_some q_t
        refine ev_call rfl rfl C55 (((ref02_least_ok n) _ _  (Rational.mk (Int_2.mk x_0.Hi.Num.Neg x_0.Hi.Num.Mag) (Int_2.mk x_0.Hi.Den.Neg x_0.Hi.Den.Mag)) v_5 r_6 v_7 r_8 (Rational.mk (Int_2.mk x_9.Hi.Num.Neg x_9.Hi.Num.Mag) (Int_2.mk x_9.Hi.Den.Neg x_9.Hi.Den.Mag)) v_e r_f v_g r_h hp.imm _ q_13).mono ?_)
        rintro _ w_14 ⟨I_15, v_16, v_17, hv, hq, r_18, r_19⟩
        replace hv := hv.symm
        subst hv
        have hs := hq.st
        have hp := hp.join0 hq
        replace hz := hz.trans hs
        replace r_10 := r_10.step hs
        replace r_11 := r_11.step hs
        refine ⟨SK (Stp I_15 w_14 I_15) [] [], ⟨Stp.refl _ _, kp_nil⟩, fun L x h => ⟨hz.held h.1, h.2⟩, ?_⟩
        have hz := Stp.refl I_15 w_14
        refine ⟨SK.same (by kernel_rfl), ?_⟩
        obtain ⟨A_1a, m_1b, m_1c, rfl⟩ := r_10.isSl
        obtain ⟨A_1d, m_1e, m_1f, rfl⟩ := r_11.isSl
        obtain ⟨A_1g, m_1h, m_1i, rfl⟩ := r_18.isSl
        obtain ⟨A_1j, m_1k, m_1l, rfl⟩ := r_19.isSl
        refine evh0 (fun w => rn_build (cs := [(.bool x_u.Num.Neg), (.slice A_1a m_1b m_1c), (.bool x_u.Den.Neg), (.slice A_1d m_1e m_1f), (.bool x_12.Num.Neg), (.slice A_1g m_1h m_1i), (.bool x_12.Den.Neg), (.slice A_1j m_1k m_1l)]) rfl rfl T39 PL39 (by kernel_rfl)) ?_
        refine ⟨?_, trivial⟩
        refine ev_alloc hp rfl T39 ?_
        intro g_1m w_1n hp hs
        replace hz := hz.trans hs
        replace r_10 := r_10.step hs
        replace r_11 := r_11.step hs
        replace r_18 := r_18.step hs
        replace r_19 := r_19.step hs
        refine ⟨SK (Stp I_15 w_1n I_15) [] [], ⟨Stp.refl _ _, kp_nil⟩, fun L x h => ⟨hz.held h.1, h.2⟩, ?_⟩
        have hz := Stp.refl I_15 w_1n
        refine ⟨?_, trivial⟩
        refine ev_storeA hp (i := 0) (off := 0) (vs := [(.bool x_u.Num.Neg), (.slice A_1a m_1b m_1c), (.bool x_u.Den.Neg), (.slice A_1d m_1e m_1f), (.bool x_12.Num.Neg), (.slice A_1g m_1h m_1i), (.bool x_12.Den.Neg), (.slice A_1j m_1k m_1l)]) rfl rfl rfl rfl T39 rfl (Nat.le_of_ble_eq_true rfl) (ones_cons rfl (ones_cons r_10.one (ones_cons rfl (ones_cons r_11.one (ones_cons rfl (ones_cons r_18.one (ones_cons rfl (ones_cons r_19.one ones_nil)))))))) ?_
        intro w_1o hp hs
        replace hz := hz.trans hs
        replace r_10 := r_10.step hs
        replace r_11 := r_11.step hs
        replace r_18 := r_18.step hs
        replace r_19 := r_19.step hs
        refine ⟨SK (Stp I_15 w_1o I_15) [] [], ⟨Stp.refl _ _, kp_nil⟩, fun L x h => ⟨hz.held h.1, h.2⟩, ?_⟩
        have hz := Stp.refl I_15 w_1o
        obtain rfl := Option.some.inj q_t
        have hp := hp.perm [1, 0] (by decide)
        exact ⟨(x_u.Num.Neg, x_u.Num.Mag, x_u.Den.Neg, x_u.Den.Mag, x_12.Num.Neg, x_12.Num.Mag, x_12.Den.Neg, x_12.Den.Mag, g_1m, (.slice A_1a m_1b m_1c), (.slice A_1d m_1e m_1f), (.slice A_1g m_1h m_1i), (.slice A_1j m_1k m_1l), I_15), (.c rfl (.c rfl .n)), rfl, hp, r_10, r_11, r_18, r_19⟩
      refine ⟨?_, trivial⟩
      refine ev_alloc hp rfl T39 ?_
      intro g_1p w_1q hp hs
      replace hz := hz.trans hs
      replace r_6 := r_6.step hs
      replace r_8 := r_8.step hs
      replace r_f := r_f.step hs
      replace r_h := r_h.step hs
      replace r_10 := r_10.step hs
      replace r_11 := r_11.step hs
      refine ⟨SK (Stp I_x w_1q I_x) [] [], ⟨Stp.refl _ _, kp_nil⟩, fun L x h => ⟨hz.held h.1, h.2⟩, ?_⟩
      have hz := Stp.refl I_x w_1q
      refine ⟨?_, trivial⟩
      obtain ⟨x_1r, q_1s, q_t⟩ := bind_some q_t
      refine ev_call rfl rfl C55 (((ref02_least_ok n) _ _  (Rational.mk (Int_2.mk x_0.Hi.Num.Neg x_0.Hi.Num.Mag) (Int_2.mk x_0.Hi.Den.Neg x_0.Hi.Den.Mag)) v_5 r_6 v_7 r_8 (Rational.mk (Int_2.mk x_9.Hi.Num.Neg x_9.Hi.Num.Mag) (Int_2.mk x_9.Hi.Den.Neg x_9.Hi.Den.Mag)) v_e r_f v_g r_h hp.imm _ q_1s).mono ?_)
      rintro _ w_1t ⟨I_1u, v_1v, v_1w, hv, hq, r_1x, r_1y⟩
      replace hv := hv.symm
      subst hv
      have hs := hq.st
      have hp := hp.join0 hq
      replace hz := hz.trans hs
      replace r_10 := r_10.step hs
      replace r_11 := r_11.step hs
      refine ⟨SK (Stp I_1u w_1t I_1u) [] [], ⟨Stp.refl _ _, kp_nil⟩, fun L x h => ⟨hz.held h.1, h.2⟩, ?_⟩
      have hz := Stp.refl I_1u w_1t
      refine ⟨SK.same (by kernel_rfl), ?_⟩
      obtain ⟨A_1z, m_20, m_21, rfl⟩ := r_10.isSl
      obtain ⟨A_22, m_23, m_24, rfl⟩ := r_11.isSl
      obtain ⟨A_25, m_26, m_27, rfl⟩ := r_1x.isSl
      obtain ⟨A_28, m_29, m_2a, rfl⟩ := r_1y.isSl
      refine evh0 (fun w => rn_build (cs := [(.bool x_u.Num.Neg), (.slice A_1z m_20 m_21), (.bool x_u.Den.Neg), (.slice A_22 m_23 m_24), (.bool x_1r.Num.Neg), (.slice A_25 m_26 m_27), (.bool x_1r.Den.Neg), (.slice A_28 m_29 m_2a)]) rfl rfl T39 PL39 (by kernel_rfl)) ?_
      refine ⟨?_, trivial⟩
      refine ev_storeA hp (i := 0) (off := 0) (vs := [(.bool x_u.Num.Neg), (.slice A_1z m_20 m_21), (.bool x_u.Den.Neg), (.slice A_22 m_23 m_24), (.bool x_1r.Num.Neg), (.slice A_25 m_26 m_27), (.bool x_1r.Den.Neg), (.slice A_28 m_29 m_2a)]) rfl rfl rfl rfl T39 rfl (Nat.le_of_ble_eq_true rfl) (ones_cons rfl (ones_cons r_10.one (ones_cons rfl (ones_cons r_11.one (ones_cons rfl (ones_cons r_1x.one (ones_cons rfl (ones_cons r_1y.one ones_nil)))))))) ?_
      intro w_2b hp hs
      replace hz := hz.trans hs
      replace r_10 := r_10.step hs
      replace r_11 := r_11.step hs
      replace r_1x := r_1x.step hs
      replace r_1y := r_1y.step hs
      refine ⟨SK (Stp I_1u w_2b I_1u) [] [], ⟨Stp.refl _ _, kp_nil⟩, fun L x h => ⟨hz.held h.1, h.2⟩, ?_⟩
      have hz := Stp.refl I_1u w_2b
      obtain rfl := Option.some.inj q_t
      have hp := hp.perm [1, 0] (by decide)
      exact ⟨(x_u.Num.Neg, x_u.Num.Mag, x_u.Den.Neg, x_u.Den.Mag, x_1r.Num.Neg, x_1r.Num.Mag, x_1r.Den.Neg, x_1r.Den.Mag, g_1p, (.slice A_1z m_20 m_21), (.slice A_22 m_23 m_24), (.slice A_25 m_26 m_27), (.slice A_28 m_29 m_2a), I_1u), (.c rfl (.c rfl .n)), rfl, hp, r_10, r_11, r_1x, r_1y⟩
    refine ⟨?_, trivial⟩
    refine ev_alloc hp rfl T39 ?_
    intro g_2c w_2d hp hs
    replace hz := hz.trans hs
    replace r_2 := r_2.step hs
    replace r_4 := r_4.step hs
    replace r_b := r_b.step hs
    replace r_d := r_d.step hs
    replace r_6 := r_6.step hs
    replace r_8 := r_8.step hs
    replace r_f := r_f.step hs
    replace r_h := r_h.step hs
    refine ⟨SK (Stp I_n w_2d I_n) [] [], ⟨Stp.refl _ _, kp_nil⟩, fun L x h => ⟨hz.held h.1, h.2⟩, ?_⟩
    have hz := Stp.refl I_n w_2d
    refine ⟨?_, trivial⟩
    obtain ⟨x_2e, q_2f, q_t⟩ := bind_some q_t
    refine ev_call rfl rfl C56 (((ref02_greatest_ok n) _ _  (Rational.mk (Int_2.mk x_0.Lo.Num.Neg x_0.Lo.Num.Mag) (Int_2.mk x_0.Lo.Den.Neg x_0.Lo.Den.Mag)) v_1 r_2 v_3 r_4 (Rational.mk (Int_2.mk x_9.Lo.Num.Neg x_9.Lo.Num.Mag) (Int_2.mk x_9.Lo.Den.Neg x_9.Lo.Den.Mag)) v_a r_b v_c r_d hp.imm _ q_2f).mono ?_)
    rintro _ w_2g ⟨I_2h, v_2i, v_2j, hv, hq, r_2k, r_2l⟩
    replace hv := hv.symm
    subst hv
    have hs := hq.st
    have hp := hp.join0 hq
    replace hz := hz.trans hs
    replace r_6 := r_6.step hs
    replace r_8 := r_8.step hs
    replace r_f := r_f.step hs
    replace r_h := r_h.step hs
    refine ⟨SK (Stp I_2h w_2g I_2h) [] [], ⟨Stp.refl _ _, kp_nil⟩, fun L x h => ⟨hz.held h.1, h.2⟩, ?_⟩
    have hz := Stp.refl I_2h w_2g
    refine ⟨?_, trivial⟩
    obtain ⟨x_2m, q_2n, q_t⟩ := bind_some q_t
    refine ev_call rfl rfl C55 (((ref02_least_ok n) _ _  (Rational.mk (Int_2.mk x_0.Hi.Num.Neg x_0.Hi.Num.Mag) (Int_2.mk x_0.Hi.Den.Neg x_0.Hi.Den.Mag)) v_5 r_6 v_7 r_8 (Rational.mk (Int_2.mk x_9.Hi.Num.Neg x_9.Hi.Num.Mag) (Int_2.mk x_9.Hi.Den.Neg x_9.Hi.Den.Mag)) v_e r_f v_g r_h hp.imm _ q_2n).mono ?_)
    rintro _ w_2o ⟨I_2p, v_2q, v_2r, hv, hq, r_2s, r_2t⟩
    replace hv := hv.symm
    subst hv
    have hs := hq.st
    have hp := hp.join0 hq
    replace hz := hz.trans hs
    replace r_2k := r_2k.step hs
    replace r_2l := r_2l.step hs
    refine ⟨SK (Stp I_2p w_2o I_2p) [] [], ⟨Stp.refl _ _, kp_nil⟩, fun L x h => ⟨hz.held h.1, h.2⟩, ?_⟩
    have hz := Stp.refl I_2p w_2o
    refine ⟨SK.same (by kernel_rfl), ?_⟩
    obtain ⟨A_2u, m_2v, m_2w, rfl⟩ := r_2k.isSl
    obtain ⟨A_2x, m_2y, m_2z, rfl⟩ := r_2l.isSl
    obtain ⟨A_30, m_31, m_32, rfl⟩ := r_2s.isSl
    obtain ⟨A_33, m_34, m_35, rfl⟩ := r_2t.isSl
    refine evh0 (fun w => rn_build (cs := [(.bool x_2e.Num.Neg), (.slice A_2u m_2v m_2w), (.bool x_2e.Den.Neg), (.slice A_2x m_2y m_2z), (.bool x_2m.Num.Neg), (.slice A_30 m_31 m_32), (.bool x_2m.Den.Neg), (.slice A_33 m_34 m_35)]) rfl rfl T39 PL39 (by kernel_rfl)) ?_
    refine ⟨?_, trivial⟩
    refine ev_storeA hp (i := 0) (off := 0) (vs := [(.bool x_2e.Num.Neg), (.slice A_2u m_2v m_2w), (.bool x_2e.Den.Neg), (.slice A_2x m_2y m_2z), (.bool x_2m.Num.Neg), (.slice A_30 m_31 m_32), (.bool x_2m.Den.Neg), (.slice A_33 m_34 m_35)]) rfl rfl rfl rfl T39 rfl (Nat.le_of_ble_eq_true rfl) (ones_cons rfl (ones_cons r_2k.one (ones_cons rfl (ones_cons r_2l.one (ones_cons rfl (ones_cons r_2s.one (ones_cons rfl (ones_cons r_2t.one ones_nil)))))))) ?_
    intro w_36 hp hs
    replace hz := hz.trans hs
    replace r_2k := r_2k.step hs
    replace r_2l := r_2l.step hs
    replace r_2s := r_2s.step hs
    replace r_2t := r_2t.step hs
    refine ⟨SK (Stp I_2p w_36 I_2p) [] [], ⟨Stp.refl _ _, kp_nil⟩, fun L x h => ⟨hz.held h.1, h.2⟩, ?_⟩
    have hz := Stp.refl I_2p w_36
    obtain rfl := Option.some.inj q_t
    have hp := hp.perm [1, 0] (by decide)
    exact ⟨(x_2e.Num.Neg, x_2e.Num.Mag, x_2e.Den.Neg, x_2e.Den.Mag, x_2m.Num.Neg, x_2m.Num.Mag, x_2m.Den.Neg, x_2m.Den.Mag, g_2c, (.slice A_2u m_2v m_2w), (.slice A_2x m_2y m_2z), (.slice A_30 m_31 m_32), (.slice A_33 m_34 m_35), I_2p), (.c rfl (.c rfl .n)), rfl, hp, r_2k, r_2l, r_2s, r_2t⟩
  ·
    rintro ⟨x_37, x_38, x_39, x_3a, x_3b, x_3c, x_3d, x_3e, g_3f, v_3g, v_3h, v_3i, v_3j, I_3k⟩ w_3l ⟨hy, hp, r_3m, r_3n, r_3o, r_3p⟩
    replace hy := hy.symm
    subst hy
    apply go
    apply go
    apply go
    refine ev (rn_load rfl rfl (run_loadVarA T39 rfl (hp.at_ (i := 1) rfl))) ?_
    obtain ⟨x_3q, q_3r, h⟩ := bind_some h
    refine ev_call rfl rfl C52 (((ref02_Empty_ok n) _ _  (Interval.mk (Rational.mk (Int_2.mk x_37 x_38) (Int_2.mk x_39 x_3a)) (Rational.mk (Int_2.mk x_3b x_3c) (Int_2.mk x_3d x_3e))) v_3g r_3m v_3h r_3n v_3i r_3o v_3j r_3p hp.imm _ q_3r).mono ?_)
    rintro _ w_3s ⟨rfl, hc⟩
    have hs := hp.stp hc
    replace hp := hp.ext hc
    replace r_3m := r_3m.step hs
    replace r_3n := r_3n.step hs
    replace r_3o := r_3o.step hs
    replace r_3p := r_3p.step hs
    apply go
    refine sel_of (fun hc => ?_) (fun hc => ?_)
    ·
      have h := cond_t h hc
      apply go
      apply go
      refine ev0 (fun w => rn_build (cs := [(.bool false), (.slice none 0 0), (.bool false), (.slice none 0 0), (.bool false), (.slice none 0 0), (.bool false), (.slice none 0 0)]) rfl rfl T39 PL39 (by kernel_rfl)) ?_
      refine ev_storeA hp (i := 0) (off := 0) (vs := [(.bool false), (.slice none 0 0), (.bool false), (.slice none 0 0), (.bool false), (.slice none 0 0), (.bool false), (.slice none 0 0)]) rfl rfl rfl rfl T39 rfl (Nat.le_of_ble_eq_true rfl) (ones_of rfl) ?_
      intro w_3t hp hs
      replace r_3m := r_3m.step hs
      replace r_3n := r_3n.step hs
      replace r_3o := r_3o.step hs
      replace r_3p := r_3p.step hs
      apply go
      obtain rfl := Option.some.inj h
      refine ⟨_, run_loadVarA T39 rfl (hp.at_ (i := 0) rfl), ?_⟩
      have hp := hp.sel [] (by decide)
      exact ⟨I_3k, .slice none 0 0, .slice none 0 0, .slice none 0 0, .slice none 0 0, rfl, hp, RepS.nil _ _ _, RepS.nil _ _ _, RepS.nil _ _ _, RepS.nil _ _ _⟩
    ·
      have h := cond_f h hc
      apply go
      apply go
      apply go
      refine ev (rn_load rfl rfl (run_loadVarA T39 rfl (hp.at_ (i := 1) rfl))) ?_
      refine ev_storeA hp (i := 0) (off := 0) (vs := [(.bool x_37), v_3g, (.bool x_39), v_3h, (.bool x_3b), v_3i, (.bool x_3d), v_3j]) rfl rfl rfl rfl T39 rfl (Nat.le_of_ble_eq_true rfl) (ones_cons rfl (ones_cons r_3m.one (ones_cons rfl (ones_cons r_3n.one (ones_cons rfl (ones_cons r_3o.one (ones_cons rfl (ones_cons r_3p.one ones_nil)))))))) ?_
      intro w_3u hp hs
      replace r_3m := r_3m.step hs
      replace r_3n := r_3n.step hs
      replace r_3o := r_3o.step hs
      replace r_3p := r_3p.step hs
      apply go
      obtain rfl := Option.some.inj h
      refine ⟨_, run_loadVarA T39 rfl (hp.at_ (i := 0) rfl), ?_⟩
      have hp := hp.sel [] (by decide)
      exact ⟨I_3k, v_3g, v_3h, v_3i, v_3j, rfl, hp, r_3m, r_3n, r_3o, r_3p⟩

end Go.Proofs.YtepadjfmcbjkmaaGreatDoor

namespace Go.Proofs.YtepadjfmcbjkmaaGreatDoor
open Go Go.Proofs.YtepadjfmcbjkmaaGreatDoor.Gw Go.RowKit
set_option linter.unusedVariables false
attribute [local irreducible] Ev EvQ EvS EvH
def law02_RationalIntervals_S (f : Interval → Interval → Option Bool) : Prop := ∀ (w0 : World) (I0 : Nat → Prop) (tb : Tb w0 I0 4 .u64 pow10) (x_0 : Interval) (v_1 : Value) (r_2 : RepS (dI .u32) w0 I0 v_1 x_0.Lo.Num.Mag) (v_3 : Value) (r_4 : RepS (dI .u32) w0 I0 v_3 x_0.Lo.Den.Mag) (v_5 : Value) (r_6 : RepS (dI .u32) w0 I0 v_5 x_0.Hi.Num.Mag) (v_7 : Value) (r_8 : RepS (dI .u32) w0 I0 v_7 x_0.Hi.Den.Mag) (x_9 : Interval) (v_a : Value) (r_b : RepS (dI .u32) w0 I0 v_a x_9.Lo.Num.Mag) (v_c : Value) (r_d : RepS (dI .u32) w0 I0 v_c x_9.Lo.Den.Mag) (v_e : Value) (r_f : RepS (dI .u32) w0 I0 v_e x_9.Hi.Num.Mag) (v_g : Value) (r_h : RepS (dI .u32) w0 I0 v_g x_9.Hi.Den.Mag) (hI : ∀ g, I0 g → g < w0.heap.size) (r : Bool), f x_0 x_9 = some r →
    Ret Tryz.prog 4 #[(.agg #[(.bool x_0.Lo.Num.Neg), v_1, (.bool x_0.Lo.Den.Neg), v_3, (.bool x_0.Hi.Num.Neg), v_5, (.bool x_0.Hi.Den.Neg), v_7]), (.agg #[(.bool x_9.Lo.Num.Neg), v_a, (.bool x_9.Lo.Den.Neg), v_c, (.bool x_9.Hi.Num.Neg), v_e, (.bool x_9.Hi.Den.Neg), v_g])] w0 fun v w1 => v = (.bool r) ∧ Ch [] w0 w1
theorem law02_RationalIntervals_ok (n : Nat) : law02_RationalIntervals_S (law02_RationalIntervals n) := by
  intro w0 I0 tb x_0 v_1 r_2 v_3 r_4 v_5 r_6 v_7 r_8 x_9 v_a r_b v_c r_d v_e r_f v_g r_h hI r h
  unfold law02_RationalIntervals at h
  refine enter Tryz.func4 rfl (Nat.le_of_ble_eq_true rfl) ?_
  have hp : Hp ⟨w0, I0, []⟩ I0 [] w0 := Hp.start hI
  apply go
  apply go
  refine ev_boxI hp rfl rfl ?_
  intro p_i I_j w_k hp hs a_l
  replace r_b := r_b.step hs
  replace r_d := r_d.step hs
  replace r_f := r_f.step hs
  replace r_h := r_h.step hs
  replace r_2 := r_2.step hs
  replace r_4 := r_4.step hs
  replace r_6 := r_6.step hs
  replace r_8 := r_8.step hs
  replace tb := tb.step hs
  refine ev_boxI hp rfl rfl ?_
  intro p_m I_n w_o hp hs a_p
  replace a_l := a_l.step hs
  replace r_2 := r_2.step hs
  replace r_4 := r_4.step hs
  replace r_6 := r_6.step hs
  replace r_8 := r_8.step hs
  replace r_b := r_b.step hs
  replace r_d := r_d.step hs
  replace r_f := r_f.step hs
  replace r_h := r_h.step hs
  replace tb := tb.step hs
  apply go
  obtain ⟨y_q, q_r, h⟩ := bind_some h
  refine W.cut (γ := ((List Int) × (List Int) × (List Int) × (List Int) × (List Int) × (List Int) × (List Int) × (List Int) × Bool × Value × Value × Value × Value × Value × Value × Value × Value × (Nat → Prop))) (fun g => [(2, (.pointer (some (p_i)))), (3, (.pointer (some (p_m)))), (31, (.bool (g.2.2.2.2.2.2.2.2.1)))]) (fun g w' => y_q = ((g.1), (g.2.1), (g.2.2.1), (g.2.2.2.1), (g.2.2.2.2.1), (g.2.2.2.2.2.1), (g.2.2.2.2.2.2.1), (g.2.2.2.2.2.2.2.1), (g.2.2.2.2.2.2.2.2.1)) ∧ Hp ⟨w0, I0, []⟩ (g.2.2.2.2.2.2.2.2.2.2.2.2.2.2.2.2.2) [] w' ∧ RepS (dI .u32) w' (g.2.2.2.2.2.2.2.2.2.2.2.2.2.2.2.2.2) (g.2.2.2.2.2.2.2.2.2.1) (g.1) ∧ RepS (dI .u32) w' (g.2.2.2.2.2.2.2.2.2.2.2.2.2.2.2.2.2) (g.2.2.2.2.2.2.2.2.2.2.1) (g.2.1) ∧ RepS (dI .u32) w' (g.2.2.2.2.2.2.2.2.2.2.2.2.2.2.2.2.2) (g.2.2.2.2.2.2.2.2.2.2.2.1) (g.2.2.1) ∧ RepS (dI .u32) w' (g.2.2.2.2.2.2.2.2.2.2.2.2.2.2.2.2.2) (g.2.2.2.2.2.2.2.2.2.2.2.2.1) (g.2.2.2.1) ∧ At w' (g.2.2.2.2.2.2.2.2.2.2.2.2.2.2.2.2.2) p_i [(.bool x_0.Lo.Num.Neg), (g.2.2.2.2.2.2.2.2.2.1), (.bool x_0.Lo.Den.Neg), (g.2.2.2.2.2.2.2.2.2.2.1), (.bool x_0.Hi.Num.Neg), (g.2.2.2.2.2.2.2.2.2.2.2.1), (.bool x_0.Hi.Den.Neg), (g.2.2.2.2.2.2.2.2.2.2.2.2.1)] ∧ RepS (dI .u32) w' (g.2.2.2.2.2.2.2.2.2.2.2.2.2.2.2.2.2) (g.2.2.2.2.2.2.2.2.2.2.2.2.2.1) (g.2.2.2.2.1) ∧ RepS (dI .u32) w' (g.2.2.2.2.2.2.2.2.2.2.2.2.2.2.2.2.2) (g.2.2.2.2.2.2.2.2.2.2.2.2.2.2.1) (g.2.2.2.2.2.1) ∧ RepS (dI .u32) w' (g.2.2.2.2.2.2.2.2.2.2.2.2.2.2.2.2.2) (g.2.2.2.2.2.2.2.2.2.2.2.2.2.2.2.1) (g.2.2.2.2.2.2.1) ∧ RepS (dI .u32) w' (g.2.2.2.2.2.2.2.2.2.2.2.2.2.2.2.2.2) (g.2.2.2.2.2.2.2.2.2.2.2.2.2.2.2.2.1) (g.2.2.2.2.2.2.2.1) ∧ At w' (g.2.2.2.2.2.2.2.2.2.2.2.2.2.2.2.2.2) p_m [(.bool x_9.Lo.Num.Neg), (g.2.2.2.2.2.2.2.2.2.2.2.2.2.1), (.bool x_9.Lo.Den.Neg), (g.2.2.2.2.2.2.2.2.2.2.2.2.2.2.1), (.bool x_9.Hi.Num.Neg), (g.2.2.2.2.2.2.2.2.2.2.2.2.2.2.2.1), (.bool x_9.Hi.Den.Neg), (g.2.2.2.2.2.2.2.2.2.2.2.2.2.2.2.2.1)] ∧ Tb w' (g.2.2.2.2.2.2.2.2.2.2.2.2.2.2.2.2.2) 4 .u64 pow10) ?_ ?_
  ·
    apply go
    obtain ⟨x_s, q_t, q_r⟩ := bind_some q_r
    refine ev_call rfl rfl C8 (((law02_awake_ok n) _ _ tb  hp.imm _ q_t).mono ?_)
    rintro _ w_u ⟨rfl, hc⟩
    have hs := hp.stp hc
    replace hp := hp.ext hc
    replace a_l := a_l.step hs
    replace r_2 := r_2.step hs
    replace r_4 := r_4.step hs
    replace r_6 := r_6.step hs
    replace r_8 := r_8.step hs
    replace a_p := a_p.step hs
    replace r_b := r_b.step hs
    replace r_d := r_d.step hs
    replace r_f := r_f.step hs
    replace r_h := r_h.step hs
    replace tb := tb.step hs
    refine sel_of (fun hc => ?_) (fun hc => ?_)
    ·
      have q_r := cond_t q_r hc
      obtain rfl := Option.some.inj q_r
      exact ⟨(x_0.Lo.Num.Mag, x_0.Lo.Den.Mag, x_0.Hi.Num.Mag, x_0.Hi.Den.Mag, x_9.Lo.Num.Mag, x_9.Lo.Den.Mag, x_9.Hi.Num.Mag, x_9.Hi.Den.Mag, true, v_1, v_3, v_5, v_7, v_a, v_c, v_e, v_g, I_n), (.c rfl (.c rfl (.c rfl .n))), rfl, hp, r_2, r_4, r_6, r_8, a_l, r_b, r_d, r_f, r_h, a_p, tb⟩
    ·
      have q_r := cond_f q_r hc
      refine ev0 (rn_field rfl rfl FO39_0) ?_
      refine ev (rn_load rfl rfl (run_loadVarA T26 rfl ((a_l.drop 0).take 4))) ?_
      refine ev0 (rn_field rfl rfl FO39_1) ?_
      refine ev (rn_load rfl rfl (run_loadVarA T26 rfl ((a_l.drop 4).take 4))) ?_
      refine ev0 (rn_field rfl rfl FO39_0) ?_
      refine ev (rn_load rfl rfl (run_loadVarA T26 rfl ((a_p.drop 0).take 4))) ?_
      refine ev0 (rn_field rfl rfl FO39_1) ?_
      refine ev (rn_load rfl rfl (run_loadVarA T26 rfl ((a_p.drop 4).take 4))) ?_
      obtain ⟨A_v, m_w, m_x, rfl⟩ := r_2.isSl
      obtain ⟨A_y, m_z, m_10, rfl⟩ := r_4.isSl
      obtain ⟨A_11, m_12, m_13, rfl⟩ := r_6.isSl
      obtain ⟨A_14, m_15, m_16, rfl⟩ := r_8.isSl
      obtain ⟨A_17, m_18, m_19, rfl⟩ := r_b.isSl
      obtain ⟨A_1a, m_1b, m_1c, rfl⟩ := r_d.isSl
      obtain ⟨A_1d, m_1e, m_1f, rfl⟩ := r_f.isSl
      obtain ⟨A_1g, m_1h, m_1i, rfl⟩ := r_h.isSl
      refine ev_litN (d := dRational) (xs := [(Rational.mk (Int_2.mk x_0.Lo.Num.Neg x_0.Lo.Num.Mag) (Int_2.mk x_0.Lo.Den.Neg x_0.Lo.Den.Mag)), (Rational.mk (Int_2.mk x_0.Hi.Num.Neg x_0.Hi.Num.Mag) (Int_2.mk x_0.Hi.Den.Neg x_0.Hi.Den.Mag)), (Rational.mk (Int_2.mk x_9.Lo.Num.Neg x_9.Lo.Num.Mag) (Int_2.mk x_9.Lo.Den.Neg x_9.Lo.Den.Mag)), (Rational.mk (Int_2.mk x_9.Hi.Num.Neg x_9.Hi.Num.Mag) (Int_2.mk x_9.Hi.Den.Neg x_9.Hi.Den.Mag))]) (cs := [(.bool x_0.Lo.Num.Neg), (.slice A_v m_w m_x), (.bool x_0.Lo.Den.Neg), (.slice A_y m_z m_10), (.bool x_0.Hi.Num.Neg), (.slice A_11 m_12 m_13), (.bool x_0.Hi.Den.Neg), (.slice A_14 m_15 m_16), (.bool x_9.Lo.Num.Neg), (.slice A_17 m_18 m_19), (.bool x_9.Lo.Den.Neg), (.slice A_1a m_1b m_1c), (.bool x_9.Hi.Num.Neg), (.slice A_1d m_1e m_1f), (.bool x_9.Hi.Den.Neg), (.slice A_1g m_1h m_1i)]) hp rfl rfl Tryz.underlying56 T26 (by decide) (by kernel_rfl) rfl (Elems.cons (d := dRational) (xs := _) (dRational_m r_2 r_4) (Elems.cons (d := dRational) (xs := _) (dRational_m r_6 r_8) (Elems.cons (d := dRational) (xs := _) (dRational_m r_b r_d) (Elems.cons (d := dRational) (xs := _) (dRational_m r_f r_h) (Elems.nil _ _ _ _))))) ?_
      intro v_1j I_1k w_1l hp hs r_1m
      replace a_l := a_l.step hs
      replace r_2 := r_2.step hs
      replace r_4 := r_4.step hs
      replace r_6 := r_6.step hs
      replace r_8 := r_8.step hs
      replace a_p := a_p.step hs
      replace r_b := r_b.step hs
      replace r_d := r_d.step hs
      replace r_f := r_f.step hs
      replace r_h := r_h.step hs
      replace tb := tb.step hs
      obtain ⟨x_1n, q_1o, q_r⟩ := bind_some q_r
      refine ev_call rfl rfl C9 (((law02_few_ok n) _ _  [(Rational.mk (Int_2.mk x_0.Lo.Num.Neg x_0.Lo.Num.Mag) (Int_2.mk x_0.Lo.Den.Neg x_0.Lo.Den.Mag)), (Rational.mk (Int_2.mk x_0.Hi.Num.Neg x_0.Hi.Num.Mag) (Int_2.mk x_0.Hi.Den.Neg x_0.Hi.Den.Mag)), (Rational.mk (Int_2.mk x_9.Lo.Num.Neg x_9.Lo.Num.Mag) (Int_2.mk x_9.Lo.Den.Neg x_9.Lo.Den.Mag)), (Rational.mk (Int_2.mk x_9.Hi.Num.Neg x_9.Hi.Num.Mag) (Int_2.mk x_9.Hi.Den.Neg x_9.Hi.Den.Mag))] v_1j r_1m hp.imm _ q_1o).mono ?_)
      rintro _ w_1p ⟨rfl, hc⟩
      have hs := hp.stp hc
      replace hp := hp.ext hc
      replace a_l := a_l.step hs
      replace r_2 := r_2.step hs
      replace r_4 := r_4.step hs
      replace r_6 := r_6.step hs
      replace r_8 := r_8.step hs
      replace a_p := a_p.step hs
      replace r_b := r_b.step hs
      replace r_d := r_d.step hs
      replace r_f := r_f.step hs
      replace r_h := r_h.step hs
      replace tb := tb.step hs
      obtain rfl := Option.some.inj q_r
      exact ⟨(x_0.Lo.Num.Mag, x_0.Lo.Den.Mag, x_0.Hi.Num.Mag, x_0.Hi.Den.Mag, x_9.Lo.Num.Mag, x_9.Lo.Den.Mag, x_9.Hi.Num.Mag, x_9.Hi.Den.Mag, (!x_1n), (.slice A_v m_w m_x), (.slice A_y m_z m_10), (.slice A_11 m_12 m_13), (.slice A_14 m_15 m_16), (.slice A_17 m_18 m_19), (.slice A_1a m_1b m_1c), (.slice A_1d m_1e m_1f), (.slice A_1g m_1h m_1i), I_1k), (.c rfl (.c rfl (.c rfl .n))), rfl, hp, r_2, r_4, r_6, r_8, a_l, r_b, r_d, r_f, r_h, a_p, tb⟩
  ·
    rintro ⟨x_1q, x_1r, x_1s, x_1t, x_1u, x_1v, x_1w, x_1x, x_1y, v_1z, v_20, v_21, v_22, v_23, v_24, v_25, v_26, I_27⟩ w_28 ⟨hy, hp, r_29, r_2a, r_2b, r_2c, a_l, r_2d, r_2e, r_2f, r_2g, a_p, tb⟩
    replace hy := hy.symm
    subst hy
    apply go
    refine sel_of (fun hc => ?_) (fun hc => ?_)
    ·
      have h := cond_t h hc
      apply go
      apply go
      obtain ⟨x_2h, q_2i, h⟩ := bind_some h
      refine ev_call rfl rfl C8 (((law02_awake_ok n) _ _ tb  hp.imm _ q_2i).mono ?_)
      rintro _ w_2j ⟨rfl, hc⟩
      have hs := hp.stp hc
      replace hp := hp.ext hc
      replace tb := tb.step hs
      apply go
      obtain rfl := Option.some.inj h
      exact ⟨rfl, hp.ch⟩
    ·
      have h := cond_f h hc
      apply go
      apply go
      apply go
      refine ev (rn_load rfl rfl (run_loadVarA T39 rfl a_l)) ?_
      refine ev (rn_load rfl rfl (run_loadVarA T39 rfl a_p)) ?_
      obtain ⟨⟨x_2k, x_2l⟩, q_2m, h⟩ := bind_some h
      refine ev_call rfl rfl C20 (((rational_Plus_ok n) _ _  (Interval.mk (Rational.mk (Int_2.mk x_0.Lo.Num.Neg x_1q) (Int_2.mk x_0.Lo.Den.Neg x_1r)) (Rational.mk (Int_2.mk x_0.Hi.Num.Neg x_1s) (Int_2.mk x_0.Hi.Den.Neg x_1t))) v_1z r_29 v_20 r_2a v_21 r_2b v_22 r_2c (Interval.mk (Rational.mk (Int_2.mk x_9.Lo.Num.Neg x_1u) (Int_2.mk x_9.Lo.Den.Neg x_1v)) (Rational.mk (Int_2.mk x_9.Hi.Num.Neg x_1w) (Int_2.mk x_9.Hi.Den.Neg x_1x))) v_23 r_2d v_24 r_2e v_25 r_2f v_26 r_2g hp.imm _ q_2m).mono ?_)
      rintro _ w_2n ⟨I_2o, v_2p, v_2q, v_2r, v_2s, hv, hq, r_2t, r_2u, r_2v, r_2w⟩
      replace hv := hv.symm
      subst hv
      have hs := hq.st
      have hp := hp.join0 hq
      replace a_l := a_l.step hs
      replace r_29 := r_29.step hs
      replace r_2a := r_2a.step hs
      replace r_2b := r_2b.step hs
      replace r_2c := r_2c.step hs
      replace a_p := a_p.step hs
      replace r_2d := r_2d.step hs
      replace r_2e := r_2e.step hs
      replace r_2f := r_2f.step hs
      replace r_2g := r_2g.step hs
      replace tb := tb.step hs
      refine ev_alloc hp rfl T39 ?_
      intro g_2x w_2y hp hs
      replace a_l := a_l.step hs
      replace r_29 := r_29.step hs
      replace r_2a := r_2a.step hs
      replace r_2b := r_2b.step hs
      replace r_2c := r_2c.step hs
      replace a_p := a_p.step hs
      replace r_2d := r_2d.step hs
      replace r_2e := r_2e.step hs
      replace r_2f := r_2f.step hs
      replace r_2g := r_2g.step hs
      replace r_2t := r_2t.step hs
      replace r_2u := r_2u.step hs
      replace r_2v := r_2v.step hs
      replace r_2w := r_2w.step hs
      replace tb := tb.step hs
      refine ev_storeA hp (i := 0) (off := 0) (vs := [(.bool x_2k.Lo.Num.Neg), v_2p, (.bool x_2k.Lo.Den.Neg), v_2q, (.bool x_2k.Hi.Num.Neg), v_2r, (.bool x_2k.Hi.Den.Neg), v_2s]) rfl rfl rfl rfl T39 rfl (Nat.le_of_ble_eq_true rfl) (ones_cons rfl (ones_cons r_2t.one (ones_cons rfl (ones_cons r_2u.one (ones_cons rfl (ones_cons r_2v.one (ones_cons rfl (ones_cons r_2w.one ones_nil)))))))) ?_
      intro w_2z hp hs
      replace a_l := a_l.step hs
      replace r_29 := r_29.step hs
      replace r_2a := r_2a.step hs
      replace r_2b := r_2b.step hs
      replace r_2c := r_2c.step hs
      replace a_p := a_p.step hs
      replace r_2d := r_2d.step hs
      replace r_2e := r_2e.step hs
      replace r_2f := r_2f.step hs
      replace r_2g := r_2g.step hs
      replace r_2t := r_2t.step hs
      replace r_2u := r_2u.step hs
      replace r_2v := r_2v.step hs
      replace r_2w := r_2w.step hs
      replace tb := tb.step hs
      apply go
      apply go
      refine ev (rn_load rfl rfl (run_loadVarA T39 rfl a_l)) ?_
      refine ev (rn_load rfl rfl (run_loadVarA T39 rfl a_p)) ?_
      obtain ⟨⟨x_30, x_31⟩, q_32, h⟩ := bind_some h
      refine ev_call rfl rfl C21 (((rational_Times_ok n) _ _  (Interval.mk (Rational.mk (Int_2.mk x_0.Lo.Num.Neg x_1q) (Int_2.mk x_0.Lo.Den.Neg x_1r)) (Rational.mk (Int_2.mk x_0.Hi.Num.Neg x_1s) (Int_2.mk x_0.Hi.Den.Neg x_1t))) v_1z r_29 v_20 r_2a v_21 r_2b v_22 r_2c (Interval.mk (Rational.mk (Int_2.mk x_9.Lo.Num.Neg x_1u) (Int_2.mk x_9.Lo.Den.Neg x_1v)) (Rational.mk (Int_2.mk x_9.Hi.Num.Neg x_1w) (Int_2.mk x_9.Hi.Den.Neg x_1x))) v_23 r_2d v_24 r_2e v_25 r_2f v_26 r_2g hp.imm _ q_32).mono ?_)
      rintro _ w_33 ⟨I_34, v_35, v_36, v_37, v_38, hv, hq, r_39, r_3a, r_3b, r_3c⟩
      replace hv := hv.symm
      subst hv
      have hs := hq.st
      have hp := hp.join0 hq
      replace a_l := a_l.step hs
      replace r_29 := r_29.step hs
      replace r_2a := r_2a.step hs
      replace r_2b := r_2b.step hs
      replace r_2c := r_2c.step hs
      replace a_p := a_p.step hs
      replace r_2d := r_2d.step hs
      replace r_2e := r_2e.step hs
      replace r_2f := r_2f.step hs
      replace r_2g := r_2g.step hs
      replace r_2t := r_2t.step hs
      replace r_2u := r_2u.step hs
      replace r_2v := r_2v.step hs
      replace r_2w := r_2w.step hs
      replace tb := tb.step hs
      refine ev_alloc hp rfl T39 ?_
      intro g_3d w_3e hp hs
      replace a_l := a_l.step hs
      replace r_29 := r_29.step hs
      replace r_2a := r_2a.step hs
      replace r_2b := r_2b.step hs
      replace r_2c := r_2c.step hs
      replace a_p := a_p.step hs
      replace r_2d := r_2d.step hs
      replace r_2e := r_2e.step hs
      replace r_2f := r_2f.step hs
      replace r_2g := r_2g.step hs
      replace r_39 := r_39.step hs
      replace r_3a := r_3a.step hs
      replace r_3b := r_3b.step hs
      replace r_3c := r_3c.step hs
      replace r_2t := r_2t.step hs
      replace r_2u := r_2u.step hs
      replace r_2v := r_2v.step hs
      replace r_2w := r_2w.step hs
      replace tb := tb.step hs
      refine ev_storeA hp (i := 0) (off := 0) (vs := [(.bool x_30.Lo.Num.Neg), v_35, (.bool x_30.Lo.Den.Neg), v_36, (.bool x_30.Hi.Num.Neg), v_37, (.bool x_30.Hi.Den.Neg), v_38]) rfl rfl rfl rfl T39 rfl (Nat.le_of_ble_eq_true rfl) (ones_cons rfl (ones_cons r_39.one (ones_cons rfl (ones_cons r_3a.one (ones_cons rfl (ones_cons r_3b.one (ones_cons rfl (ones_cons r_3c.one ones_nil)))))))) ?_
      intro w_3f hp hs
      replace a_l := a_l.step hs
      replace r_29 := r_29.step hs
      replace r_2a := r_2a.step hs
      replace r_2b := r_2b.step hs
      replace r_2c := r_2c.step hs
      replace a_p := a_p.step hs
      replace r_2d := r_2d.step hs
      replace r_2e := r_2e.step hs
      replace r_2f := r_2f.step hs
      replace r_2g := r_2g.step hs
      replace r_39 := r_39.step hs
      replace r_3a := r_3a.step hs
      replace r_3b := r_3b.step hs
      replace r_3c := r_3c.step hs
      replace r_2t := r_2t.step hs
      replace r_2u := r_2u.step hs
      replace r_2v := r_2v.step hs
      replace r_2w := r_2w.step hs
      replace tb := tb.step hs
      apply go
      apply go
      refine ev (rn_load rfl rfl (run_loadVarA T39 rfl a_l)) ?_
      refine ev (rn_load rfl rfl (run_loadVarA T39 rfl a_p)) ?_
      obtain ⟨⟨x_3g, x_3h⟩, q_3i, h⟩ := bind_some h
      refine ev_call rfl rfl C22 (((rational_Meet_ok n) _ _  (Interval.mk (Rational.mk (Int_2.mk x_0.Lo.Num.Neg x_1q) (Int_2.mk x_0.Lo.Den.Neg x_1r)) (Rational.mk (Int_2.mk x_0.Hi.Num.Neg x_1s) (Int_2.mk x_0.Hi.Den.Neg x_1t))) v_1z r_29 v_20 r_2a v_21 r_2b v_22 r_2c (Interval.mk (Rational.mk (Int_2.mk x_9.Lo.Num.Neg x_1u) (Int_2.mk x_9.Lo.Den.Neg x_1v)) (Rational.mk (Int_2.mk x_9.Hi.Num.Neg x_1w) (Int_2.mk x_9.Hi.Den.Neg x_1x))) v_23 r_2d v_24 r_2e v_25 r_2f v_26 r_2g hp.imm _ q_3i).mono ?_)
      rintro _ w_3j ⟨I_3k, v_3l, v_3m, v_3n, v_3o, hv, hq, r_3p, r_3q, r_3r, r_3s⟩
      replace hv := hv.symm
      subst hv
      have hs := hq.st
      have hp := hp.join0 hq
      replace a_l := a_l.step hs
      replace r_29 := r_29.step hs
      replace r_2a := r_2a.step hs
      replace r_2b := r_2b.step hs
      replace r_2c := r_2c.step hs
      replace a_p := a_p.step hs
      replace r_2d := r_2d.step hs
      replace r_2e := r_2e.step hs
      replace r_2f := r_2f.step hs
      replace r_2g := r_2g.step hs
      replace r_39 := r_39.step hs
      replace r_3a := r_3a.step hs
      replace r_3b := r_3b.step hs
      replace r_3c := r_3c.step hs
      replace r_2t := r_2t.step hs
      replace r_2u := r_2u.step hs
      replace r_2v := r_2v.step hs
      replace r_2w := r_2w.step hs
      replace tb := tb.step hs
      refine ev_alloc hp rfl T39 ?_
      intro g_3t w_3u hp hs
      replace a_l := a_l.step hs
      replace r_29 := r_29.step hs
      replace r_2a := r_2a.step hs
      replace r_2b := r_2b.step hs
      replace r_2c := r_2c.step hs
      replace a_p := a_p.step hs
      replace r_2d := r_2d.step hs
      replace r_2e := r_2e.step hs
      replace r_2f := r_2f.step hs
      replace r_2g := r_2g.step hs
      replace r_3p := r_3p.step hs
      replace r_3q := r_3q.step hs
      replace r_3r := r_3r.step hs
      replace r_3s := r_3s.step hs
      replace r_39 := r_39.step hs
      replace r_3a := r_3a.step hs
      replace r_3b := r_3b.step hs
      replace r_3c := r_3c.step hs
      replace r_2t := r_2t.step hs
      replace r_2u := r_2u.step hs
      replace r_2v := r_2v.step hs
      replace r_2w := r_2w.step hs
      replace tb := tb.step hs
      refine ev_storeA hp (i := 0) (off := 0) (vs := [(.bool x_3g.Lo.Num.Neg), v_3l, (.bool x_3g.Lo.Den.Neg), v_3m, (.bool x_3g.Hi.Num.Neg), v_3n, (.bool x_3g.Hi.Den.Neg), v_3o]) rfl rfl rfl rfl T39 rfl (Nat.le_of_ble_eq_true rfl) (ones_cons rfl (ones_cons r_3p.one (ones_cons rfl (ones_cons r_3q.one (ones_cons rfl (ones_cons r_3r.one (ones_cons rfl (ones_cons r_3s.one ones_nil)))))))) ?_
      intro w_3v hp hs
      replace a_l := a_l.step hs
      replace r_29 := r_29.step hs
      replace r_2a := r_2a.step hs
      replace r_2b := r_2b.step hs
      replace r_2c := r_2c.step hs
      replace a_p := a_p.step hs
      replace r_2d := r_2d.step hs
      replace r_2e := r_2e.step hs
      replace r_2f := r_2f.step hs
      replace r_2g := r_2g.step hs
      replace r_3p := r_3p.step hs
      replace r_3q := r_3q.step hs
      replace r_3r := r_3r.step hs
      replace r_3s := r_3s.step hs
      replace r_39 := r_39.step hs
      replace r_3a := r_3a.step hs
      replace r_3b := r_3b.step hs
      replace r_3c := r_3c.step hs
      replace r_2t := r_2t.step hs
      replace r_2u := r_2u.step hs
      replace r_2v := r_2v.step hs
      replace r_2w := r_2w.step hs
      replace tb := tb.step hs
      apply go
      apply go
      refine ev (rn_load rfl rfl (run_loadVarA T39 rfl a_l)) ?_
      refine ev (rn_load rfl rfl (run_loadVarA T39 rfl a_p)) ?_
      obtain ⟨⟨x_3w, x_3x⟩, q_3y, h⟩ := bind_some h
      refine ev_call rfl rfl C23 (((ref02_Plus_ok n) _ _  (Interval.mk (Rational.mk (Int_2.mk x_0.Lo.Num.Neg x_1q) (Int_2.mk x_0.Lo.Den.Neg x_1r)) (Rational.mk (Int_2.mk x_0.Hi.Num.Neg x_1s) (Int_2.mk x_0.Hi.Den.Neg x_1t))) v_1z r_29 v_20 r_2a v_21 r_2b v_22 r_2c (Interval.mk (Rational.mk (Int_2.mk x_9.Lo.Num.Neg x_1u) (Int_2.mk x_9.Lo.Den.Neg x_1v)) (Rational.mk (Int_2.mk x_9.Hi.Num.Neg x_1w) (Int_2.mk x_9.Hi.Den.Neg x_1x))) v_23 r_2d v_24 r_2e v_25 r_2f v_26 r_2g hp.imm _ q_3y).mono ?_)
      rintro _ w_3z ⟨I_40, v_41, v_42, v_43, v_44, hv, hq, r_45, r_46, r_47, r_48⟩
      replace hv := hv.symm
      subst hv
      have hs := hq.st
      have hp := hp.join0 hq
      replace a_l := a_l.step hs
      replace r_29 := r_29.step hs
      replace r_2a := r_2a.step hs
      replace r_2b := r_2b.step hs
      replace r_2c := r_2c.step hs
      replace a_p := a_p.step hs
      replace r_2d := r_2d.step hs
      replace r_2e := r_2e.step hs
      replace r_2f := r_2f.step hs
      replace r_2g := r_2g.step hs
      replace r_3p := r_3p.step hs
      replace r_3q := r_3q.step hs
      replace r_3r := r_3r.step hs
      replace r_3s := r_3s.step hs
      replace r_39 := r_39.step hs
      replace r_3a := r_3a.step hs
      replace r_3b := r_3b.step hs
      replace r_3c := r_3c.step hs
      replace r_2t := r_2t.step hs
      replace r_2u := r_2u.step hs
      replace r_2v := r_2v.step hs
      replace r_2w := r_2w.step hs
      replace tb := tb.step hs
      refine ev_alloc hp rfl T39 ?_
      intro g_49 w_4a hp hs
      replace a_l := a_l.step hs
      replace r_29 := r_29.step hs
      replace r_2a := r_2a.step hs
      replace r_2b := r_2b.step hs
      replace r_2c := r_2c.step hs
      replace a_p := a_p.step hs
      replace r_2d := r_2d.step hs
      replace r_2e := r_2e.step hs
      replace r_2f := r_2f.step hs
      replace r_2g := r_2g.step hs
      replace r_45 := r_45.step hs
      replace r_46 := r_46.step hs
      replace r_47 := r_47.step hs
      replace r_48 := r_48.step hs
      replace r_3p := r_3p.step hs
      replace r_3q := r_3q.step hs
      replace r_3r := r_3r.step hs
      replace r_3s := r_3s.step hs
      replace r_39 := r_39.step hs
      replace r_3a := r_3a.step hs
      replace r_3b := r_3b.step hs
      replace r_3c := r_3c.step hs
      replace r_2t := r_2t.step hs
      replace r_2u := r_2u.step hs
      replace r_2v := r_2v.step hs
      replace r_2w := r_2w.step hs
      replace tb := tb.step hs
      refine ev_storeA hp (i := 0) (off := 0) (vs := [(.bool x_3w.Lo.Num.Neg), v_41, (.bool x_3w.Lo.Den.Neg), v_42, (.bool x_3w.Hi.Num.Neg), v_43, (.bool x_3w.Hi.Den.Neg), v_44]) rfl rfl rfl rfl T39 rfl (Nat.le_of_ble_eq_true rfl) (ones_cons rfl (ones_cons r_45.one (ones_cons rfl (ones_cons r_46.one (ones_cons rfl (ones_cons r_47.one (ones_cons rfl (ones_cons r_48.one ones_nil)))))))) ?_
      intro w_4b hp hs
      replace a_l := a_l.step hs
      replace r_29 := r_29.step hs
      replace r_2a := r_2a.step hs
      replace r_2b := r_2b.step hs
      replace r_2c := r_2c.step hs
      replace a_p := a_p.step hs
      replace r_2d := r_2d.step hs
      replace r_2e := r_2e.step hs
      replace r_2f := r_2f.step hs
      replace r_2g := r_2g.step hs
      replace r_45 := r_45.step hs
      replace r_46 := r_46.step hs
      replace r_47 := r_47.step hs
      replace r_48 := r_48.step hs
      replace r_3p := r_3p.step hs
      replace r_3q := r_3q.step hs
      replace r_3r := r_3r.step hs
      replace r_3s := r_3s.step hs
      replace r_39 := r_39.step hs
      replace r_3a := r_3a.step hs
      replace r_3b := r_3b.step hs
      replace r_3c := r_3c.step hs
      replace r_2t := r_2t.step hs
      replace r_2u := r_2u.step hs
      replace r_2v := r_2v.step hs
      replace r_2w := r_2w.step hs
      replace tb := tb.step hs
      apply go
      apply go
      refine ev (rn_load rfl rfl (run_loadVarA T39 rfl a_l)) ?_
      refine ev (rn_load rfl rfl (run_loadVarA T39 rfl a_p)) ?_
      obtain ⟨⟨x_4c, x_4d⟩, q_4e, h⟩ := bind_some h
      refine ev_call rfl rfl C24 (((ref02_Times_ok n) _ _  (Interval.mk (Rational.mk (Int_2.mk x_0.Lo.Num.Neg x_1q) (Int_2.mk x_0.Lo.Den.Neg x_1r)) (Rational.mk (Int_2.mk x_0.Hi.Num.Neg x_1s) (Int_2.mk x_0.Hi.Den.Neg x_1t))) v_1z r_29 v_20 r_2a v_21 r_2b v_22 r_2c (Interval.mk (Rational.mk (Int_2.mk x_9.Lo.Num.Neg x_1u) (Int_2.mk x_9.Lo.Den.Neg x_1v)) (Rational.mk (Int_2.mk x_9.Hi.Num.Neg x_1w) (Int_2.mk x_9.Hi.Den.Neg x_1x))) v_23 r_2d v_24 r_2e v_25 r_2f v_26 r_2g hp.imm _ q_4e).mono ?_)
      rintro _ w_4f ⟨I_4g, v_4h, v_4i, v_4j, v_4k, hv, hq, r_4l, r_4m, r_4n, r_4o⟩
      replace hv := hv.symm
      subst hv
      have hs := hq.st
      have hp := hp.join0 hq
      replace a_l := a_l.step hs
      replace r_29 := r_29.step hs
      replace r_2a := r_2a.step hs
      replace r_2b := r_2b.step hs
      replace r_2c := r_2c.step hs
      replace a_p := a_p.step hs
      replace r_2d := r_2d.step hs
      replace r_2e := r_2e.step hs
      replace r_2f := r_2f.step hs
      replace r_2g := r_2g.step hs
      replace r_45 := r_45.step hs
      replace r_46 := r_46.step hs
      replace r_47 := r_47.step hs
      replace r_48 := r_48.step hs
      replace r_3p := r_3p.step hs
      replace r_3q := r_3q.step hs
      replace r_3r := r_3r.step hs
      replace r_3s := r_3s.step hs
      replace r_39 := r_39.step hs
      replace r_3a := r_3a.step hs
      replace r_3b := r_3b.step hs
      replace r_3c := r_3c.step hs
      replace r_2t := r_2t.step hs
      replace r_2u := r_2u.step hs
      replace r_2v := r_2v.step hs
      replace r_2w := r_2w.step hs
      replace tb := tb.step hs
      refine ev_alloc hp rfl T39 ?_
      intro g_4p w_4q hp hs
      replace a_l := a_l.step hs
      replace r_29 := r_29.step hs
      replace r_2a := r_2a.step hs
      replace r_2b := r_2b.step hs
      replace r_2c := r_2c.step hs
      replace a_p := a_p.step hs
      replace r_2d := r_2d.step hs
      replace r_2e := r_2e.step hs
      replace r_2f := r_2f.step hs
      replace r_2g := r_2g.step hs
      replace r_4l := r_4l.step hs
      replace r_4m := r_4m.step hs
      replace r_4n := r_4n.step hs
      replace r_4o := r_4o.step hs
      replace r_45 := r_45.step hs
      replace r_46 := r_46.step hs
      replace r_47 := r_47.step hs
      replace r_48 := r_48.step hs
      replace r_3p := r_3p.step hs
      replace r_3q := r_3q.step hs
      replace r_3r := r_3r.step hs
      replace r_3s := r_3s.step hs
      replace r_39 := r_39.step hs
      replace r_3a := r_3a.step hs
      replace r_3b := r_3b.step hs
      replace r_3c := r_3c.step hs
      replace r_2t := r_2t.step hs
      replace r_2u := r_2u.step hs
      replace r_2v := r_2v.step hs
      replace r_2w := r_2w.step hs
      replace tb := tb.step hs
      refine ev_storeA hp (i := 0) (off := 0) (vs := [(.bool x_4c.Lo.Num.Neg), v_4h, (.bool x_4c.Lo.Den.Neg), v_4i, (.bool x_4c.Hi.Num.Neg), v_4j, (.bool x_4c.Hi.Den.Neg), v_4k]) rfl rfl rfl rfl T39 rfl (Nat.le_of_ble_eq_true rfl) (ones_cons rfl (ones_cons r_4l.one (ones_cons rfl (ones_cons r_4m.one (ones_cons rfl (ones_cons r_4n.one (ones_cons rfl (ones_cons r_4o.one ones_nil)))))))) ?_
      intro w_4r hp hs
      replace a_l := a_l.step hs
      replace r_29 := r_29.step hs
      replace r_2a := r_2a.step hs
      replace r_2b := r_2b.step hs
      replace r_2c := r_2c.step hs
      replace a_p := a_p.step hs
      replace r_2d := r_2d.step hs
      replace r_2e := r_2e.step hs
      replace r_2f := r_2f.step hs
      replace r_2g := r_2g.step hs
      replace r_4l := r_4l.step hs
      replace r_4m := r_4m.step hs
      replace r_4n := r_4n.step hs
      replace r_4o := r_4o.step hs
      replace r_45 := r_45.step hs
      replace r_46 := r_46.step hs
      replace r_47 := r_47.step hs
      replace r_48 := r_48.step hs
      replace r_3p := r_3p.step hs
      replace r_3q := r_3q.step hs
      replace r_3r := r_3r.step hs
      replace r_3s := r_3s.step hs
      replace r_39 := r_39.step hs
      replace r_3a := r_3a.step hs
      replace r_3b := r_3b.step hs
      replace r_3c := r_3c.step hs
      replace r_2t := r_2t.step hs
      replace r_2u := r_2u.step hs
      replace r_2v := r_2v.step hs
      replace r_2w := r_2w.step hs
      replace tb := tb.step hs
      apply go
      apply go
      refine ev (rn_load rfl rfl (run_loadVarA T39 rfl a_l)) ?_
      refine ev (rn_load rfl rfl (run_loadVarA T39 rfl a_p)) ?_
      obtain ⟨⟨x_4s, x_4t⟩, q_4u, h⟩ := bind_some h
      refine ev_call rfl rfl C25 (((ref02_Meet_ok n) _ _  (Interval.mk (Rational.mk (Int_2.mk x_0.Lo.Num.Neg x_1q) (Int_2.mk x_0.Lo.Den.Neg x_1r)) (Rational.mk (Int_2.mk x_0.Hi.Num.Neg x_1s) (Int_2.mk x_0.Hi.Den.Neg x_1t))) v_1z r_29 v_20 r_2a v_21 r_2b v_22 r_2c (Interval.mk (Rational.mk (Int_2.mk x_9.Lo.Num.Neg x_1u) (Int_2.mk x_9.Lo.Den.Neg x_1v)) (Rational.mk (Int_2.mk x_9.Hi.Num.Neg x_1w) (Int_2.mk x_9.Hi.Den.Neg x_1x))) v_23 r_2d v_24 r_2e v_25 r_2f v_26 r_2g hp.imm _ q_4u).mono ?_)
      rintro _ w_4v ⟨I_4w, v_4x, v_4y, v_4z, v_50, hv, hq, r_51, r_52, r_53, r_54⟩
      replace hv := hv.symm
      subst hv
      have hs := hq.st
      have hp := hp.join0 hq
      replace r_4l := r_4l.step hs
      replace r_4m := r_4m.step hs
      replace r_4n := r_4n.step hs
      replace r_4o := r_4o.step hs
      replace r_45 := r_45.step hs
      replace r_46 := r_46.step hs
      replace r_47 := r_47.step hs
      replace r_48 := r_48.step hs
      replace r_3p := r_3p.step hs
      replace r_3q := r_3q.step hs
      replace r_3r := r_3r.step hs
      replace r_3s := r_3s.step hs
      replace r_39 := r_39.step hs
      replace r_3a := r_3a.step hs
      replace r_3b := r_3b.step hs
      replace r_3c := r_3c.step hs
      replace r_2t := r_2t.step hs
      replace r_2u := r_2u.step hs
      replace r_2v := r_2v.step hs
      replace r_2w := r_2w.step hs
      replace tb := tb.step hs
      refine ev_alloc hp rfl T39 ?_
      intro g_55 w_56 hp hs
      replace r_51 := r_51.step hs
      replace r_52 := r_52.step hs
      replace r_53 := r_53.step hs
      replace r_54 := r_54.step hs
      replace r_4l := r_4l.step hs
      replace r_4m := r_4m.step hs
      replace r_4n := r_4n.step hs
      replace r_4o := r_4o.step hs
      replace r_45 := r_45.step hs
      replace r_46 := r_46.step hs
      replace r_47 := r_47.step hs
      replace r_48 := r_48.step hs
      replace r_3p := r_3p.step hs
      replace r_3q := r_3q.step hs
      replace r_3r := r_3r.step hs
      replace r_3s := r_3s.step hs
      replace r_39 := r_39.step hs
      replace r_3a := r_3a.step hs
      replace r_3b := r_3b.step hs
      replace r_3c := r_3c.step hs
      replace r_2t := r_2t.step hs
      replace r_2u := r_2u.step hs
      replace r_2v := r_2v.step hs
      replace r_2w := r_2w.step hs
      replace tb := tb.step hs
      refine ev_storeA hp (i := 0) (off := 0) (vs := [(.bool x_4s.Lo.Num.Neg), v_4x, (.bool x_4s.Lo.Den.Neg), v_4y, (.bool x_4s.Hi.Num.Neg), v_4z, (.bool x_4s.Hi.Den.Neg), v_50]) rfl rfl rfl rfl T39 rfl (Nat.le_of_ble_eq_true rfl) (ones_cons rfl (ones_cons r_51.one (ones_cons rfl (ones_cons r_52.one (ones_cons rfl (ones_cons r_53.one (ones_cons rfl (ones_cons r_54.one ones_nil)))))))) ?_
      intro w_57 hp hs
      replace r_51 := r_51.step hs
      replace r_52 := r_52.step hs
      replace r_53 := r_53.step hs
      replace r_54 := r_54.step hs
      replace r_4l := r_4l.step hs
      replace r_4m := r_4m.step hs
      replace r_4n := r_4n.step hs
      replace r_4o := r_4o.step hs
      replace r_45 := r_45.step hs
      replace r_46 := r_46.step hs
      replace r_47 := r_47.step hs
      replace r_48 := r_48.step hs
      replace r_3p := r_3p.step hs
      replace r_3q := r_3q.step hs
      replace r_3r := r_3r.step hs
      replace r_3s := r_3s.step hs
      replace r_39 := r_39.step hs
      replace r_3a := r_3a.step hs
      replace r_3b := r_3b.step hs
      replace r_3c := r_3c.step hs
      replace r_2t := r_2t.step hs
      replace r_2u := r_2u.step hs
      replace r_2v := r_2v.step hs
      replace r_2w := r_2w.step hs
      replace tb := tb.step hs
      obtain ⟨y_58, q_59, h⟩ := bind_some h
      refine W.cut (γ := Bool) (fun g => [(4, (.bool (g)))]) (fun g w' => y_58 = (g) ∧ Hp ⟨w0, I0, []⟩ I_4w [] w' ∧ Tb w' I_4w 4 .u64 pow10) ?_ ?_
      ·
        apply go
        refine sel_of (fun hc => ?_) (fun hc => ?_)
        ·
          have q_59 := cond_t q_59 hc
          refine sel_of (fun hc => ?_) (fun hc => ?_)
          ·
            have q_59 := cond_t q_59 hc
            refine ev0 (rn_eqB rfl rfl rfl Tryz.underlying4) ?_
            refine sel_of (fun hc => ?_) (fun hc => ?_)
            ·
              have q_59 := cond_t q_59 hc
              refine ev0 (rn_field rfl rfl FO39_0) ?_
              refine ev (rn_load rfl rfl (run_loadVarA T26 rfl (((hp.at_ (i := 5) rfl).drop 0).take 4))) ?_
              refine ev0 (rn_field rfl rfl FO39_0) ?_
              refine ev (rn_load rfl rfl (run_loadVarA T26 rfl (((hp.at_ (i := 2) rfl).drop 0).take 4))) ?_
              obtain ⟨x_5a, q_5b, q_59⟩ := bind_some q_59
              refine ev_call rfl rfl C14 (((base_Rational_ok n) _ _  (Rational.mk (Int_2.mk x_2k.Lo.Num.Neg x_2k.Lo.Num.Mag) (Int_2.mk x_2k.Lo.Den.Neg x_2k.Lo.Den.Mag)) v_2p r_2t v_2q r_2u (Rational.mk (Int_2.mk x_3w.Lo.Num.Neg x_3w.Lo.Num.Mag) (Int_2.mk x_3w.Lo.Den.Neg x_3w.Lo.Den.Mag)) v_41 r_45 v_42 r_46 hp.imm _ q_5b).mono ?_)
              rintro _ w_5c ⟨rfl, hc⟩
              have hs := hp.stp hc
              replace hp := hp.ext hc
              replace r_51 := r_51.step hs
              replace r_52 := r_52.step hs
              replace r_53 := r_53.step hs
              replace r_54 := r_54.step hs
              replace r_4l := r_4l.step hs
              replace r_4m := r_4m.step hs
              replace r_4n := r_4n.step hs
              replace r_4o := r_4o.step hs
              replace r_45 := r_45.step hs
              replace r_46 := r_46.step hs
              replace r_47 := r_47.step hs
              replace r_48 := r_48.step hs
              replace r_3p := r_3p.step hs
              replace r_3q := r_3q.step hs
              replace r_3r := r_3r.step hs
              replace r_3s := r_3s.step hs
              replace r_39 := r_39.step hs
              replace r_3a := r_3a.step hs
              replace r_3b := r_3b.step hs
              replace r_3c := r_3c.step hs
              replace r_2t := r_2t.step hs
              replace r_2u := r_2u.step hs
              replace r_2v := r_2v.step hs
              replace r_2w := r_2w.step hs
              replace tb := tb.step hs
              refine sel_of (fun hc => ?_) (fun hc => ?_)
              ·
                have q_59 := cond_t q_59 hc
                refine ev0 (rn_field rfl rfl FO39_1) ?_
                refine ev (rn_load rfl rfl (run_loadVarA T26 rfl (((hp.at_ (i := 5) rfl).drop 4).take 4))) ?_
                refine ev0 (rn_field rfl rfl FO39_1) ?_
                refine ev (rn_load rfl rfl (run_loadVarA T26 rfl (((hp.at_ (i := 2) rfl).drop 4).take 4))) ?_
                obtain ⟨x_5d, q_5e, q_59⟩ := bind_some q_59
                refine ev_call rfl rfl C14 (((base_Rational_ok n) _ _  (Rational.mk (Int_2.mk x_2k.Hi.Num.Neg x_2k.Hi.Num.Mag) (Int_2.mk x_2k.Hi.Den.Neg x_2k.Hi.Den.Mag)) v_2r r_2v v_2s r_2w (Rational.mk (Int_2.mk x_3w.Hi.Num.Neg x_3w.Hi.Num.Mag) (Int_2.mk x_3w.Hi.Den.Neg x_3w.Hi.Den.Mag)) v_43 r_47 v_44 r_48 hp.imm _ q_5e).mono ?_)
                rintro _ w_5f ⟨rfl, hc⟩
                have hs := hp.stp hc
                replace hp := hp.ext hc
                replace r_51 := r_51.step hs
                replace r_52 := r_52.step hs
                replace r_53 := r_53.step hs
                replace r_54 := r_54.step hs
                replace r_4l := r_4l.step hs
                replace r_4m := r_4m.step hs
                replace r_4n := r_4n.step hs
                replace r_4o := r_4o.step hs
                replace r_45 := r_45.step hs
                replace r_46 := r_46.step hs
                replace r_47 := r_47.step hs
                replace r_48 := r_48.step hs
                replace r_3p := r_3p.step hs
                replace r_3q := r_3q.step hs
                replace r_3r := r_3r.step hs
                replace r_3s := r_3s.step hs
                replace r_39 := r_39.step hs
                replace r_3a := r_3a.step hs
                replace r_3b := r_3b.step hs
                replace r_3c := r_3c.step hs
                replace r_2t := r_2t.step hs
                replace r_2u := r_2u.step hs
                replace r_2v := r_2v.step hs
                replace r_2w := r_2w.step hs
                replace tb := tb.step hs
                refine sel_of (fun hc => ?_) (fun hc => ?_)
                ·
                  have q_59 := cond_t q_59 hc
                  refine ev0 (rn_field rfl rfl FO39_0) ?_
                  refine ev (rn_load rfl rfl (run_loadVarA T26 rfl (((hp.at_ (i := 4) rfl).drop 0).take 4))) ?_
                  refine ev0 (rn_field rfl rfl FO39_0) ?_
                  refine ev (rn_load rfl rfl (run_loadVarA T26 rfl (((hp.at_ (i := 1) rfl).drop 0).take 4))) ?_
                  obtain ⟨x_5g, q_5h, q_59⟩ := bind_some q_59
                  refine ev_call rfl rfl C14 (((base_Rational_ok n) _ _  (Rational.mk (Int_2.mk x_30.Lo.Num.Neg x_30.Lo.Num.Mag) (Int_2.mk x_30.Lo.Den.Neg x_30.Lo.Den.Mag)) v_35 r_39 v_36 r_3a (Rational.mk (Int_2.mk x_4c.Lo.Num.Neg x_4c.Lo.Num.Mag) (Int_2.mk x_4c.Lo.Den.Neg x_4c.Lo.Den.Mag)) v_4h r_4l v_4i r_4m hp.imm _ q_5h).mono ?_)
                  rintro _ w_5i ⟨rfl, hc⟩
                  have hs := hp.stp hc
                  replace hp := hp.ext hc
                  replace r_51 := r_51.step hs
                  replace r_52 := r_52.step hs
                  replace r_53 := r_53.step hs
                  replace r_54 := r_54.step hs
                  replace r_4l := r_4l.step hs
                  replace r_4m := r_4m.step hs
                  replace r_4n := r_4n.step hs
                  replace r_4o := r_4o.step hs
                  replace r_45 := r_45.step hs
                  replace r_46 := r_46.step hs
                  replace r_47 := r_47.step hs
                  replace r_48 := r_48.step hs
                  replace r_3p := r_3p.step hs
                  replace r_3q := r_3q.step hs
                  replace r_3r := r_3r.step hs
                  replace r_3s := r_3s.step hs
                  replace r_39 := r_39.step hs
                  replace r_3a := r_3a.step hs
                  replace r_3b := r_3b.step hs
                  replace r_3c := r_3c.step hs
                  replace r_2t := r_2t.step hs
                  replace r_2u := r_2u.step hs
                  replace r_2v := r_2v.step hs
                  replace r_2w := r_2w.step hs
                  replace tb := tb.step hs
                  refine sel_of (fun hc => ?_) (fun hc => ?_)
                  ·
                    have q_59 := cond_t q_59 hc
                    refine ev0 (rn_field rfl rfl FO39_1) ?_
                    refine ev (rn_load rfl rfl (run_loadVarA T26 rfl (((hp.at_ (i := 4) rfl).drop 4).take 4))) ?_
                    refine ev0 (rn_field rfl rfl FO39_1) ?_
                    refine ev (rn_load rfl rfl (run_loadVarA T26 rfl (((hp.at_ (i := 1) rfl).drop 4).take 4))) ?_
                    obtain ⟨x_5j, q_5k, q_59⟩ := bind_some q_59
                    refine ev_call rfl rfl C14 (((base_Rational_ok n) _ _  (Rational.mk (Int_2.mk x_30.Hi.Num.Neg x_30.Hi.Num.Mag) (Int_2.mk x_30.Hi.Den.Neg x_30.Hi.Den.Mag)) v_37 r_3b v_38 r_3c (Rational.mk (Int_2.mk x_4c.Hi.Num.Neg x_4c.Hi.Num.Mag) (Int_2.mk x_4c.Hi.Den.Neg x_4c.Hi.Den.Mag)) v_4j r_4n v_4k r_4o hp.imm _ q_5k).mono ?_)
                    rintro _ w_5l ⟨rfl, hc⟩
                    have hs := hp.stp hc
                    replace hp := hp.ext hc
                    replace r_51 := r_51.step hs
                    replace r_52 := r_52.step hs
                    replace r_53 := r_53.step hs
                    replace r_54 := r_54.step hs
                    replace r_4l := r_4l.step hs
                    replace r_4m := r_4m.step hs
                    replace r_4n := r_4n.step hs
                    replace r_4o := r_4o.step hs
                    replace r_45 := r_45.step hs
                    replace r_46 := r_46.step hs
                    replace r_47 := r_47.step hs
                    replace r_48 := r_48.step hs
                    replace r_3p := r_3p.step hs
                    replace r_3q := r_3q.step hs
                    replace r_3r := r_3r.step hs
                    replace r_3s := r_3s.step hs
                    replace r_39 := r_39.step hs
                    replace r_3a := r_3a.step hs
                    replace r_3b := r_3b.step hs
                    replace r_3c := r_3c.step hs
                    replace r_2t := r_2t.step hs
                    replace r_2u := r_2u.step hs
                    replace r_2v := r_2v.step hs
                    replace r_2w := r_2w.step hs
                    replace tb := tb.step hs
                    refine sel_of (fun hc => ?_) (fun hc => ?_)
                    ·
                      have q_59 := cond_t q_59 hc
                      refine ev0 (rn_field rfl rfl FO39_0) ?_
                      refine ev (rn_load rfl rfl (run_loadVarA T26 rfl (((hp.at_ (i := 3) rfl).drop 0).take 4))) ?_
                      refine ev0 (rn_field rfl rfl FO39_0) ?_
                      refine ev (rn_load rfl rfl (run_loadVarA T26 rfl (((hp.at_ (i := 0) rfl).drop 0).take 4))) ?_
                      obtain ⟨x_5m, q_5n, q_59⟩ := bind_some q_59
                      refine ev_call rfl rfl C14 (((base_Rational_ok n) _ _  (Rational.mk (Int_2.mk x_3g.Lo.Num.Neg x_3g.Lo.Num.Mag) (Int_2.mk x_3g.Lo.Den.Neg x_3g.Lo.Den.Mag)) v_3l r_3p v_3m r_3q (Rational.mk (Int_2.mk x_4s.Lo.Num.Neg x_4s.Lo.Num.Mag) (Int_2.mk x_4s.Lo.Den.Neg x_4s.Lo.Den.Mag)) v_4x r_51 v_4y r_52 hp.imm _ q_5n).mono ?_)
                      rintro _ w_5o ⟨rfl, hc⟩
                      have hs := hp.stp hc
                      replace hp := hp.ext hc
                      replace r_51 := r_51.step hs
                      replace r_52 := r_52.step hs
                      replace r_53 := r_53.step hs
                      replace r_54 := r_54.step hs
                      replace r_4l := r_4l.step hs
                      replace r_4m := r_4m.step hs
                      replace r_4n := r_4n.step hs
                      replace r_4o := r_4o.step hs
                      replace r_45 := r_45.step hs
                      replace r_46 := r_46.step hs
                      replace r_47 := r_47.step hs
                      replace r_48 := r_48.step hs
                      replace r_3p := r_3p.step hs
                      replace r_3q := r_3q.step hs
                      replace r_3r := r_3r.step hs
                      replace r_3s := r_3s.step hs
                      replace r_39 := r_39.step hs
                      replace r_3a := r_3a.step hs
                      replace r_3b := r_3b.step hs
                      replace r_3c := r_3c.step hs
                      replace r_2t := r_2t.step hs
                      replace r_2u := r_2u.step hs
                      replace r_2v := r_2v.step hs
                      replace r_2w := r_2w.step hs
                      replace tb := tb.step hs
                      refine sel_of (fun hc => ?_) (fun hc => ?_)
                      ·
                        have q_59 := cond_t q_59 hc
                        refine ev0 (rn_field rfl rfl FO39_1) ?_
                        refine ev (rn_load rfl rfl (run_loadVarA T26 rfl (((hp.at_ (i := 3) rfl).drop 4).take 4))) ?_
                        refine ev0 (rn_field rfl rfl FO39_1) ?_
                        refine ev (rn_load rfl rfl (run_loadVarA T26 rfl (((hp.at_ (i := 0) rfl).drop 4).take 4))) ?_
                        obtain ⟨x_5p, q_5q, q_59⟩ := bind_some q_59
                        refine ev_call rfl rfl C14 (((base_Rational_ok n) _ _  (Rational.mk (Int_2.mk x_3g.Hi.Num.Neg x_3g.Hi.Num.Mag) (Int_2.mk x_3g.Hi.Den.Neg x_3g.Hi.Den.Mag)) v_3n r_3r v_3o r_3s (Rational.mk (Int_2.mk x_4s.Hi.Num.Neg x_4s.Hi.Num.Mag) (Int_2.mk x_4s.Hi.Den.Neg x_4s.Hi.Den.Mag)) v_4z r_53 v_50 r_54 hp.imm _ q_5q).mono ?_)
                        rintro _ w_5r ⟨rfl, hc⟩
                        have hs := hp.stp hc
                        replace hp := hp.ext hc
                        replace r_51 := r_51.step hs
                        replace r_52 := r_52.step hs
                        replace r_53 := r_53.step hs
                        replace r_54 := r_54.step hs
                        replace r_4l := r_4l.step hs
                        replace r_4m := r_4m.step hs
                        replace r_4n := r_4n.step hs
                        replace r_4o := r_4o.step hs
                        replace r_45 := r_45.step hs
                        replace r_46 := r_46.step hs
                        replace r_47 := r_47.step hs
                        replace r_48 := r_48.step hs
                        replace r_3p := r_3p.step hs
                        replace r_3q := r_3q.step hs
                        replace r_3r := r_3r.step hs
                        replace r_3s := r_3s.step hs
                        replace r_39 := r_39.step hs
                        replace r_3a := r_3a.step hs
                        replace r_3b := r_3b.step hs
                        replace r_3c := r_3c.step hs
                        replace r_2t := r_2t.step hs
                        replace r_2u := r_2u.step hs
                        replace r_2v := r_2v.step hs
                        replace r_2w := r_2w.step hs
                        replace tb := tb.step hs
                        obtain rfl := Option.some.inj q_59
                        have hp := hp.sel [] (by decide)
                        exact ⟨x_5p, (.c rfl .n), rfl, hp, tb⟩
                      ·
                        have q_59 := cond_f q_59 hc
                        obtain rfl := Option.some.inj q_59
                        have hp := hp.sel [] (by decide)
                        exact ⟨false, (.c rfl .n), rfl, hp, tb⟩
                    ·
                      have q_59 := cond_f q_59 hc
                      obtain rfl := Option.some.inj q_59
                      have hp := hp.sel [] (by decide)
                      exact ⟨false, (.c rfl .n), rfl, hp, tb⟩
                  ·
                    have q_59 := cond_f q_59 hc
                    obtain rfl := Option.some.inj q_59
                    have hp := hp.sel [] (by decide)
                    exact ⟨false, (.c rfl .n), rfl, hp, tb⟩
                ·
                  have q_59 := cond_f q_59 hc
                  obtain rfl := Option.some.inj q_59
                  have hp := hp.sel [] (by decide)
                  exact ⟨false, (.c rfl .n), rfl, hp, tb⟩
              ·
                have q_59 := cond_f q_59 hc
                obtain rfl := Option.some.inj q_59
                have hp := hp.sel [] (by decide)
                exact ⟨false, (.c rfl .n), rfl, hp, tb⟩
            ·
              have q_59 := cond_f q_59 hc
              obtain rfl := Option.some.inj q_59
              have hp := hp.sel [] (by decide)
              exact ⟨false, (.c rfl .n), rfl, hp, tb⟩
          ·
            have q_59 := cond_f q_59 hc
            obtain rfl := Option.some.inj q_59
            have hp := hp.sel [] (by decide)
            exact ⟨false, (.c rfl .n), rfl, hp, tb⟩
        ·
          have q_59 := cond_f q_59 hc
          obtain rfl := Option.some.inj q_59
          have hp := hp.sel [] (by decide)
          exact ⟨false, (.c rfl .n), rfl, hp, tb⟩
      ·
        rintro x_5s w_5t ⟨hy, hp, tb⟩
        replace hy := hy.symm
        subst hy
        apply go
        obtain rfl := Option.some.inj h
        exact ⟨rfl, hp.ch⟩

end Go.Proofs.YtepadjfmcbjkmaaGreatDoor
