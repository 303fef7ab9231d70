/-
  Each function of the program computes the plain function of its name.
-/
import Derived.Test.YtepadjfmcbjkmaaGreatDoorFactsA
import Derived.Test.YtepadjfmcbjkmaaGreatDoorWalkB
import Derived.Test.YtepadjfmcbjkmaaGreatDoorCoreA
namespace Go.Proofs.YtepadjfmcbjkmaaGreatDoor
open Go Go.Proofs.YtepadjfmcbjkmaaGreatDoor.Gw Go.RowKit
set_option linter.unusedVariables false
attribute [local irreducible] Ev EvQ EvS EvH
def ref01_DivMod_S (f : Int_2 → Int_2 → Option (Int_2 × Int_2 × Int)) : Prop := ∀ (w0 : World) (I0 : Nat → Prop) (x_0 : Int_2) (v_1 : Value) (r_2 : RepS (dI .u32) w0 I0 v_1 x_0.Mag) (x_3 : Int_2) (v_4 : Value) (r_5 : RepS (dI .u32) w0 I0 v_4 x_3.Mag) (hI : ∀ g, I0 g → g < w0.heap.size) (r : (Int_2 × Int_2 × Int)), f x_0 x_3 = some r →
    Ret Tryz.prog 83 #[(.agg #[(.bool x_0.Neg), v_1]), (.agg #[(.bool x_3.Neg), v_4])] w0 fun v w1 => ∃ (I1 : Nat → Prop) (u_6 : Value) (u_7 : Value), v = (.tuple #[(.agg #[(.bool r.1.Neg), u_6]), (.agg #[(.bool r.2.1.Neg), u_7]), (.int .i64 r.2.2)]) ∧ Hp ⟨w0, I0, []⟩ I1 [] w1 ∧ RepS (dI .u32) w1 I1 u_6 r.1.Mag ∧ RepS (dI .u32) w1 I1 u_7 r.2.1.Mag
theorem ref01_DivMod_ok (n : Nat) : ref01_DivMod_S (ref01_DivMod n) := by
  intro w0 I0 x_0 v_1 r_2 x_3 v_4 r_5 hI r h
  unfold ref01_DivMod at h
  refine enter Tryz.func83 rfl (Nat.le_of_ble_eq_true rfl) ?_
  have hp : Hp ⟨w0, I0, []⟩ I0 [] w0 := Hp.start hI
  apply go
  apply go
  refine ev_boxI hp rfl rfl ?_
  intro p_6 I_7 w_8 hp hs a_9
  replace r_5 := r_5.step hs
  replace r_2 := r_2.step hs
  refine ev_boxI hp rfl rfl ?_
  intro p_a I_b w_c hp hs a_d
  replace a_9 := a_9.step hs
  replace r_2 := r_2.step hs
  replace r_5 := r_5.step hs
  refine ev_alloc hp rfl T24 ?_
  intro g_e w_f hp hs
  replace a_9 := a_9.step hs
  replace r_2 := r_2.step hs
  replace a_d := a_d.step hs
  replace r_5 := r_5.step hs
  refine ev_alloc hp rfl T24 ?_
  intro g_g w_h hp hs
  replace a_9 := a_9.step hs
  replace r_2 := r_2.step hs
  replace a_d := a_d.step hs
  replace r_5 := r_5.step hs
  apply go
  apply go
  apply go
  refine ev (rn_load rfl rfl (run_loadVarA T24 rfl a_d)) ?_
  obtain ⟨x_i, q_j, h⟩ := bind_some h
  refine ev_call rfl rfl C73 (((ref01_Sign_ok n) _ _  (Int_2.mk x_3.Neg x_3.Mag) v_4 r_5 hp.imm _ q_j).mono ?_)
  rintro _ w_k ⟨rfl, hc⟩
  have hs := hp.stp hc
  replace hp := hp.ext hc
  replace a_9 := a_9.step hs
  replace r_2 := r_2.step hs
  replace a_d := a_d.step hs
  replace r_5 := r_5.step hs
  apply go
  refine sel_of (fun hc => ?_) (fun hc => ?_)
  ·
    have h := cond_t h hc
    apply go
    apply go
    refine ev0 (fun w => rn_build (cs := [(.bool false), (.slice none 0 0)]) rfl rfl T24 PL24 rfl) ?_
    refine ev0 (fun w => rn_build (cs := [(.bool false), (.slice none 0 0)]) rfl rfl T24 PL24 rfl) ?_
    refine ev_storeA hp (i := 1) (off := 0) (vs := [(.bool false), (.slice none 0 0)]) rfl rfl rfl rfl T24 rfl (Nat.le_of_ble_eq_true rfl) (ones_of rfl) ?_
    intro w_l hp hs
    refine ev_storeA hp (i := 0) (off := 0) (vs := [(.bool false), (.slice none 0 0)]) rfl rfl rfl rfl T24 rfl (Nat.le_of_ble_eq_true rfl) (ones_of rfl) ?_
    intro w_m hp hs
    apply go
    obtain rfl := Option.some.inj h
    refine ⟨_, run_loadVarA T24 rfl (hp.at_ (i := 1) rfl), ?_⟩
    refine ⟨_, run_loadVarA T24 rfl (hp.at_ (i := 0) rfl), ?_⟩
    have hp := hp.sel [] (by decide)
    exact ⟨I_b, .slice none 0 0, .slice none 0 0, rfl, hp, RepS.nil _ _ _, RepS.nil _ _ _⟩
  ·
    have h := cond_f h hc
    apply go
    apply go
    have hs := hp.stp (Ch.drew [] w_k)
    have hp := hp.drew
    replace a_9 := a_9.step hs
    replace r_2 := r_2.step hs
    replace a_d := a_d.step hs
    replace r_5 := r_5.step hs
    refine W.held [(0, true), (1, true), (3, true), (4, true), (2, false), (5, false), (6, false), (7, true), (8, true), (9, true), (10, true), (11, true)] (Stp I_b w_k.drew I_b) MX (by kernel_rfl) (Stp.refl _ _) ?_
    have hz := Stp.refl I_b w_k.drew
    refine evh0 (rn_field rfl rfl FO24_1) ?_
    refine evh (fun w' hw => rn_load rfl rfl (run_loadVar1 T22 ((a_9.step hw).2 1 _ rfl))) ?_
    refine evh0 (rn_field rfl rfl FO24_1) ?_
    refine evh (fun w' hw => rn_load rfl rfl (run_loadVar1 T22 ((a_d.step hw).2 1 _ rfl))) ?_
    obtain ⟨x_n, q_o, h⟩ := bind_some h
    refine ev_call rfl rfl C100 (((ref01_trim_ok n) _ _  x_0.Mag v_1 r_2 hp.imm _ q_o).mono ?_)
    rintro _ w_p ⟨I_q, v_r, e_s, hv, hq, o_t⟩
    replace hv := hv.symm
    subst hv
    have hs := hq.st
    have hp := hp.join0 hq
    replace hz := hz.trans hs
    replace a_9 := a_9.step hs
    replace r_2 := r_2.step hs
    replace a_d := a_d.step hs
    replace r_5 := r_5.step hs
    refine ⟨Stp I_q w_p I_q, Stp.refl _ _, fun x hx => hz.held hx, ?_⟩
    have hz := Stp.refl I_q w_p
    obtain ⟨x_u, q_v, h⟩ := bind_some h
    refine ev_call rfl rfl C100 (((ref01_trim_ok n) _ _  x_3.Mag v_4 r_5 hp.imm _ q_v).mono ?_)
    rintro _ w_w ⟨I_x, v_y, e_z, hv, hq, o_10⟩
    replace hv := hv.symm
    subst hv
    have hs := hq.st
    have hp := hp.join0 hq
    replace hz := hz.trans hs
    replace a_9 := a_9.step hs
    replace r_2 := r_2.step hs
    replace a_d := a_d.step hs
    replace r_5 := r_5.step hs
    replace o_t := o_t.step hs
    refine ⟨Stp I_x w_w I_x, Stp.refl _ _, fun x hx => hz.held hx, ?_⟩
    have hz := Stp.refl I_x w_w
    have r_11 := o_t.frz hp (i := 1) rfl
    obtain ⟨hp, hs⟩ := freeze_hp hp (i := 1) rfl
    replace hz := hz.trans hs
    replace a_9 := a_9.step hs
    replace r_2 := r_2.step hs
    replace a_d := a_d.step hs
    replace r_5 := r_5.step hs
    replace o_10 := o_10.step hs
    have hp := hp.sel [0, 2, 3] (by decide)
    have r_12 := o_10.frz hp (i := 0) rfl
    obtain ⟨hp, hs⟩ := freeze_hp hp (i := 0) rfl
    replace hz := hz.trans hs
    replace a_9 := a_9.step hs
    replace r_2 := r_2.step hs
    replace a_d := a_d.step hs
    replace r_5 := r_5.step hs
    replace r_11 := r_11.step hs
    have hp := hp.sel [1, 2] (by decide)
    obtain ⟨⟨x_13, x_14⟩, q_15, h⟩ := bind_some h
    refine ev_call rfl rfl C110 (((ref01_divide_ok n) _ _  x_n v_r r_11 x_u v_y r_12 hp.imm _ q_15).mono ?_)
    rintro _ w_16 ⟨I_17, v_18, v_19, hv, hq, r_1a, r_1b⟩
    replace hv := hv.symm
    subst hv
    have hs := hq.st
    have hp := hp.join0 hq
    replace hz := hz.trans hs
    replace a_9 := a_9.step hs
    replace r_2 := r_2.step hs
    replace a_d := a_d.step hs
    replace r_5 := r_5.step hs
    refine ⟨Stp I_17 w_16 I_17, Stp.refl _ _, fun x hx => hz.held hx, ?_⟩
    have hz := Stp.refl I_17 w_16
    apply go
    apply go
    refine ev0 (rn_field rfl rfl FO24_0) ?_
    refine ev (rn_load rfl rfl (run_loadVar1 T4 (a_9.2 0 _ rfl))) ?_
    refine ev0 (rn_field rfl rfl FO24_0) ?_
    refine ev (rn_load rfl rfl (run_loadVar1 T4 (a_d.2 0 _ rfl))) ?_
    refine ev0 (rn_neB rfl rfl rfl Tryz.underlying4) ?_
    obtain ⟨A_1c, m_1d, m_1e, rfl⟩ := r_1a.isSl
    refine ev0 (fun w => rn_build (cs := [(.bool (!(x_0.Neg == x_3.Neg))), (.slice A_1c m_1d m_1e)]) rfl rfl T24 PL24 rfl) ?_
    obtain ⟨x_1f, q_1g, h⟩ := bind_some h
    refine ev_call rfl rfl C77 (((ref01_Norm_ok n) _ _  (Int_2.mk (!(x_0.Neg == x_3.Neg)) x_13) (.slice A_1c m_1d m_1e) r_1a hp.imm _ q_1g).mono ?_)
    rintro _ w_1h ⟨I_1i, v_1j, hv, hq, r_1k⟩
    replace hv := hv.symm
    subst hv
    have hs := hq.st
    have hp := hp.join0 hq
    replace a_9 := a_9.step hs
    replace r_2 := r_2.step hs
    replace a_d := a_d.step hs
    replace r_5 := r_5.step hs
    replace r_1b := r_1b.step hs
    refine ev_alloc hp rfl T24 ?_
    intro g_1l w_1m hp hs
    replace a_9 := a_9.step hs
    replace r_2 := r_2.step hs
    replace a_d := a_d.step hs
    replace r_5 := r_5.step hs
    replace r_1b := r_1b.step hs
    replace r_1k := r_1k.step hs
    refine ev_storeA hp (i := 0) (off := 0) (vs := [(.bool x_1f.Neg), v_1j]) rfl rfl rfl rfl T24 rfl (Nat.le_of_ble_eq_true rfl) (ones_cons rfl (ones_cons r_1k.one ones_nil)) ?_
    intro w_1n hp hs
    replace a_9 := a_9.step hs
    replace r_2 := r_2.step hs
    replace a_d := a_d.step hs
    replace r_5 := r_5.step hs
    replace r_1b := r_1b.step hs
    replace r_1k := r_1k.step hs
    apply go
    apply go
    refine ev0 (rn_field rfl rfl FO24_0) ?_
    refine ev (rn_load rfl rfl (run_loadVar1 T4 (a_9.2 0 _ rfl))) ?_
    obtain ⟨A_1o, m_1p, m_1q, rfl⟩ := r_1b.isSl
    refine ev0 (fun w => rn_build (cs := [(.bool x_0.Neg), (.slice A_1o m_1p m_1q)]) rfl rfl T24 PL24 rfl) ?_
    obtain ⟨x_1r, q_1s, h⟩ := bind_some h
    refine ev_call rfl rfl C77 (((ref01_Norm_ok n) _ _  (Int_2.mk x_0.Neg x_14) (.slice A_1o m_1p m_1q) r_1b hp.imm _ q_1s).mono ?_)
    rintro _ w_1t ⟨I_1u, v_1v, hv, hq, r_1w⟩
    replace hv := hv.symm
    subst hv
    have hs := hq.st
    have hp := hp.join0 hq
    replace a_d := a_d.step hs
    replace r_5 := r_5.step hs
    replace r_1k := r_1k.step hs
    refine ev_alloc hp rfl T24 ?_
    intro g_1x w_1y hp hs
    replace a_d := a_d.step hs
    replace r_5 := r_5.step hs
    replace r_1w := r_1w.step hs
    replace r_1k := r_1k.step hs
    refine ev_storeA hp (i := 0) (off := 0) (vs := [(.bool x_1r.Neg), v_1v]) rfl rfl rfl rfl T24 rfl (Nat.le_of_ble_eq_true rfl) (ones_cons rfl (ones_cons r_1w.one ones_nil)) ?_
    intro w_1z hp hs
    replace a_d := a_d.step hs
    replace r_5 := r_5.step hs
    replace r_1w := r_1w.step hs
    replace r_1k := r_1k.step hs
    obtain ⟨y_20, q_21, h⟩ := bind_some h
    refine W.cut (γ := (Bool × (List Int) × Bool × (List Int) × Value × Value × (Nat → Prop))) (fun g => [(4, (.pointer (some ⟨g_e, 0, none⟩))), (5, (.pointer (some ⟨g_g, 0, none⟩))), (9, (.pointer (some ⟨g_1l, 0, none⟩))), (10, (.pointer (some ⟨g_1x, 0, none⟩)))]) (fun g w' => y_20 = ((g.1), (g.2.1), (g.2.2.1), (g.2.2.2.1)) ∧ Hp ⟨w0, I0, []⟩ (g.2.2.2.2.2.2) [some (g_e, [(.bool false), (.slice none 0 0)], 24), some (g_g, [(.bool false), (.slice none 0 0)], 24), some (g_1l, [(.bool (g.1)), (g.2.2.2.2.1)], 24), some (g_1x, [(.bool (g.2.2.1)), (g.2.2.2.2.2.1)], 24)] w' ∧ RepS (dI .u32) w' (g.2.2.2.2.2.2) (g.2.2.2.2.1) (g.2.1) ∧ RepS (dI .u32) w' (g.2.2.2.2.2.2) (g.2.2.2.2.2.1) (g.2.2.2.1)) ?_ ?_
    ·
      apply go
      apply go
      refine ev0 (rn_field rfl rfl FO24_0) ?_
      refine ev (rn_load rfl rfl (run_loadVar1 T4 (hp.cell (i := 0) (off := 0) rfl rfl))) ?_
      apply go
      refine sel_of (fun hc => ?_) (fun hc => ?_)
      ·
        have q_21 := cond_t q_21 hc
        apply go
        have hs := hp.stp (Ch.drew [] w_1z)
        have hp := hp.drew
        replace a_d := a_d.step hs
        replace r_5 := r_5.step hs
        replace r_1w := r_1w.step hs
        replace r_1k := r_1k.step hs
        refine W.heldG (.q 0 (.q 1 (.l 2 (.l 3 (.l 4 .done .no) .no) .no))) (SK (Stp I_1u w_1z.drew I_1u) [(g_1x, [(.bool x_1r.Neg), v_1v], 24)] [[4]]) MX (by kernel_rfl) ⟨Stp.refl _ _, (kp_cons (fun _ => (hp.own 0 _ _ _ rfl).1) kp_nil)⟩ ?_
        have hz := Stp.refl I_1u w_1z.drew
        refine ⟨SK.same (by kernel_rfl), ?_⟩
        refine evh (fun w' hw => rn_load rfl rfl (run_loadVarA T24 rfl ((S0.keep (p := 0) hw rfl rfl (by kernel_rfl)).at_ (i := 0) rfl))) ?_
        refine ⟨SK.same (by kernel_rfl), ?_⟩
        refine evh (fun w' hw => rn_load rfl rfl (run_loadVarA T24 rfl (a_d.step (S0.si hw)))) ?_
        refine ⟨?_, trivial⟩
        obtain ⟨x_22, q_23, q_21⟩ := bind_some q_21
        refine ev_call rfl rfl C102 (((ref01_Abs_ok n) _ _  (Int_2.mk x_3.Neg x_3.Mag) v_4 r_5 hp.imm _ q_23).mono ?_)
        rintro _ w_24 ⟨I_25, v_26, hv, hq, r_27⟩
        replace hv := hv.symm
        subst hv
        have hs := hq.st
        have hp := hp.join0 hq
        replace hz := hz.trans hs
        replace a_d := a_d.step hs
        replace r_5 := r_5.step hs
        replace r_1w := r_1w.step hs
        replace r_1k := r_1k.step hs
        refine ⟨SK (Stp I_25 w_24 I_25) [(g_1x, [(.bool x_1r.Neg), v_1v], 24)] [[4]], ⟨Stp.refl _ _, (kp_cons (fun _ => (hp.own 0 _ _ _ rfl).1) kp_nil)⟩, fun L x h => ⟨hz.held h.1, h.2⟩, ?_⟩
        have hz := Stp.refl I_25 w_24
        refine ⟨?_, trivial⟩
        obtain ⟨x_28, q_29, q_21⟩ := bind_some q_21
        refine ev_call rfl rfl C84 (((ref01_Add_ok n) _ _  (Int_2.mk x_1r.Neg x_1r.Mag) v_1v r_1w x_22 v_26 r_27 hp.imm _ q_29).mono ?_)
        rintro _ w_2a ⟨I_2b, v_2c, hv, hq, r_2d⟩
        replace hv := hv.symm
        subst hv
        have hs := hq.st
        have hp := hp.join0 hq
        replace hz := hz.trans hs
        replace a_d := a_d.step hs
        replace r_5 := r_5.step hs
        replace r_1w := r_1w.step hs
        replace r_1k := r_1k.step hs
        refine ⟨SK (Stp I_2b w_2a I_2b) [(g_1x, [(.bool x_1r.Neg), v_1v], 24)] [[4]], ⟨Stp.refl _ _, (kp_cons (fun _ => (hp.own 0 _ _ _ rfl).1) kp_nil)⟩, fun L x h => ⟨hz.held h.1, h.2⟩, ?_⟩
        have hz := Stp.refl I_2b w_2a
        refine ⟨?_, trivial⟩
        refine ev_storeA hp (i := 0) (off := 0) (vs := [(.bool x_28.Neg), v_2c]) rfl rfl rfl rfl T24 rfl (Nat.le_of_ble_eq_true rfl) (ones_cons rfl (ones_cons r_2d.one ones_nil)) ?_
        intro w_2e hp hs
        replace hz := hz.trans hs
        replace a_d := a_d.step hs
        replace r_5 := r_5.step hs
        replace r_2d := r_2d.step hs
        replace r_1k := r_1k.step hs
        refine ⟨SK (Stp I_2b w_2e I_2b) [(g_1x, [(.bool x_1r.Neg), v_1v], 24)] [[4]], ⟨Stp.refl _ _, (kp_cons (kp_off (by kernel_rfl)) kp_nil)⟩, fun L x h => ⟨hz.held h.1, h.2⟩, ?_⟩
        have hz := Stp.refl I_2b w_2e
        apply go
        apply go
        refine ev0 (rn_field rfl rfl FO24_0) ?_
        refine ev (rn_load rfl rfl (run_loadVar1 T4 (a_d.2 0 _ rfl))) ?_
        apply go
        refine sel_of (fun hc => ?_) (fun hc => ?_)
        ·
          have q_21 := cond_t q_21 hc
          have hs := hp.stp (Ch.drew [] w_2e)
          have hp := hp.drew
          replace r_2d := r_2d.step hs
          replace r_1k := r_1k.step hs
          refine W.heldG (.q 0 (.l 1 (.l 2 (.l 3 .done .no) .no) .no)) (SK (Stp I_2b w_2e.drew I_2b) [(g_1l, [(.bool x_1f.Neg), v_1j], 24)] [[3]]) MX (by kernel_rfl) ⟨Stp.refl _ _, (kp_cons (fun _ => (hp.own 1 _ _ _ rfl).1) kp_nil)⟩ ?_
          have hz := Stp.refl I_2b w_2e.drew
          refine ⟨SK.same (by kernel_rfl), ?_⟩
          refine evh (fun w' hw => rn_load rfl rfl (run_loadVarA T24 rfl ((S0.keep (p := 0) hw rfl rfl (by kernel_rfl)).at_ (i := 0) rfl))) ?_
          refine ⟨?_, trivial⟩
          obtain ⟨x_2f, q_2g, q_21⟩ := bind_some q_21
          refine ev_call rfl rfl C74 (((ref01_Of_ok n) _ _  1 hp.imm _ q_2g).mono ?_)
          rintro _ w_2h ⟨I_2i, v_2j, hv, hq, r_2k⟩
          replace hv := hv.symm
          subst hv
          have hs := hq.st
          have hp := hp.join0 hq
          replace hz := hz.trans hs
          replace r_1k := r_1k.step hs
          replace r_2d := r_2d.step hs
          refine ⟨SK (Stp I_2i w_2h I_2i) [(g_1l, [(.bool x_1f.Neg), v_1j], 24)] [[3]], ⟨Stp.refl _ _, (kp_cons (fun _ => (hp.own 1 _ _ _ rfl).1) kp_nil)⟩, fun L x h => ⟨hz.held h.1, h.2⟩, ?_⟩
          have hz := Stp.refl I_2i w_2h
          refine ⟨?_, trivial⟩
          obtain ⟨x_2l, q_2m, q_21⟩ := bind_some q_21
          refine ev_call rfl rfl C84 (((ref01_Add_ok n) _ _  (Int_2.mk x_1f.Neg x_1f.Mag) v_1j r_1k x_2f v_2j r_2k hp.imm _ q_2m).mono ?_)
          rintro _ w_2n ⟨I_2o, v_2p, hv, hq, r_2q⟩
          replace hv := hv.symm
          subst hv
          have hs := hq.st
          have hp := hp.join0 hq
          replace hz := hz.trans hs
          replace r_2d := r_2d.step hs
          replace r_1k := r_1k.step hs
          refine ⟨SK (Stp I_2o w_2n I_2o) [(g_1l, [(.bool x_1f.Neg), v_1j], 24)] [[3]], ⟨Stp.refl _ _, (kp_cons (fun _ => (hp.own 1 _ _ _ rfl).1) kp_nil)⟩, fun L x h => ⟨hz.held h.1, h.2⟩, ?_⟩
          have hz := Stp.refl I_2o w_2n
          refine ⟨?_, trivial⟩
          refine ev_storeA hp (i := 1) (off := 0) (vs := [(.bool x_2l.Neg), v_2p]) rfl rfl rfl rfl T24 rfl (Nat.le_of_ble_eq_true rfl) (ones_cons rfl (ones_cons r_2q.one ones_nil)) ?_
          intro w_2r hp hs
          replace hz := hz.trans hs
          replace r_2d := r_2d.step hs
          replace r_2q := r_2q.step hs
          refine ⟨SK (Stp I_2o w_2r I_2o) [(g_1l, [(.bool x_1f.Neg), v_1j], 24)] [[3]], ⟨Stp.refl _ _, (kp_cons (kp_off (by kernel_rfl)) kp_nil)⟩, fun L x h => ⟨hz.held h.1, h.2⟩, ?_⟩
          have hz := Stp.refl I_2o w_2r
          obtain rfl := Option.some.inj q_21
          have hp := hp.perm [3, 2, 1, 0] (by decide)
          exact ⟨(x_2l.Neg, x_2l.Mag, x_28.Neg, x_28.Mag, v_2p, v_2c, I_2o), (.c rfl (.c rfl (.c rfl (.c rfl .n)))), rfl, hp, r_2q, r_2d⟩
        ·
          have q_21 := cond_f q_21 hc
          have hs := hp.stp (Ch.drew [] w_2e)
          have hp := hp.drew
          replace r_2d := r_2d.step hs
          replace r_1k := r_1k.step hs
          refine W.heldG (.q 0 (.l 1 (.l 2 (.l 3 .done .no) .no) .no)) (SK (Stp I_2b w_2e.drew I_2b) [(g_1l, [(.bool x_1f.Neg), v_1j], 24)] [[3]]) MX (by kernel_rfl) ⟨Stp.refl _ _, (kp_cons (fun _ => (hp.own 1 _ _ _ rfl).1) kp_nil)⟩ ?_
          have hz := Stp.refl I_2b w_2e.drew
          refine ⟨SK.same (by kernel_rfl), ?_⟩
          refine evh (fun w' hw => rn_load rfl rfl (run_loadVarA T24 rfl ((S0.keep (p := 0) hw rfl rfl (by kernel_rfl)).at_ (i := 0) rfl))) ?_
          refine ⟨?_, trivial⟩
          obtain ⟨x_2s, q_2t, q_21⟩ := bind_some q_21
          refine ev_call rfl rfl C74 (((ref01_Of_ok n) _ _  1 hp.imm _ q_2t).mono ?_)
          rintro _ w_2u ⟨I_2v, v_2w, hv, hq, r_2x⟩
          replace hv := hv.symm
          subst hv
          have hs := hq.st
          have hp := hp.join0 hq
          replace hz := hz.trans hs
          replace r_1k := r_1k.step hs
          replace r_2d := r_2d.step hs
          refine ⟨SK (Stp I_2v w_2u I_2v) [(g_1l, [(.bool x_1f.Neg), v_1j], 24)] [[3]], ⟨Stp.refl _ _, (kp_cons (fun _ => (hp.own 1 _ _ _ rfl).1) kp_nil)⟩, fun L x h => ⟨hz.held h.1, h.2⟩, ?_⟩
          have hz := Stp.refl I_2v w_2u
          refine ⟨?_, trivial⟩
          obtain ⟨x_2y, q_2z, q_21⟩ := bind_some q_21
          refine ev_call rfl rfl C111 (((ref01_Sub_ok n) _ _  (Int_2.mk x_1f.Neg x_1f.Mag) v_1j r_1k x_2s v_2w r_2x hp.imm _ q_2z).mono ?_)
          rintro _ w_30 ⟨I_31, v_32, hv, hq, r_33⟩
          replace hv := hv.symm
          subst hv
          have hs := hq.st
          have hp := hp.join0 hq
          replace hz := hz.trans hs
          replace r_2d := r_2d.step hs
          replace r_1k := r_1k.step hs
          refine ⟨SK (Stp I_31 w_30 I_31) [(g_1l, [(.bool x_1f.Neg), v_1j], 24)] [[3]], ⟨Stp.refl _ _, (kp_cons (fun _ => (hp.own 1 _ _ _ rfl).1) kp_nil)⟩, fun L x h => ⟨hz.held h.1, h.2⟩, ?_⟩
          have hz := Stp.refl I_31 w_30
          refine ⟨?_, trivial⟩
          refine ev_storeA hp (i := 1) (off := 0) (vs := [(.bool x_2y.Neg), v_32]) rfl rfl rfl rfl T24 rfl (Nat.le_of_ble_eq_true rfl) (ones_cons rfl (ones_cons r_33.one ones_nil)) ?_
          intro w_34 hp hs
          replace hz := hz.trans hs
          replace r_2d := r_2d.step hs
          replace r_33 := r_33.step hs
          refine ⟨SK (Stp I_31 w_34 I_31) [(g_1l, [(.bool x_1f.Neg), v_1j], 24)] [[3]], ⟨Stp.refl _ _, (kp_cons (kp_off (by kernel_rfl)) kp_nil)⟩, fun L x h => ⟨hz.held h.1, h.2⟩, ?_⟩
          have hz := Stp.refl I_31 w_34
          obtain rfl := Option.some.inj q_21
          have hp := hp.perm [3, 2, 1, 0] (by decide)
          exact ⟨(x_2y.Neg, x_2y.Mag, x_28.Neg, x_28.Mag, v_32, v_2c, I_31), (.c rfl (.c rfl (.c rfl (.c rfl .n)))), rfl, hp, r_33, r_2d⟩
      ·
        have q_21 := cond_f q_21 hc
        apply go
        obtain rfl := Option.some.inj q_21
        have hp := hp.perm [3, 2, 1, 0] (by decide)
        exact ⟨(x_1f.Neg, x_1f.Mag, x_1r.Neg, x_1r.Mag, v_1j, v_1v, I_1u), (.c rfl (.c rfl (.c rfl (.c rfl .n)))), rfl, hp, r_1k, r_1w⟩
    ·
      rintro ⟨x_35, x_36, x_37, x_38, v_39, v_3a, I_3b⟩ w_3c ⟨hy, hp, r_3d, r_3e⟩
      replace hy := hy.symm
      subst hy
      apply go
      have hs := hp.stp (Ch.drew [] w_3c)
      have hp := hp.drew
      replace r_3d := r_3d.step hs
      replace r_3e := r_3e.step hs
      refine W.held [(0, true), (1, true), (2, false), (3, false), (4, true)] (fun x => Stp I_3b w_3c.drew I_3b x ∧ OwnK [(g_1l, [(.bool x_35), v_39], 24), (g_1x, [(.bool x_37), v_3a], 24)] x) MX (by kernel_rfl) ⟨Stp.refl _ _, (OwnK.cons (hp.own 2 _ _ _ rfl).1 (OwnK.cons (hp.own 3 _ _ _ rfl).1 OwnK.nil))⟩ ?_
      have hz := Stp.refl I_3b w_3c.drew
      refine evh (fun w' hw => rn_load rfl rfl (run_loadVarA T24 rfl (hw.2.at_ (i := 0) rfl))) ?_
      refine evh (fun w' hw => rn_load rfl rfl (run_loadVarA T24 rfl (hw.2.at_ (i := 1) rfl))) ?_
      refine ev_storeA hp (i := 0) (off := 0) (vs := [(.bool x_35), v_39]) rfl rfl rfl rfl T24 rfl (Nat.le_of_ble_eq_true rfl) (ones_cons rfl (ones_cons r_3d.one ones_nil)) ?_
      intro w_3f hp hs
      replace hz := hz.trans hs
      replace r_3e := r_3e.step hs
      replace r_3d := r_3d.step hs
      refine ⟨fun x => Stp I_3b w_3f I_3b x ∧ OwnK [(g_1l, [(.bool x_35), v_39], 24), (g_1x, [(.bool x_37), v_3a], 24)] x, ⟨Stp.refl _ _, (OwnK.cons (hp.own 2 _ _ _ rfl).1 (OwnK.cons (hp.own 3 _ _ _ rfl).1 OwnK.nil))⟩, fun x hx => ⟨hz.held hx.1, hx.2⟩, ?_⟩
      have hz := Stp.refl I_3b w_3f
      refine ev_storeA hp (i := 1) (off := 0) (vs := [(.bool x_37), v_3a]) rfl rfl rfl rfl T24 rfl (Nat.le_of_ble_eq_true rfl) (ones_cons rfl (ones_cons r_3e.one ones_nil)) ?_
      intro w_3g hp hs
      replace hz := hz.trans hs
      replace r_3d := r_3d.step hs
      replace r_3e := r_3e.step hs
      refine ⟨fun x => Stp I_3b w_3g I_3b x ∧ OwnK [(g_1l, [(.bool x_35), v_39], 24), (g_1x, [(.bool x_37), v_3a], 24)] x, ⟨Stp.refl _ _, (OwnK.cons (hp.own 2 _ _ _ rfl).1 (OwnK.cons (hp.own 3 _ _ _ rfl).1 OwnK.nil))⟩, fun x hx => ⟨hz.held hx.1, hx.2⟩, ?_⟩
      have hz := Stp.refl I_3b w_3g
      apply go
      obtain rfl := Option.some.inj h
      refine ⟨_, run_loadVarA T24 rfl (hp.at_ (i := 0) rfl), ?_⟩
      refine ⟨_, run_loadVarA T24 rfl (hp.at_ (i := 1) rfl), ?_⟩
      have hp := hp.sel [] (by decide)
      exact ⟨I_3b, v_39, v_3a, rfl, hp, r_3d, r_3e⟩

end Go.Proofs.YtepadjfmcbjkmaaGreatDoor

namespace Go.Proofs.YtepadjfmcbjkmaaGreatDoor
open Go Go.Proofs.YtepadjfmcbjkmaaGreatDoor.Gw Go.RowKit
set_option linter.unusedVariables false
attribute [local irreducible] Ev EvQ EvS EvH
def ref02_part_S (f : Int_2 → Int_2 → Option Int_2) : Prop := ∀ (w0 : World) (I0 : Nat → Prop) (x_0 : Int_2) (v_1 : Value) (r_2 : RepS (dI .u32) w0 I0 v_1 x_0.Mag) (x_3 : Int_2) (v_4 : Value) (r_5 : RepS (dI .u32) w0 I0 v_4 x_3.Mag) (hI : ∀ g, I0 g → g < w0.heap.size) (r : Int_2), f x_0 x_3 = some r →
    Ret Tryz.prog 50 #[(.agg #[(.bool x_0.Neg), v_1]), (.agg #[(.bool x_3.Neg), v_4])] w0 fun v w1 => ∃ (I1 : Nat → Prop) (u_6 : Value), v = (.agg #[(.bool r.Neg), u_6]) ∧ Hp ⟨w0, I0, []⟩ I1 [] w1 ∧ RepS (dI .u32) w1 I1 u_6 r.Mag
theorem ref02_part_ok (n : Nat) : ref02_part_S (ref02_part n) := by
  intro w0 I0 x_0 v_1 r_2 x_3 v_4 r_5 hI r h
  unfold ref02_part at h
  refine enter Tryz.func50 rfl (Nat.le_of_ble_eq_true rfl) ?_
  have hp : Hp ⟨w0, I0, []⟩ I0 [] w0 := Hp.start hI
  apply go
  apply go
  refine ev_boxI hp rfl rfl ?_
  intro p_6 I_7 w_8 hp hs a_9
  replace r_5 := r_5.step hs
  replace r_2 := r_2.step hs
  refine ev_boxI hp rfl rfl ?_
  intro p_a I_b w_c hp hs a_d
  replace a_9 := a_9.step hs
  replace r_2 := r_2.step hs
  replace r_5 := r_5.step hs
  refine ev_alloc hp rfl T24 ?_
  intro g_e w_f hp hs
  replace a_9 := a_9.step hs
  replace r_2 := r_2.step hs
  replace a_d := a_d.step hs
  replace r_5 := r_5.step hs
  apply go
  apply go
  refine ev (rn_load rfl rfl (run_loadVarA T24 rfl a_9)) ?_
  refine ev (rn_load rfl rfl (run_loadVarA T24 rfl a_d)) ?_
  obtain ⟨⟨x_g, x_h, x_i⟩, q_j, h⟩ := bind_some h
  refine ev_call rfl rfl C83 (((ref01_DivMod_ok n) _ _  (Int_2.mk x_0.Neg x_0.Mag) v_1 r_2 (Int_2.mk x_3.Neg x_3.Mag) v_4 r_5 hp.imm _ q_j).mono ?_)
  rintro _ w_k ⟨I_l, v_m, v_n, hv, hq, r_o, r_p⟩
  replace hv := hv.symm
  subst hv
  have hs := hq.st
  have hp := hp.join0 hq
  refine ev_alloc hp rfl T24 ?_
  intro g_q w_r hp hs
  replace r_o := r_o.step hs
  replace r_p := r_p.step hs
  refine ev_alloc hp rfl T24 ?_
  intro g_s w_t hp hs
  replace r_o := r_o.step hs
  replace r_p := r_p.step hs
  refine ev_storeA hp (i := 1) (off := 0) (vs := [(.bool x_g.Neg), v_m]) rfl rfl rfl rfl T24 rfl (Nat.le_of_ble_eq_true rfl) (ones_cons rfl (ones_cons r_o.one ones_nil)) ?_
  intro w_u hp hs
  replace r_p := r_p.step hs
  replace r_o := r_o.step hs
  refine ev_storeA hp (i := 0) (off := 0) (vs := [(.bool x_h.Neg), v_n]) rfl rfl rfl rfl T24 rfl (Nat.le_of_ble_eq_true rfl) (ones_cons rfl (ones_cons r_p.one ones_nil)) ?_
  intro w_v hp hs
  replace r_p := r_p.step hs
  replace r_o := r_o.step hs
  apply go
  apply go
  refine ev (rn_load rfl rfl (run_loadVarA T24 rfl (hp.at_ (i := 1) rfl))) ?_
  refine ev_storeA hp (i := 2) (off := 0) (vs := [(.bool x_g.Neg), v_m]) rfl rfl rfl rfl T24 rfl (Nat.le_of_ble_eq_true rfl) (ones_cons rfl (ones_cons r_o.one ones_nil)) ?_
  intro w_w hp hs
  replace r_p := r_p.step hs
  replace r_o := r_o.step hs
  apply go
  obtain rfl := Option.some.inj h
  refine ⟨_, run_loadVarA T24 rfl (hp.at_ (i := 2) rfl), ?_⟩
  have hp := hp.sel [] (by decide)
  exact ⟨I_l, v_m, rfl, hp, r_o⟩

end Go.Proofs.YtepadjfmcbjkmaaGreatDoor

namespace Go.Proofs.YtepadjfmcbjkmaaGreatDoor
open Go Go.Proofs.YtepadjfmcbjkmaaGreatDoor.Gw Go.RowKit
set_option linter.unusedVariables false
attribute [local irreducible] Ev EvQ EvS EvH
def ref01_half_S (f : (List Int) → Option (List Int)) : Prop := ∀ (w0 : World) (I0 : Nat → Prop) (x_0 : (List Int)) (v_1 : Value) (r_2 : RepS (dI .u32) w0 I0 v_1 x_0) (hI : ∀ g, I0 g → g < w0.heap.size) (r : (List Int)), f x_0 = some r →
    Ret Tryz.prog 103 #[v_1] w0 fun v w1 => ∃ (I1 : Nat → Prop) (u_3 : Value), v = u_3 ∧ Hp ⟨w0, I0, []⟩ I1 [] w1 ∧ RepS (dI .u32) w1 I1 u_3 r
theorem ref01_half_ok (n : Nat) : ref01_half_S (ref01_half n) := by
  intro w0 I0 x_0 v_1 r_2 hI r h
  unfold ref01_half at h
  refine enter Tryz.func103 rfl (Nat.le_of_ble_eq_true rfl) ?_
  have hp : Hp ⟨w0, I0, []⟩ I0 [] w0 := Hp.start hI
  apply go
  apply go
  apply go
  apply go
  refine ev_litON (d := (dI .u32)) (xs := ([] : List Int)) (cs := []) hp rfl rfl Tryz.underlying22 T46 (by decide) (by decide) rfl rfl (Elems.nil _ _ _ _) ?_
  intro v_3 e_4 w_5 hp hs o_6
  replace r_2 := r_2.step hs
  obtain ⟨x_7, q_8, h⟩ := bind_some h
  refine ev_append hp (i := 0) rfl rfl rfl rfl Tryz.underlying22 T46 rfl rfl o_6 r_2 q_8 ?_
  rintro v_9 e_a w_b hp hs o_c
  replace r_2 := r_2.step hs
  obtain ⟨y_d, q_e, h⟩ := bind_some h
  refine W.cut (γ := ((List Int) × Ent)) (fun g => [(3, v_9)]) (fun g w' => y_d = (g.1) ∧ Hp ⟨w0, I0, []⟩ I0 [(g.2)] w' ∧ OwnS (dI .u32) 46 w' I0 v_9 (g.2) (g.1)) ?_ ?_
  ·
    apply go
    apply go
    apply go
    refine W.loop q_e (γ := Ent) (fun s g => [(0, v_1), (3, v_9), (4, (.int .i64 (s.2)))]) (fun s g w' => Hp ⟨w0, I0, []⟩ I0 [(g)] w' ∧ RepS (dI .u32) w' I0 v_1 x_0 ∧ OwnS (dI .u32) 46 w' I0 v_9 (g) (s.1)) e_a (.c rfl (.c rfl (.c rfl .n))) ⟨hp, r_2, o_c⟩ ?_
    rintro ⟨x_f, x_g⟩ e_h w_i y_j ⟨hp, r_2, o_k⟩ q_l q_m
    unfold ref01_half_L1 at q_l
    apply go
    apply go
    apply go
    refine ev0 (x_lenO rfl rfl Tryz.underlying22 o_k) ?_
    apply go
    refine sel_of (fun hc => ?_) (fun hc => ?_)
    ·
      have q_l := cond_t q_l hc
      apply go
      obtain ⟨y_n, q_o, q_l⟩ := bind_some q_l
      refine W.cut (γ := ((List Int) × Ent)) (fun g => [(0, v_1), (3, v_9), (4, (.int .i64 x_g))]) (fun g w' => y_n = (g.1) ∧ Hp ⟨w0, I0, []⟩ I0 [(g.2)] w' ∧ RepS (dI .u32) w' I0 v_1 x_0 ∧ OwnS (dI .u32) 46 w' I0 v_9 (g.2) (g.1)) ?_ ?_
      ·
        apply go
        apply go
        apply go
        obtain ⟨x_p, q_q, q_o⟩ := bind_some q_o
        refine ev_indexO rfl rfl rfl Tryz.underlying22 T46 o_k q_q ?_
        intro g_r c_s h_t d_u l_v
        refine ev (rn_load rfl rfl (run_loadVar1 T46 (hp.cellE (i := 0) rfl h_t d_u (j := 0) rfl))) ?_
        refine ⟨by decide, ?_⟩
        obtain ⟨x_w, q_x, q_o⟩ := bind_some q_o
        refine ev_indexO rfl rfl rfl Tryz.underlying22 T46 o_k q_x ?_
        intro g_y c_z h_10 d_11 l_12
        refine ev_storeE hp (i := 0) rfl h_10 rfl rfl rfl T46 o_k q_x (x0 := (x_p.fdiv (2 ^ min (1 : Int).toNat (IntKind.u32).bits))) rfl ?_
        intro e_13 w_14 hp hs o_15
        replace r_2 := r_2.step hs
        apply go
        apply go
        refine ev0 (rn_len rfl rfl Tryz.underlying22 r_2) ?_
        apply go
        refine sel_of (fun hc => ?_) (fun hc => ?_)
        ·
          have q_o := cond_t q_o hc
          have hs := hp.stp (Ch.drew [] w_14)
          have hp := hp.drew
          replace r_2 := r_2.step hs
          replace o_15 := o_15.step hs
          refine W.tail 15 MX (by kernel_rfl) ?_
          obtain ⟨x_16, q_17, q_o⟩ := bind_some q_o
          refine evs_indexO rfl rfl rfl Tryz.underlying22 T46 o_15 q_17 ?_
          intro g_18 c_19 h_1a d_1b l_1c
          refine evs (rn_load rfl rfl (run_loadVar1 T46 (hp.cellE (i := 0) rfl h_1a d_1b (j := 0) rfl))) ?_
          obtain ⟨x_1d, q_1e, q_o⟩ := bind_some q_o
          refine evs_index rfl rfl rfl Tryz.underlying22 T46 r_2 q_1e ?_
          intro p_1f c_1g d_1h a_1i
          obtain rfl : c_1g = [(.int .u32 x_1d)] := d_1h
          refine evs (rn_load rfl rfl (run_loadVar1 T46 (a_1i.2 0 _ rfl))) ?_
          refine ⟨by decide, ?_⟩
          refine ⟨by decide, ?_⟩
          obtain ⟨x_1j, q_1k, q_o⟩ := bind_some q_o
          refine evs_indexO rfl rfl rfl Tryz.underlying22 T46 o_15 q_1k ?_
          intro g_1l c_1m h_1n d_1o l_1p
          refine ev_storeE hp (i := 0) rfl h_1n rfl rfl rfl T46 o_15 q_1k (x0 := (IntKind.u32.wrap (x_16 + (IntKind.u32.wrap ((x_1d.tmod 2) * 2 ^ min (31 : Int).toNat (IntKind.u32).bits))))) rfl ?_
          intro e_1q w_1r hp hs o_1s
          replace r_2 := r_2.step hs
          obtain rfl := Option.some.inj q_o
          exact ⟨((upd (upd x_f x_g (x_p.fdiv (2 ^ min (1 : Int).toNat (IntKind.u32).bits))) x_g (IntKind.u32.wrap (x_16 + (IntKind.u32.wrap ((x_1d.tmod 2) * 2 ^ min (31 : Int).toNat (IntKind.u32).bits))))), e_1q), (.c rfl (.c rfl (.c rfl .n))), rfl, hp, r_2, o_1s⟩
        ·
          have q_o := cond_f q_o hc
          apply go
          obtain rfl := Option.some.inj q_o
          exact ⟨((upd x_f x_g (x_p.fdiv (2 ^ min (1 : Int).toNat (IntKind.u32).bits))), e_13), (.c rfl (.c rfl (.c rfl .n))), rfl, hp, r_2, o_15⟩
      ·
        rintro ⟨x_1t, e_1u⟩ w_1v ⟨hy, hp, r_2, o_1w⟩
        replace hy := hy.symm
        subst hy
        apply go
        exact ⟨_, (Option.some.inj q_l).symm, e_1u, (.c rfl (.c rfl (.c rfl .n))), ⟨hp, r_2, o_1w⟩⟩
    ·
      have q_l := cond_f q_l hc
      apply go
      have q_1x := congrArg some (q_m _ (Option.some.inj q_l).symm)
      obtain rfl := Option.some.inj q_1x
      exact ⟨(x_f, e_h), (.c rfl .n), rfl, hp, o_k⟩
  ·
    rintro ⟨x_1y, e_1z⟩ w_20 ⟨hy, hp, o_21⟩
    replace hy := hy.symm
    subst hy
    apply go
    apply go
    have r_22 := o_21.frz hp (i := 0) rfl
    obtain ⟨hp, hs⟩ := freeze_hp hp (i := 0) rfl
    have hp := hp.sel [] (by decide)
    obtain ⟨x_23, q_24, h⟩ := bind_some h
    refine ev_call rfl rfl C100 (((ref01_trim_ok n) _ _  x_1y v_9 r_22 hp.imm _ q_24).mono ?_)
    rintro _ w_25 ⟨I_26, v_27, e_28, hv, hq, o_29⟩
    replace hv := hv.symm
    subst hv
    have hs := hq.st
    have hp := hp.join0 hq
    apply go
    obtain rfl := Option.some.inj h
    have r_2a := o_29.frz hp (i := 0) rfl
    obtain ⟨hp, hs⟩ := freeze_hp hp (i := 0) rfl
    have hp := hp.sel [] (by decide)
    exact ⟨(Ad I_26 e_28), v_27, rfl, hp, r_2a⟩

end Go.Proofs.YtepadjfmcbjkmaaGreatDoor

namespace Go.Proofs.YtepadjfmcbjkmaaGreatDoor
open Go Go.Proofs.YtepadjfmcbjkmaaGreatDoor.Gw Go.RowKit
set_option linter.unusedVariables false
attribute [local irreducible] Ev EvQ EvS EvH
def ref01_Gcd_S (f : Int_2 → Int_2 → Option Int_2) : Prop := ∀ (w0 : World) (I0 : Nat → Prop) (x_0 : Int_2) (v_1 : Value) (r_2 : RepS (dI .u32) w0 I0 v_1 x_0.Mag) (x_3 : Int_2) (v_4 : Value) (r_5 : RepS (dI .u32) w0 I0 v_4 x_3.Mag) (hI : ∀ g, I0 g → g < w0.heap.size) (r : Int_2), f x_0 x_3 = some r →
    Ret Tryz.prog 76 #[(.agg #[(.bool x_0.Neg), v_1]), (.agg #[(.bool x_3.Neg), v_4])] w0 fun v w1 => ∃ (I1 : Nat → Prop) (u_6 : Value), v = (.agg #[(.bool r.Neg), u_6]) ∧ Hp ⟨w0, I0, []⟩ I1 [] w1 ∧ RepS (dI .u32) w1 I1 u_6 r.Mag
theorem ref01_Gcd_ok (n : Nat) : ref01_Gcd_S (ref01_Gcd n) := by
  intro w0 I0 x_0 v_1 r_2 x_3 v_4 r_5 hI r h
  unfold ref01_Gcd at h
  refine enter Tryz.func76 rfl (Nat.le_of_ble_eq_true rfl) ?_
  have hp : Hp ⟨w0, I0, []⟩ I0 [] w0 := Hp.start hI
  apply go
  apply go
  refine ev_boxI hp rfl rfl ?_
  intro p_6 I_7 w_8 hp hs a_9
  replace r_5 := r_5.step hs
  replace r_2 := r_2.step hs
  refine ev_boxI hp rfl rfl ?_
  intro p_a I_b w_c hp hs a_d
  replace a_9 := a_9.step hs
  replace r_2 := r_2.step hs
  replace r_5 := r_5.step hs
  refine ev_alloc hp rfl T24 ?_
  intro g_e w_f hp hs
  replace a_9 := a_9.step hs
  replace r_2 := r_2.step hs
  replace a_d := a_d.step hs
  replace r_5 := r_5.step hs
  apply go
  apply go
  refine ev0 (rn_field rfl rfl FO24_1) ?_
  refine ev (rn_load rfl rfl (run_loadVar1 T22 (a_9.2 1 _ rfl))) ?_
  obtain ⟨x_g, q_h, h⟩ := bind_some h
  refine ev_call rfl rfl C100 (((ref01_trim_ok n) _ _  x_0.Mag v_1 r_2 hp.imm _ q_h).mono ?_)
  rintro _ w_i ⟨I_j, v_k, e_l, hv, hq, o_m⟩
  replace hv := hv.symm
  subst hv
  have hs := hq.st
  have hp := hp.join0 hq
  replace a_9 := a_9.step hs
  replace r_2 := r_2.step hs
  replace a_d := a_d.step hs
  replace r_5 := r_5.step hs
  apply go
  apply go
  refine ev0 (rn_field rfl rfl FO24_1) ?_
  refine ev (rn_load rfl rfl (run_loadVar1 T22 (a_d.2 1 _ rfl))) ?_
  obtain ⟨x_n, q_o, h⟩ := bind_some h
  refine ev_call rfl rfl C100 (((ref01_trim_ok n) _ _  x_3.Mag v_4 r_5 hp.imm _ q_o).mono ?_)
  rintro _ w_p ⟨I_q, v_r, e_s, hv, hq, o_t⟩
  replace hv := hv.symm
  subst hv
  have hs := hq.st
  have hp := hp.join0 hq
  replace a_9 := a_9.step hs
  replace r_2 := r_2.step hs
  replace a_d := a_d.step hs
  replace r_5 := r_5.step hs
  replace o_m := o_m.step hs
  apply go
  apply go
  apply go
  refine ev0 (x_lenO rfl rfl Tryz.underlying22 o_m) ?_
  apply go
  refine sel_of (fun hc => ?_) (fun hc => ?_)
  ·
    have h := cond_t h hc
    apply go
    apply go
    refine ev (rn_load rfl rfl (run_loadVarA T24 rfl a_d)) ?_
    obtain ⟨x_u, q_v, h⟩ := bind_some h
    refine ev_call rfl rfl C102 (((ref01_Abs_ok n) _ _  (Int_2.mk x_3.Neg x_3.Mag) v_4 r_5 hp.imm _ q_v).mono ?_)
    rintro _ w_w ⟨I_x, v_y, hv, hq, r_z⟩
    replace hv := hv.symm
    subst hv
    have hs := hq.st
    have hp := hp.join0 hq
    refine ev_storeA hp (i := 2) (off := 0) (vs := [(.bool x_u.Neg), v_y]) rfl rfl rfl rfl T24 rfl (Nat.le_of_ble_eq_true rfl) (ones_cons rfl (ones_cons r_z.one ones_nil)) ?_
    intro w_10 hp hs
    replace r_z := r_z.step hs
    apply go
    obtain rfl := Option.some.inj h
    refine ⟨_, run_loadVarA T24 rfl (hp.at_ (i := 2) rfl), ?_⟩
    have hp := hp.sel [] (by decide)
    exact ⟨I_x, v_y, rfl, hp, r_z⟩
  ·
    have h := cond_f h hc
    apply go
    apply go
    apply go
    apply go
    refine ev0 (x_lenO rfl rfl Tryz.underlying22 o_t) ?_
    apply go
    refine sel_of (fun hc => ?_) (fun hc => ?_)
    ·
      have h := cond_t h hc
      apply go
      apply go
      refine ev (rn_load rfl rfl (run_loadVarA T24 rfl a_9)) ?_
      obtain ⟨x_11, q_12, h⟩ := bind_some h
      refine ev_call rfl rfl C102 (((ref01_Abs_ok n) _ _  (Int_2.mk x_0.Neg x_0.Mag) v_1 r_2 hp.imm _ q_12).mono ?_)
      rintro _ w_13 ⟨I_14, v_15, hv, hq, r_16⟩
      replace hv := hv.symm
      subst hv
      have hs := hq.st
      have hp := hp.join0 hq
      refine ev_storeA hp (i := 2) (off := 0) (vs := [(.bool x_11.Neg), v_15]) rfl rfl rfl rfl T24 rfl (Nat.le_of_ble_eq_true rfl) (ones_cons rfl (ones_cons r_16.one ones_nil)) ?_
      intro w_17 hp hs
      replace r_16 := r_16.step hs
      apply go
      obtain rfl := Option.some.inj h
      refine ⟨_, run_loadVarA T24 rfl (hp.at_ (i := 2) rfl), ?_⟩
      have hp := hp.sel [] (by decide)
      exact ⟨I_14, v_15, rfl, hp, r_16⟩
    ·
      have h := cond_f h hc
      apply go
      apply go
      apply go
      obtain ⟨y_18, q_19, h⟩ := bind_some h
      refine W.cut (γ := ((List Int) × (List Int) × Int × Value × Value × (Nat → Prop))) (fun g => [(4, (.pointer (some ⟨g_e, 0, none⟩))), (5, (g.2.2.2.1)), (6, (g.2.2.2.2.1)), (7, (.int .i64 (g.2.2.1)))]) (fun g w' => y_18 = ((g.1), (g.2.1), (g.2.2.1)) ∧ Hp ⟨w0, I0, []⟩ (g.2.2.2.2.2) [some (g_e, [(.bool false), (.slice none 0 0)], 24)] w' ∧ RepS (dI .u32) w' (g.2.2.2.2.2) (g.2.2.2.1) (g.1) ∧ RepS (dI .u32) w' (g.2.2.2.2.2) (g.2.2.2.2.1) (g.2.1)) ?_ ?_
      ·
        apply go
        have r_1a := o_m.frz hp (i := 1) rfl
        obtain ⟨hp, hs⟩ := freeze_hp hp (i := 1) rfl
        replace o_t := o_t.step hs
        have hp := hp.sel [0, 2] (by decide)
        have r_1b := o_t.frz hp (i := 0) rfl
        obtain ⟨hp, hs⟩ := freeze_hp hp (i := 0) rfl
        replace r_1a := r_1a.step hs
        have hp := hp.sel [1] (by decide)
        refine W.loop q_19 (γ := (Value × Value × (Nat → Prop))) (fun s g => [(4, (.pointer (some ⟨g_e, 0, none⟩))), (5, (g.1)), (6, (g.2.1)), (7, (.int .i64 (s.2.2)))]) (fun s g w' => Hp ⟨w0, I0, []⟩ (g.2.2) [some (g_e, [(.bool false), (.slice none 0 0)], 24)] w' ∧ RepS (dI .u32) w' (g.2.2) (g.1) (s.1) ∧ RepS (dI .u32) w' (g.2.2) (g.2.1) (s.2.1)) (v_k, v_r, (Ad (Ad I_q e_l) e_s)) (.c rfl (.c rfl (.c rfl (.c rfl .n)))) ⟨hp, r_1a, r_1b⟩ ?_
        rintro ⟨x_1c, x_1d, x_1e⟩ ⟨v_1f, v_1g, I_1h⟩ w_1i y_1j ⟨hp, r_1k, r_1l⟩ q_1m q_1n
        unfold ref01_Gcd_L1 at q_1m
        apply go
        obtain ⟨y_1o, q_1p, q_1m⟩ := bind_some q_1m
        refine W.cut (γ := Bool) (fun g => [(4, (.pointer (some ⟨g_e, 0, none⟩))), (5, v_1f), (6, v_1g), (7, (.int .i64 x_1e)), (36, (.bool (g)))]) (fun g w' => y_1o = (g) ∧ w_1i = w') ?_ ?_
        ·
          apply go
          obtain ⟨x_1q, q_1r, q_1p⟩ := bind_some q_1p
          refine ev_index rfl rfl rfl Tryz.underlying22 T46 r_1k q_1r ?_
          intro p_1s c_1t d_1u a_1v
          obtain rfl : c_1t = [(.int .u32 x_1q)] := d_1u
          refine ev (rn_load rfl rfl (run_loadVar1 T46 (a_1v.2 0 _ rfl))) ?_
          refine ⟨by decide, ?_⟩
          refine sel_of (fun hc => ?_) (fun hc => ?_)
          ·
            have q_1p := cond_t q_1p hc
            obtain ⟨x_1w, q_1x, q_1p⟩ := bind_some q_1p
            refine ev_index rfl rfl rfl Tryz.underlying22 T46 r_1l q_1x ?_
            intro p_1y c_1z d_20 a_21
            obtain rfl : c_1z = [(.int .u32 x_1w)] := d_20
            refine ev (rn_load rfl rfl (run_loadVar1 T46 (a_21.2 0 _ rfl))) ?_
            refine ⟨by decide, ?_⟩
            obtain rfl := Option.some.inj q_1p
            exact ⟨((x_1w.tmod 2) == 0), (.c rfl (.c rfl (.c rfl (.c rfl (.c rfl .n))))), rfl, rfl⟩
          ·
            have q_1p := cond_f q_1p hc
            obtain rfl := Option.some.inj q_1p
            exact ⟨false, (.c rfl (.c rfl (.c rfl (.c rfl (.c rfl .n))))), rfl, rfl⟩
        ·
          rintro x_22 _ ⟨hy, rfl⟩
          replace hy := hy.symm
          subst hy
          apply go
          refine sel_of (fun hc => ?_) (fun hc => ?_)
          ·
            have q_1m := cond_t q_1m hc
            apply go
            apply go
            apply go
            apply go
            obtain ⟨x_23, q_24, q_1m⟩ := bind_some q_1m
            refine ev_call rfl rfl C103 (((ref01_half_ok n) _ _  x_1c v_1f r_1k hp.imm _ q_24).mono ?_)
            rintro _ w_25 ⟨I_26, v_27, hv, hq, r_28⟩
            replace hv := hv.symm
            subst hv
            have hs := hq.st
            have hp := hp.join0 hq
            replace r_1l := r_1l.step hs
            apply go
            apply go
            obtain ⟨x_29, q_2a, q_1m⟩ := bind_some q_1m
            refine ev_call rfl rfl C103 (((ref01_half_ok n) _ _  x_1d v_1g r_1l hp.imm _ q_2a).mono ?_)
            rintro _ w_2b ⟨I_2c, v_2d, hv, hq, r_2e⟩
            replace hv := hv.symm
            subst hv
            have hs := hq.st
            have hp := hp.join0 hq
            replace r_28 := r_28.step hs
            apply go
            exact ⟨_, (Option.some.inj q_1m).symm, (v_27, v_2d, I_2c), (.c rfl (.c rfl (.c rfl (.c rfl .n)))), ⟨hp, r_28, r_2e⟩⟩
          ·
            have q_1m := cond_f q_1m hc
            apply go
            have q_2f := congrArg some (q_1n _ (Option.some.inj q_1m).symm)
            obtain rfl := Option.some.inj q_2f
            exact ⟨(x_1c, x_1d, x_1e, v_1f, v_1g, I_1h), (.c rfl (.c rfl (.c rfl (.c rfl .n)))), rfl, hp, r_1k, r_1l⟩
      ·
        rintro ⟨x_2g, x_2h, x_2i, v_2j, v_2k, I_2l⟩ w_2m ⟨hy, hp, r_2n, r_2o⟩
        replace hy := hy.symm
        subst hy
        obtain ⟨y_2p, q_2q, h⟩ := bind_some h
        refine W.cut (γ := ((List Int) × Value × (Nat → Prop))) (fun g => [(4, (.pointer (some ⟨g_e, 0, none⟩))), (5, (g.2.1)), (7, (.int .i64 x_2i))]) (fun g w' => y_2p = (g.1) ∧ Hp ⟨w0, I0, []⟩ (g.2.2) [some (g_e, [(.bool false), (.slice none 0 0)], 24)] w' ∧ RepS (dI .u32) w' (g.2.2) (g.2.1) (g.1)) ?_ ?_
        ·
          apply go
          refine W.loop q_2q (γ := (Value × Value × (Nat → Prop))) (fun s g => [(4, (.pointer (some ⟨g_e, 0, none⟩))), (5, (g.1)), (6, (g.2.1)), (7, (.int .i64 x_2i))]) (fun s g w' => Hp ⟨w0, I0, []⟩ (g.2.2) [some (g_e, [(.bool false), (.slice none 0 0)], 24)] w' ∧ RepS (dI .u32) w' (g.2.2) (g.1) (s.1) ∧ RepS (dI .u32) w' (g.2.2) (g.2.1) (s.2)) (v_2j, v_2k, I_2l) (.c rfl (.c rfl (.c rfl (.c rfl .n)))) ⟨hp, r_2n, r_2o⟩ ?_
          rintro ⟨x_2r, x_2s⟩ ⟨v_2t, v_2u, I_2v⟩ w_2w y_2x ⟨hp, r_2y, r_2z⟩ q_30 q_31
          unfold ref01_Gcd_L3 at q_30
          apply go
          apply go
          apply go
          obtain ⟨x_32, q_33, q_30⟩ := bind_some q_30
          refine ev_call rfl rfl C78 (((ref01_cmp_ok n) _ _  x_2r v_2t r_2y x_2s v_2u r_2z hp.imm _ q_33).mono ?_)
          rintro _ w_34 ⟨rfl, hc⟩
          have hs := hp.stp hc
          replace hp := hp.ext hc
          replace r_2y := r_2y.step hs
          replace r_2z := r_2z.step hs
          apply go
          refine sel_of (fun hc => ?_) (fun hc => ?_)
          ·
            have q_30 := cond_t q_30 hc
            apply go
            apply go
            apply go
            apply go
            apply go
            obtain ⟨x_35, q_36, q_30⟩ := bind_some q_30
            refine ev_index rfl rfl rfl Tryz.underlying22 T46 r_2y q_36 ?_
            intro p_37 c_38 d_39 a_3a
            obtain rfl : c_38 = [(.int .u32 x_35)] := d_39
            refine ev (rn_load rfl rfl (run_loadVar1 T46 (a_3a.2 0 _ rfl))) ?_
            refine ⟨by decide, ?_⟩
            apply go
            refine sel_of (fun hc => ?_) (fun hc => ?_)
            ·
              have q_30 := cond_t q_30 hc
              apply go
              obtain ⟨x_3b, q_3c, q_30⟩ := bind_some q_30
              refine ev_call rfl rfl C103 (((ref01_half_ok n) _ _  x_2r v_2t r_2y hp.imm _ q_3c).mono ?_)
              rintro _ w_3d ⟨I_3e, v_3f, hv, hq, r_3g⟩
              replace hv := hv.symm
              subst hv
              have hs := hq.st
              have hp := hp.join0 hq
              replace r_2z := r_2z.step hs
              exact ⟨_, (Option.some.inj q_30).symm, (v_3f, v_2u, I_3e), (.c rfl (.c rfl (.c rfl (.c rfl .n)))), ⟨hp, r_3g, r_2z⟩⟩
            ·
              have q_30 := cond_f q_30 hc
              apply go
              apply go
              obtain ⟨x_3h, q_3i, q_30⟩ := bind_some q_30
              refine ev_index rfl rfl rfl Tryz.underlying22 T46 r_2z q_3i ?_
              intro p_3j c_3k d_3l a_3m
              obtain rfl : c_3k = [(.int .u32 x_3h)] := d_3l
              refine ev (rn_load rfl rfl (run_loadVar1 T46 (a_3m.2 0 _ rfl))) ?_
              refine ⟨by decide, ?_⟩
              apply go
              refine sel_of (fun hc => ?_) (fun hc => ?_)
              ·
                have q_30 := cond_t q_30 hc
                apply go
                obtain ⟨x_3n, q_3o, q_30⟩ := bind_some q_30
                refine ev_call rfl rfl C103 (((ref01_half_ok n) _ _  x_2s v_2u r_2z hp.imm _ q_3o).mono ?_)
                rintro _ w_3p ⟨I_3q, v_3r, hv, hq, r_3s⟩
                replace hv := hv.symm
                subst hv
                have hs := hq.st
                have hp := hp.join0 hq
                replace r_2y := r_2y.step hs
                exact ⟨_, (Option.some.inj q_30).symm, (v_2t, v_3r, I_3q), (.c rfl (.c rfl (.c rfl (.c rfl .n)))), ⟨hp, r_2y, r_3s⟩⟩
              ·
                have q_30 := cond_f q_30 hc
                apply go
                apply go
                obtain ⟨x_3t, q_3u, q_30⟩ := bind_some q_30
                refine ev_call rfl rfl C78 (((ref01_cmp_ok n) _ _  x_2r v_2t r_2y x_2s v_2u r_2z hp.imm _ q_3u).mono ?_)
                rintro _ w_3v ⟨rfl, hc⟩
                have hs := hp.stp hc
                replace hp := hp.ext hc
                replace r_2y := r_2y.step hs
                replace r_2z := r_2z.step hs
                apply go
                refine sel_of (fun hc => ?_) (fun hc => ?_)
                ·
                  have q_30 := cond_t q_30 hc
                  apply go
                  obtain ⟨x_3w, q_3x, q_30⟩ := bind_some q_30
                  refine ev_call rfl rfl C104 (((ref01_sub_ok n) _ _  x_2r v_2t r_2y x_2s v_2u r_2z hp.imm _ q_3x).mono ?_)
                  rintro _ w_3y ⟨I_3z, v_40, hv, hq, r_41⟩
                  replace hv := hv.symm
                  subst hv
                  have hs := hq.st
                  have hp := hp.join0 hq
                  replace r_2z := r_2z.step hs
                  exact ⟨_, (Option.some.inj q_30).symm, (v_40, v_2u, I_3z), (.c rfl (.c rfl (.c rfl (.c rfl .n)))), ⟨hp, r_41, r_2z⟩⟩
                ·
                  have q_30 := cond_f q_30 hc
                  apply go
                  obtain ⟨x_42, q_43, q_30⟩ := bind_some q_30
                  refine ev_call rfl rfl C104 (((ref01_sub_ok n) _ _  x_2s v_2u r_2z x_2r v_2t r_2y hp.imm _ q_43).mono ?_)
                  rintro _ w_44 ⟨I_45, v_46, hv, hq, r_47⟩
                  replace hv := hv.symm
                  subst hv
                  have hs := hq.st
                  have hp := hp.join0 hq
                  replace r_2y := r_2y.step hs
                  exact ⟨_, (Option.some.inj q_30).symm, (v_2t, v_46, I_45), (.c rfl (.c rfl (.c rfl (.c rfl .n)))), ⟨hp, r_2y, r_47⟩⟩
          ·
            have q_30 := cond_f q_30 hc
            apply go
            have q_48 := congrArg some (q_31 _ (Option.some.inj q_30).symm)
            obtain rfl := Option.some.inj q_48
            exact ⟨(x_2r, v_2t, I_2v), (.c rfl (.c rfl (.c rfl .n))), rfl, hp, r_2y⟩
        ·
          rintro ⟨x_49, v_4a, I_4b⟩ w_4c ⟨hy, hp, r_4d⟩
          replace hy := hy.symm
          subst hy
          obtain ⟨y_4e, q_4f, h⟩ := bind_some h
          refine W.cut (γ := ((List Int) × Value × (Nat → Prop))) (fun g => [(4, (.pointer (some ⟨g_e, 0, none⟩))), (5, (g.2.1))]) (fun g w' => y_4e = (g.1) ∧ Hp ⟨w0, I0, []⟩ (g.2.2) [some (g_e, [(.bool false), (.slice none 0 0)], 24)] w' ∧ RepS (dI .u32) w' (g.2.2) (g.2.1) (g.1)) ?_ ?_
          ·
            apply go
            apply go
            apply go
            refine W.loop q_4f (γ := (Value × (Nat → Prop))) (fun s g => [(4, (.pointer (some ⟨g_e, 0, none⟩))), (5, (g.1)), (7, (.int .i64 x_2i)), (8, (.int .i64 (s.2)))]) (fun s g w' => Hp ⟨w0, I0, []⟩ (g.2) [some (g_e, [(.bool false), (.slice none 0 0)], 24)] w' ∧ RepS (dI .u32) w' (g.2) (g.1) (s.1)) (v_4a, I_4b) (.c rfl (.c rfl (.c rfl (.c rfl .n)))) ⟨hp, r_4d⟩ ?_
            rintro ⟨x_4g, x_4h⟩ ⟨v_4i, I_4j⟩ w_4k y_4l ⟨hp, r_4m⟩ q_4n q_4o
            unfold ref01_Gcd_L5 at q_4n
            apply go
            apply go
            apply go
            apply go
            refine sel_of (fun hc => ?_) (fun hc => ?_)
            ·
              have q_4n := cond_t q_4n hc
              apply go
              apply go
              apply go
              apply go
              obtain ⟨x_4p, q_4q, q_4n⟩ := bind_some q_4n
              refine ev_call rfl rfl C105 (((ref01_add_ok n) _ _  x_4g v_4i r_4m x_4g v_4i r_4m hp.imm _ q_4q).mono ?_)
              rintro _ w_4r ⟨I_4s, v_4t, hv, hq, r_4u⟩
              replace hv := hv.symm
              subst hv
              have hs := hq.st
              have hp := hp.join0 hq
              apply go
              exact ⟨_, (Option.some.inj q_4n).symm, (v_4t, I_4s), (.c rfl (.c rfl (.c rfl (.c rfl .n)))), ⟨hp, r_4u⟩⟩
            ·
              have q_4n := cond_f q_4n hc
              apply go
              have q_4v := congrArg some (q_4o _ (Option.some.inj q_4n).symm)
              obtain rfl := Option.some.inj q_4v
              exact ⟨(x_4g, v_4i, I_4j), (.c rfl (.c rfl .n)), rfl, hp, r_4m⟩
          ·
            rintro ⟨x_4w, v_4x, I_4y⟩ w_4z ⟨hy, hp, r_50⟩
            replace hy := hy.symm
            subst hy
            apply go
            apply go
            obtain ⟨A_51, m_52, m_53, rfl⟩ := r_50.isSl
            refine ev0 (fun w => rn_build (cs := [(.bool false), (.slice A_51 m_52 m_53)]) rfl rfl T24 PL24 rfl) ?_
            refine ev_storeA hp (i := 0) (off := 0) (vs := [(.bool false), (.slice A_51 m_52 m_53)]) rfl rfl rfl rfl T24 rfl (Nat.le_of_ble_eq_true rfl) (ones_cons rfl (ones_cons r_50.one ones_nil)) ?_
            intro w_54 hp hs
            replace r_50 := r_50.step hs
            apply go
            obtain rfl := Option.some.inj h
            refine ⟨_, run_loadVarA T24 rfl (hp.at_ (i := 0) rfl), ?_⟩
            have hp := hp.sel [] (by decide)
            exact ⟨I_4y, (.slice A_51 m_52 m_53), rfl, hp, r_50⟩

end Go.Proofs.YtepadjfmcbjkmaaGreatDoor

namespace Go.Proofs.YtepadjfmcbjkmaaGreatDoor
open Go Go.Proofs.YtepadjfmcbjkmaaGreatDoor.Gw Go.RowKit
set_option linter.unusedVariables false
attribute [local irreducible] Ev EvQ EvS EvH
def ref02_New_S (f : Int_2 → Int_2 → Option Rational) : Prop := ∀ (w0 : World) (I0 : Nat → Prop) (x_0 : Int_2) (v_1 : Value) (r_2 : RepS (dI .u32) w0 I0 v_1 x_0.Mag) (x_3 : Int_2) (v_4 : Value) (r_5 : RepS (dI .u32) w0 I0 v_4 x_3.Mag) (hI : ∀ g, I0 g → g < w0.heap.size) (r : Rational), f x_0 x_3 = some r →
    Ret Tryz.prog 41 #[(.agg #[(.bool x_0.Neg), v_1]), (.agg #[(.bool x_3.Neg), v_4])] w0 fun v w1 => ∃ (I1 : Nat → Prop) (u_6 : Value) (u_7 : Value), v = (.agg #[(.bool r.Num.Neg), u_6, (.bool r.Den.Neg), u_7]) ∧ Hp ⟨w0, I0, []⟩ I1 [] w1 ∧ RepS (dI .u32) w1 I1 u_6 r.Num.Mag ∧ RepS (dI .u32) w1 I1 u_7 r.Den.Mag
theorem ref02_New_ok (n : Nat) : ref02_New_S (ref02_New n) := by
  intro w0 I0 x_0 v_1 r_2 x_3 v_4 r_5 hI r h
  unfold ref02_New at h
  refine enter Tryz.func41 rfl (Nat.le_of_ble_eq_true rfl) ?_
  have hp : Hp ⟨w0, I0, []⟩ I0 [] w0 := Hp.start hI
  apply go
  apply go
  refine ev_box hp rfl rfl ?_
  intro g_6 w_7 hp hs
  replace r_5 := r_5.step hs
  replace r_2 := r_2.step hs
  refine ev_box hp rfl rfl ?_
  intro g_8 w_9 hp hs
  replace r_5 := r_5.step hs
  replace r_2 := r_2.step hs
  refine ev_alloc hp rfl T26 ?_
  intro g_a w_b hp hs
  replace r_5 := r_5.step hs
  replace r_2 := r_2.step hs
  apply go
  obtain ⟨y_c, q_d, h⟩ := bind_some h
  refine W.cut (γ := Bool) (fun g => [(2, (.pointer (some ⟨g_6, 0, none⟩))), (3, (.pointer (some ⟨g_8, 0, none⟩))), (4, (.pointer (some ⟨g_a, 0, none⟩))), (13, (.bool (g)))]) (fun g w' => y_c = (g) ∧ Hp ⟨w0, I0, []⟩ I0 [some (g_6, [(.bool x_0.Neg), v_1], 24), some (g_8, [(.bool x_3.Neg), v_4], 24), some (g_a, [(.bool false), (.slice none 0 0), (.bool false), (.slice none 0 0)], 26)] w' ∧ RepS (dI .u32) w' I0 v_1 x_0.Mag ∧ RepS (dI .u32) w' I0 v_4 x_3.Mag) ?_ ?_
  ·
    apply go
    refine ev (rn_load rfl rfl (run_loadVarA T24 rfl (hp.at_ (i := 2) rfl))) ?_
    obtain ⟨x_e, q_f, q_d⟩ := bind_some q_d
    refine ev_call rfl rfl C73 (((ref01_Sign_ok n) _ _  (Int_2.mk x_0.Neg x_0.Mag) v_1 r_2 hp.imm _ q_f).mono ?_)
    rintro _ w_g ⟨rfl, hc⟩
    have hs := hp.stp hc
    replace hp := hp.ext hc
    replace r_5 := r_5.step hs
    replace r_2 := r_2.step hs
    refine sel_of (fun hc => ?_) (fun hc => ?_)
    ·
      have q_d := cond_t q_d hc
      obtain rfl := Option.some.inj q_d
      have hp := hp.perm [2, 1, 0] (by decide)
      exact ⟨true, (.c rfl (.c rfl (.c rfl (.c rfl .n)))), rfl, hp, r_2, r_5⟩
    ·
      have q_d := cond_f q_d hc
      refine ev (rn_load rfl rfl (run_loadVarA T24 rfl (hp.at_ (i := 1) rfl))) ?_
      obtain ⟨x_h, q_i, q_d⟩ := bind_some q_d
      refine ev_call rfl rfl C73 (((ref01_Sign_ok n) _ _  (Int_2.mk x_3.Neg x_3.Mag) v_4 r_5 hp.imm _ q_i).mono ?_)
      rintro _ w_j ⟨rfl, hc⟩
      have hs := hp.stp hc
      replace hp := hp.ext hc
      replace r_5 := r_5.step hs
      replace r_2 := r_2.step hs
      obtain rfl := Option.some.inj q_d
      have hp := hp.perm [2, 1, 0] (by decide)
      exact ⟨(x_h == 0), (.c rfl (.c rfl (.c rfl (.c rfl .n)))), rfl, hp, r_2, r_5⟩
  ·
    rintro x_k w_l ⟨hy, hp, r_2, r_5⟩
    replace hy := hy.symm
    subst hy
    apply go
    refine sel_of (fun hc => ?_) (fun hc => ?_)
    ·
      have h := cond_t h hc
      apply go
      apply go
      obtain ⟨x_m, q_n, h⟩ := bind_some h
      refine ev_call rfl rfl C74 (((ref01_Of_ok n) _ _  0 hp.imm _ q_n).mono ?_)
      rintro _ w_o ⟨I_p, v_q, hv, hq, r_r⟩
      replace hv := hv.symm
      subst hv
      have hs := hq.st
      have hp := hp.join0 hq
      replace r_2 := r_2.step hs
      replace r_5 := r_5.step hs
      obtain ⟨x_s, q_t, h⟩ := bind_some h
      refine ev_call rfl rfl C45 (((ref02_One_ok n) _ _   hp.imm _ q_t).mono ?_)
      rintro _ w_u ⟨I_v, v_w, hv, hq, r_x⟩
      replace hv := hv.symm
      subst hv
      have hs := hq.st
      have hp := hp.join0 hq
      replace r_r := r_r.step hs
      replace r_2 := r_2.step hs
      replace r_5 := r_5.step hs
      obtain ⟨A_y, m_z, m_10, rfl⟩ := r_r.isSl
      obtain ⟨A_11, m_12, m_13, rfl⟩ := r_x.isSl
      refine ev0 (fun w => rn_build (cs := [(.bool x_m.Neg), (.slice A_y m_z m_10), (.bool x_s.Neg), (.slice A_11 m_12 m_13)]) rfl rfl T26 PL26 rfl) ?_
      refine ev_storeA hp (i := 2) (off := 0) (vs := [(.bool x_m.Neg), (.slice A_y m_z m_10), (.bool x_s.Neg), (.slice A_11 m_12 m_13)]) rfl rfl rfl rfl T26 rfl (Nat.le_of_ble_eq_true rfl) (ones_cons rfl (ones_cons r_r.one (ones_cons rfl (ones_cons r_x.one ones_nil)))) ?_
      intro w_14 hp hs
      replace r_2 := r_2.step hs
      replace r_5 := r_5.step hs
      replace r_r := r_r.step hs
      replace r_x := r_x.step hs
      apply go
      obtain rfl := Option.some.inj h
      refine ⟨_, run_loadVarA T26 rfl (hp.at_ (i := 2) rfl), ?_⟩
      have hp := hp.sel [] (by decide)
      exact ⟨I_v, (.slice A_y m_z m_10), (.slice A_11 m_12 m_13), rfl, hp, r_r, r_x⟩
    ·
      have h := cond_f h hc
      apply go
      obtain ⟨y_15, q_16, h⟩ := bind_some h
      refine W.cut (γ := (Bool × (List Int) × Bool × (List Int) × Value × Value × (Nat → Prop))) (fun g => [(2, (.pointer (some ⟨g_6, 0, none⟩))), (3, (.pointer (some ⟨g_8, 0, none⟩))), (4, (.pointer (some ⟨g_a, 0, none⟩)))]) (fun g w' => y_15 = ((g.1), (g.2.1), (g.2.2.1), (g.2.2.2.1)) ∧ Hp ⟨w0, I0, []⟩ (g.2.2.2.2.2.2) [some (g_6, [(.bool (g.1)), (g.2.2.2.2.1)], 24), some (g_8, [(.bool (g.2.2.1)), (g.2.2.2.2.2.1)], 24), some (g_a, [(.bool false), (.slice none 0 0), (.bool false), (.slice none 0 0)], 26)] w' ∧ RepS (dI .u32) w' (g.2.2.2.2.2.2) (g.2.2.2.2.1) (g.2.1) ∧ RepS (dI .u32) w' (g.2.2.2.2.2.2) (g.2.2.2.2.2.1) (g.2.2.2.1)) ?_ ?_
      ·
        apply go
        apply go
        refine ev (rn_load rfl rfl (run_loadVarA T24 rfl (hp.at_ (i := 1) rfl))) ?_
        obtain ⟨x_17, q_18, q_16⟩ := bind_some q_16
        refine ev_call rfl rfl C73 (((ref01_Sign_ok n) _ _  (Int_2.mk x_3.Neg x_3.Mag) v_4 r_5 hp.imm _ q_18).mono ?_)
        rintro _ w_19 ⟨rfl, hc⟩
        have hs := hp.stp hc
        replace hp := hp.ext hc
        replace r_2 := r_2.step hs
        replace r_5 := r_5.step hs
        apply go
        refine sel_of (fun hc => ?_) (fun hc => ?_)
        ·
          have q_16 := cond_t q_16 hc
          apply go
          apply go
          refine ev (rn_load rfl rfl (run_loadVarA T24 rfl (hp.at_ (i := 0) rfl))) ?_
          obtain ⟨x_1a, q_1b, q_16⟩ := bind_some q_16
          refine ev_call rfl rfl C75 (((ref01_Neg_ok n) _ _  (Int_2.mk x_0.Neg x_0.Mag) v_1 r_2 hp.imm _ q_1b).mono ?_)
          rintro _ w_1c ⟨I_1d, v_1e, hv, hq, r_1f⟩
          replace hv := hv.symm
          subst hv
          have hs := hq.st
          have hp := hp.join0 hq
          replace r_2 := r_2.step hs
          replace r_5 := r_5.step hs
          refine ev_storeA hp (i := 0) (off := 0) (vs := [(.bool x_1a.Neg), v_1e]) rfl rfl rfl rfl T24 rfl (Nat.le_of_ble_eq_true rfl) (ones_cons rfl (ones_cons r_1f.one ones_nil)) ?_
          intro w_1g hp hs
          replace r_1f := r_1f.step hs
          replace r_5 := r_5.step hs
          apply go
          refine ev (rn_load rfl rfl (run_loadVarA T24 rfl (hp.at_ (i := 1) rfl))) ?_
          obtain ⟨x_1h, q_1i, q_16⟩ := bind_some q_16
          refine ev_call rfl rfl C75 (((ref01_Neg_ok n) _ _  (Int_2.mk x_3.Neg x_3.Mag) v_4 r_5 hp.imm _ q_1i).mono ?_)
          rintro _ w_1j ⟨I_1k, v_1l, hv, hq, r_1m⟩
          replace hv := hv.symm
          subst hv
          have hs := hq.st
          have hp := hp.join0 hq
          replace r_1f := r_1f.step hs
          replace r_5 := r_5.step hs
          refine ev_storeA hp (i := 1) (off := 0) (vs := [(.bool x_1h.Neg), v_1l]) rfl rfl rfl rfl T24 rfl (Nat.le_of_ble_eq_true rfl) (ones_cons rfl (ones_cons r_1m.one ones_nil)) ?_
          intro w_1n hp hs
          replace r_1f := r_1f.step hs
          replace r_1m := r_1m.step hs
          obtain rfl := Option.some.inj q_16
          exact ⟨(x_1a.Neg, x_1a.Mag, x_1h.Neg, x_1h.Mag, v_1e, v_1l, I_1k), (.c rfl (.c rfl (.c rfl .n))), rfl, hp, r_1f, r_1m⟩
        ·
          have q_16 := cond_f q_16 hc
          apply go
          obtain rfl := Option.some.inj q_16
          exact ⟨(x_0.Neg, x_0.Mag, x_3.Neg, x_3.Mag, v_1, v_4, I0), (.c rfl (.c rfl (.c rfl .n))), rfl, hp, r_2, r_5⟩
      ·
        rintro ⟨x_1o, x_1p, x_1q, x_1r, v_1s, v_1t, I_1u⟩ w_1v ⟨hy, hp, r_1w, r_1x⟩
        replace hy := hy.symm
        subst hy
        apply go
        apply go
        refine ev (rn_load rfl rfl (run_loadVarA T24 rfl (hp.at_ (i := 0) rfl))) ?_
        refine ev (rn_load rfl rfl (run_loadVarA T24 rfl (hp.at_ (i := 1) rfl))) ?_
        obtain ⟨x_1y, q_1z, h⟩ := bind_some h
        refine ev_call rfl rfl C76 (((ref01_Gcd_ok n) _ _  (Int_2.mk x_1o x_1p) v_1s r_1w (Int_2.mk x_1q x_1r) v_1t r_1x hp.imm _ q_1z).mono ?_)
        rintro _ w_20 ⟨I_21, v_22, hv, hq, r_23⟩
        replace hv := hv.symm
        subst hv
        have hs := hq.st
        have hp := hp.join0 hq
        replace r_1w := r_1w.step hs
        replace r_1x := r_1x.step hs
        refine ev_alloc hp rfl T24 ?_
        intro g_24 w_25 hp hs
        replace r_23 := r_23.step hs
        replace r_1w := r_1w.step hs
        replace r_1x := r_1x.step hs
        refine ev_storeA hp (i := 0) (off := 0) (vs := [(.bool x_1y.Neg), v_22]) rfl rfl rfl rfl T24 rfl (Nat.le_of_ble_eq_true rfl) (ones_cons rfl (ones_cons r_23.one ones_nil)) ?_
        intro w_26 hp hs
        replace r_23 := r_23.step hs
        replace r_1w := r_1w.step hs
        replace r_1x := r_1x.step hs
        apply go
        have hs := hp.stp (Ch.drew [] w_26)
        have hp := hp.drew
        replace r_23 := r_23.step hs
        replace r_1w := r_1w.step hs
        replace r_1x := r_1x.step hs
        refine W.held [(0, true), (1, true), (3, true), (4, true), (2, false), (5, false), (6, true), (7, false)] (fun x => Stp I_21 w_26.drew I_21 x ∧ OwnK [(g_6, [(.bool x_1o), v_1s], 24), (g_24, [(.bool x_1y.Neg), v_22], 24), (g_8, [(.bool x_1q), v_1t], 24)] x) MX (by kernel_rfl) ⟨Stp.refl _ _, (OwnK.cons (hp.own 1 _ _ _ rfl).1 (OwnK.cons (hp.own 0 _ _ _ rfl).1 (OwnK.cons (hp.own 2 _ _ _ rfl).1 OwnK.nil)))⟩ ?_
        have hz := Stp.refl I_21 w_26.drew
        refine evh (fun w' hw => rn_load rfl rfl (run_loadVarA T24 rfl (hw.2.at_ (i := 0) rfl))) ?_
        refine evh (fun w' hw => rn_load rfl rfl (run_loadVarA T24 rfl (hw.2.at_ (i := 1) rfl))) ?_
        refine evh (fun w' hw => rn_load rfl rfl (run_loadVarA T24 rfl (hw.2.at_ (i := 2) rfl))) ?_
        refine evh (fun w' hw => rn_load rfl rfl (run_loadVarA T24 rfl (hw.2.at_ (i := 1) rfl))) ?_
        obtain ⟨x_27, q_28, h⟩ := bind_some h
        refine ev_call rfl rfl C50 (((ref02_part_ok n) _ _  (Int_2.mk x_1o x_1p) v_1s r_1w (Int_2.mk x_1y.Neg x_1y.Mag) v_22 r_23 hp.imm _ q_28).mono ?_)
        rintro _ w_29 ⟨I_2a, v_2b, hv, hq, r_2c⟩
        replace hv := hv.symm
        subst hv
        have hs := hq.st
        have hp := hp.join0 hq
        replace hz := hz.trans hs
        replace r_1x := r_1x.step hs
        replace r_23 := r_23.step hs
        replace r_1w := r_1w.step hs
        refine ⟨fun x => Stp I_2a w_29 I_2a x ∧ OwnK [(g_6, [(.bool x_1o), v_1s], 24), (g_24, [(.bool x_1y.Neg), v_22], 24), (g_8, [(.bool x_1q), v_1t], 24)] x, ⟨Stp.refl _ _, (OwnK.cons (hp.own 1 _ _ _ rfl).1 (OwnK.cons (hp.own 0 _ _ _ rfl).1 (OwnK.cons (hp.own 2 _ _ _ rfl).1 OwnK.nil)))⟩, fun x hx => ⟨hz.held hx.1, hx.2⟩, ?_⟩
        have hz := Stp.refl I_2a w_29
        obtain ⟨x_2d, q_2e, h⟩ := bind_some h
        refine ev_call rfl rfl C50 (((ref02_part_ok n) _ _  (Int_2.mk x_1q x_1r) v_1t r_1x (Int_2.mk x_1y.Neg x_1y.Mag) v_22 r_23 hp.imm _ q_2e).mono ?_)
        rintro _ w_2f ⟨I_2g, v_2h, hv, hq, r_2i⟩
        replace hv := hv.symm
        subst hv
        have hs := hq.st
        have hp := hp.join0 hq
        replace hz := hz.trans hs
        replace r_2c := r_2c.step hs
        replace r_23 := r_23.step hs
        replace r_1w := r_1w.step hs
        replace r_1x := r_1x.step hs
        refine ⟨fun x => Stp I_2g w_2f I_2g x ∧ OwnK [(g_6, [(.bool x_1o), v_1s], 24), (g_24, [(.bool x_1y.Neg), v_22], 24), (g_8, [(.bool x_1q), v_1t], 24)] x, ⟨Stp.refl _ _, (OwnK.cons (hp.own 1 _ _ _ rfl).1 (OwnK.cons (hp.own 0 _ _ _ rfl).1 (OwnK.cons (hp.own 2 _ _ _ rfl).1 OwnK.nil)))⟩, fun x hx => ⟨hz.held hx.1, hx.2⟩, ?_⟩
        have hz := Stp.refl I_2g w_2f
        obtain ⟨A_2j, m_2k, m_2l, rfl⟩ := r_2c.isSl
        obtain ⟨A_2m, m_2n, m_2o, rfl⟩ := r_2i.isSl
        refine evh0 (fun w => rn_build (cs := [(.bool x_27.Neg), (.slice A_2j m_2k m_2l), (.bool x_2d.Neg), (.slice A_2m m_2n m_2o)]) rfl rfl T26 PL26 rfl) ?_
        refine ev_storeA hp (i := 3) (off := 0) (vs := [(.bool x_27.Neg), (.slice A_2j m_2k m_2l), (.bool x_2d.Neg), (.slice A_2m m_2n m_2o)]) rfl rfl rfl rfl T26 rfl (Nat.le_of_ble_eq_true rfl) (ones_cons rfl (ones_cons r_2c.one (ones_cons rfl (ones_cons r_2i.one ones_nil)))) ?_
        intro w_2p hp hs
        replace hz := hz.trans hs
        replace r_23 := r_23.step hs
        replace r_1w := r_1w.step hs
        replace r_1x := r_1x.step hs
        replace r_2c := r_2c.step hs
        replace r_2i := r_2i.step hs
        refine ⟨fun x => Stp I_2g w_2p I_2g x ∧ OwnK [(g_6, [(.bool x_1o), v_1s], 24), (g_24, [(.bool x_1y.Neg), v_22], 24), (g_8, [(.bool x_1q), v_1t], 24)] x, ⟨Stp.refl _ _, (OwnK.cons (hp.own 1 _ _ _ rfl).1 (OwnK.cons (hp.own 0 _ _ _ rfl).1 (OwnK.cons (hp.own 2 _ _ _ rfl).1 OwnK.nil)))⟩, fun x hx => ⟨hz.held hx.1, hx.2⟩, ?_⟩
        have hz := Stp.refl I_2g w_2p
        apply go
        obtain rfl := Option.some.inj h
        refine ⟨_, run_loadVarA T26 rfl (hp.at_ (i := 3) rfl), ?_⟩
        have hp := hp.sel [] (by decide)
        exact ⟨I_2g, (.slice A_2j m_2k m_2l), (.slice A_2m m_2n m_2o), rfl, hp, r_2c, r_2i⟩

end Go.Proofs.YtepadjfmcbjkmaaGreatDoor

namespace Go.Proofs.YtepadjfmcbjkmaaGreatDoor
open Go Go.Proofs.YtepadjfmcbjkmaaGreatDoor.Gw Go.RowKit
set_option linter.unusedVariables false
attribute [local irreducible] Ev EvQ EvS EvH
def ref02_Norm_S (f : Rational → Option Rational) : Prop := ∀ (w0 : World) (I0 : Nat → Prop) (x_0 : Rational) (v_1 : Value) (r_2 : RepS (dI .u32) w0 I0 v_1 x_0.Num.Mag) (v_3 : Value) (r_4 : RepS (dI .u32) w0 I0 v_3 x_0.Den.Mag) (hI : ∀ g, I0 g → g < w0.heap.size) (r : Rational), f x_0 = some r →
    Ret Tryz.prog 35 #[(.agg #[(.bool x_0.Num.Neg), v_1, (.bool x_0.Den.Neg), v_3])] w0 fun v w1 => ∃ (I1 : Nat → Prop) (u_5 : Value) (u_6 : Value), v = (.agg #[(.bool r.Num.Neg), u_5, (.bool r.Den.Neg), u_6]) ∧ Hp ⟨w0, I0, []⟩ I1 [] w1 ∧ RepS (dI .u32) w1 I1 u_5 r.Num.Mag ∧ RepS (dI .u32) w1 I1 u_6 r.Den.Mag
theorem ref02_Norm_ok (n : Nat) : ref02_Norm_S (ref02_Norm n) := by
  intro w0 I0 x_0 v_1 r_2 v_3 r_4 hI r h
  unfold ref02_Norm at h
  refine enter Tryz.func35 rfl (Nat.le_of_ble_eq_true rfl) ?_
  have hp : Hp ⟨w0, I0, []⟩ I0 [] w0 := Hp.start hI
  apply go
  apply go
  refine ev_boxI hp rfl rfl ?_
  intro p_5 I_6 w_7 hp hs a_8
  replace r_2 := r_2.step hs
  replace r_4 := r_4.step hs
  refine ev_alloc hp rfl T26 ?_
  intro g_9 w_a hp hs
  replace a_8 := a_8.step hs
  replace r_2 := r_2.step hs
  replace r_4 := r_4.step hs
  apply go
  apply go
  refine ev0 (rn_field rfl rfl FO26_0) ?_
  refine ev (rn_load rfl rfl (run_loadVarA T24 rfl ((a_8.drop 0).take 2))) ?_
  refine ev0 (rn_field rfl rfl FO26_1) ?_
  refine ev (rn_load rfl rfl (run_loadVarA T24 rfl ((a_8.drop 2).take 2))) ?_
  obtain ⟨x_b, q_c, h⟩ := bind_some h
  refine ev_call rfl rfl C41 (((ref02_New_ok n) _ _  (Int_2.mk x_0.Num.Neg x_0.Num.Mag) v_1 r_2 (Int_2.mk x_0.Den.Neg x_0.Den.Mag) v_3 r_4 hp.imm _ q_c).mono ?_)
  rintro _ w_d ⟨I_e, v_f, v_g, hv, hq, r_h, r_i⟩
  replace hv := hv.symm
  subst hv
  have hs := hq.st
  have hp := hp.join0 hq
  refine ev_storeA hp (i := 0) (off := 0) (vs := [(.bool x_b.Num.Neg), v_f, (.bool x_b.Den.Neg), v_g]) rfl rfl rfl rfl T26 rfl (Nat.le_of_ble_eq_true rfl) (ones_cons rfl (ones_cons r_h.one (ones_cons rfl (ones_cons r_i.one ones_nil)))) ?_
  intro w_j hp hs
  replace r_h := r_h.step hs
  replace r_i := r_i.step hs
  apply go
  obtain rfl := Option.some.inj h
  refine ⟨_, run_loadVarA T26 rfl (hp.at_ (i := 0) rfl), ?_⟩
  have hp := hp.sel [] (by decide)
  exact ⟨I_e, v_f, v_g, rfl, hp, r_h, r_i⟩

end Go.Proofs.YtepadjfmcbjkmaaGreatDoor

namespace Go.Proofs.YtepadjfmcbjkmaaGreatDoor
open Go Go.Proofs.YtepadjfmcbjkmaaGreatDoor.Gw Go.RowKit
set_option linter.unusedVariables false
attribute [local irreducible] Ev EvQ EvS EvH
def ref02_Sign_S (f : Rational → Option Int) : Prop := ∀ (w0 : World) (I0 : Nat → Prop) (x_0 : Rational) (v_1 : Value) (r_2 : RepS (dI .u32) w0 I0 v_1 x_0.Num.Mag) (v_3 : Value) (r_4 : RepS (dI .u32) w0 I0 v_3 x_0.Den.Mag) (hI : ∀ g, I0 g → g < w0.heap.size) (r : Int), f x_0 = some r →
    Ret Tryz.prog 40 #[(.agg #[(.bool x_0.Num.Neg), v_1, (.bool x_0.Den.Neg), v_3])] w0 fun v w1 => v = (.int .i64 r) ∧ Ch [] w0 w1
theorem ref02_Sign_ok (n : Nat) : ref02_Sign_S (ref02_Sign n) := by
  intro w0 I0 x_0 v_1 r_2 v_3 r_4 hI r h
  unfold ref02_Sign at h
  refine enter Tryz.func40 rfl (Nat.le_of_ble_eq_true rfl) ?_
  have hp : Hp ⟨w0, I0, []⟩ I0 [] w0 := Hp.start hI
  apply go
  apply go
  refine ev_boxI hp rfl rfl ?_
  intro p_5 I_6 w_7 hp hs a_8
  replace r_2 := r_2.step hs
  replace r_4 := r_4.step hs
  apply go
  apply go
  refine ev (rn_load rfl rfl (run_loadVarA T26 rfl a_8)) ?_
  obtain ⟨x_9, q_a, h⟩ := bind_some h
  refine ev_call rfl rfl C35 (((ref02_Norm_ok n) _ _  (Rational.mk (Int_2.mk x_0.Num.Neg x_0.Num.Mag) (Int_2.mk x_0.Den.Neg x_0.Den.Mag)) v_1 r_2 v_3 r_4 hp.imm _ q_a).mono ?_)
  rintro _ w_b ⟨I_c, v_d, v_e, hv, hq, r_f, r_g⟩
  replace hv := hv.symm
  subst hv
  have hs := hq.st
  have hp := hp.join0 hq
  refine ev0 (rn_fieldV (off := 0) (size := 2) rfl rfl (by unfold FT; kernel_rfl) T24) ?_
  obtain ⟨x_h, q_i, h⟩ := bind_some h
  refine ev_call rfl rfl C73 (((ref01_Sign_ok n) _ _  (Int_2.mk x_9.Num.Neg x_9.Num.Mag) v_d r_f hp.imm _ q_i).mono ?_)
  rintro _ w_j ⟨rfl, hc⟩
  have hs := hp.stp hc
  replace hp := hp.ext hc
  apply go
  obtain rfl := Option.some.inj h
  exact ⟨rfl, hp.ch⟩

end Go.Proofs.YtepadjfmcbjkmaaGreatDoor

namespace Go.Proofs.YtepadjfmcbjkmaaGreatDoor
open Go Go.Proofs.YtepadjfmcbjkmaaGreatDoor.Gw Go.RowKit
set_option linter.unusedVariables false
attribute [local irreducible] Ev EvQ EvS EvH
def ref01_Mul_S (f : Int_2 → Int_2 → Option Int_2) : Prop := ∀ (w0 : World) (I0 : Nat → Prop) (x_0 : Int_2) (v_1 : Value) (r_2 : RepS (dI .u32) w0 I0 v_1 x_0.Mag) (x_3 : Int_2) (v_4 : Value) (r_5 : RepS (dI .u32) w0 I0 v_4 x_3.Mag) (hI : ∀ g, I0 g → g < w0.heap.size) (r : Int_2), f x_0 x_3 = some r →
    Ret Tryz.prog 42 #[(.agg #[(.bool x_0.Neg), v_1]), (.agg #[(.bool x_3.Neg), v_4])] w0 fun v w1 => ∃ (I1 : Nat → Prop) (u_6 : Value), v = (.agg #[(.bool r.Neg), u_6]) ∧ Hp ⟨w0, I0, []⟩ I1 [] w1 ∧ RepS (dI .u32) w1 I1 u_6 r.Mag
theorem ref01_Mul_ok (n : Nat) : ref01_Mul_S (ref01_Mul n) := by
  intro w0 I0 x_0 v_1 r_2 x_3 v_4 r_5 hI r h
  unfold ref01_Mul at h
  refine enter Tryz.func42 rfl (Nat.le_of_ble_eq_true rfl) ?_
  have hp : Hp ⟨w0, I0, []⟩ I0 [] w0 := Hp.start hI
  apply go
  apply go
  refine ev_boxI hp rfl rfl ?_
  intro p_6 I_7 w_8 hp hs a_9
  replace r_5 := r_5.step hs
  replace r_2 := r_2.step hs
  refine ev_boxI hp rfl rfl ?_
  intro p_a I_b w_c hp hs a_d
  replace a_9 := a_9.step hs
  replace r_2 := r_2.step hs
  replace r_5 := r_5.step hs
  refine ev_alloc hp rfl T24 ?_
  intro g_e w_f hp hs
  replace a_9 := a_9.step hs
  replace r_2 := r_2.step hs
  replace a_d := a_d.step hs
  replace r_5 := r_5.step hs
  apply go
  apply go
  refine ev0 (rn_field rfl rfl FO24_1) ?_
  refine ev (rn_load rfl rfl (run_loadVar1 T22 (a_9.2 1 _ rfl))) ?_
  refine ev0 (rn_len rfl rfl Tryz.underlying22 r_2) ?_
  refine ev0 (rn_field rfl rfl FO24_1) ?_
  refine ev (rn_load rfl rfl (run_loadVar1 T22 (a_d.2 1 _ rfl))) ?_
  refine ev0 (rn_len rfl rfl Tryz.underlying22 r_5) ?_
  obtain ⟨x_g, q_h, h⟩ := bind_some h
  refine ev_make (d := (dI .u32)) (x0 := 0) hp rfl rfl rfl Tryz.underlying22 T46 (fun _ _ => rfl) (Nat.le_of_ble_eq_true rfl) q_h ?_
  intro v_i e_j w_k hp hs o_l
  replace a_9 := a_9.step hs
  replace r_2 := r_2.step hs
  replace a_d := a_d.step hs
  replace r_5 := r_5.step hs
  obtain ⟨y_m, q_n, h⟩ := bind_some h
  refine W.cut (γ := ((List Int) × Ent)) (fun g => [(2, (.pointer (some (p_6)))), (3, (.pointer (some (p_a)))), (4, (.pointer (some ⟨g_e, 0, none⟩))), (5, v_i)]) (fun g w' => y_m = (g.1) ∧ Hp ⟨w0, I0, []⟩ I_b [some (g_e, [(.bool false), (.slice none 0 0)], 24), (g.2)] w' ∧ RepS (dI .u32) w' I_b v_1 x_0.Mag ∧ At w' I_b p_6 [(.bool x_0.Neg), v_1] ∧ RepS (dI .u32) w' I_b v_4 x_3.Mag ∧ At w' I_b p_a [(.bool x_3.Neg), v_4] ∧ OwnS (dI .u32) 46 w' I_b v_i (g.2) (g.1)) ?_ ?_
  ·
    apply go
    apply go
    apply go
    have hp := hp.perm [1, 0] (by decide)
    refine W.loop q_n (γ := Ent) (fun s g => [(2, (.pointer (some (p_6)))), (3, (.pointer (some (p_a)))), (4, (.pointer (some ⟨g_e, 0, none⟩))), (5, v_i), (6, (.int .i64 (s.2)))]) (fun s g w' => Hp ⟨w0, I0, []⟩ I_b [some (g_e, [(.bool false), (.slice none 0 0)], 24), (g)] w' ∧ RepS (dI .u32) w' I_b v_1 x_0.Mag ∧ At w' I_b p_6 [(.bool x_0.Neg), v_1] ∧ RepS (dI .u32) w' I_b v_4 x_3.Mag ∧ At w' I_b p_a [(.bool x_3.Neg), v_4] ∧ OwnS (dI .u32) 46 w' I_b v_i (g) (s.1)) e_j (.c rfl (.c rfl (.c rfl (.c rfl (.c rfl .n))))) ⟨hp, r_2, a_9, r_5, a_d, o_l⟩ ?_
    rintro ⟨x_o, x_p⟩ e_q w_r y_s ⟨hp, r_2, a_9, r_5, a_d, o_t⟩ q_u q_v
    unfold ref01_Mul_L11 at q_u
    apply go
    apply go
    apply go
    refine ev0 (rn_field rfl rfl FO24_1) ?_
    refine ev (rn_load rfl rfl (run_loadVar1 T22 (a_9.2 1 _ rfl))) ?_
    refine ev0 (rn_len rfl rfl Tryz.underlying22 r_2) ?_
    apply go
    refine sel_of (fun hc => ?_) (fun hc => ?_)
    ·
      have q_u := cond_t q_u hc
      apply go
      obtain ⟨y_w, q_x, q_u⟩ := bind_some q_u
      refine W.cut (γ := ((List Int) × Ent)) (fun g => [(2, (.pointer (some (p_6)))), (3, (.pointer (some (p_a)))), (4, (.pointer (some ⟨g_e, 0, none⟩))), (5, v_i), (6, (.int .i64 x_p))]) (fun g w' => y_w = (g.1) ∧ Hp ⟨w0, I0, []⟩ I_b [some (g_e, [(.bool false), (.slice none 0 0)], 24), (g.2)] w' ∧ RepS (dI .u32) w' I_b v_1 x_0.Mag ∧ At w' I_b p_6 [(.bool x_0.Neg), v_1] ∧ RepS (dI .u32) w' I_b v_4 x_3.Mag ∧ At w' I_b p_a [(.bool x_3.Neg), v_4] ∧ OwnS (dI .u32) 46 w' I_b v_i (g.2) (g.1)) ?_ ?_
      ·
        apply go
        apply go
        apply go
        apply go
        apply go
        apply go
        refine W.loop q_x (γ := Ent) (fun s g => [(2, (.pointer (some (p_6)))), (3, (.pointer (some (p_a)))), (4, (.pointer (some ⟨g_e, 0, none⟩))), (5, v_i), (6, (.int .i64 x_p)), (7, (.int .u64 (s.2.1))), (8, (.int .i64 (s.2.2)))]) (fun s g w' => Hp ⟨w0, I0, []⟩ I_b [some (g_e, [(.bool false), (.slice none 0 0)], 24), (g)] w' ∧ RepS (dI .u32) w' I_b v_1 x_0.Mag ∧ At w' I_b p_6 [(.bool x_0.Neg), v_1] ∧ RepS (dI .u32) w' I_b v_4 x_3.Mag ∧ At w' I_b p_a [(.bool x_3.Neg), v_4] ∧ OwnS (dI .u32) 46 w' I_b v_i (g) (s.1)) e_q (.c rfl (.c rfl (.c rfl (.c rfl (.c rfl (.c rfl (.c rfl .n))))))) ⟨hp, r_2, a_9, r_5, a_d, o_t⟩ ?_
        rintro ⟨x_y, x_z, x_10⟩ e_11 w_12 y_13 ⟨hp, r_2, a_9, r_5, a_d, o_14⟩ q_15 q_16
        unfold ref01_Mul_L13 at q_15
        apply go
        obtain ⟨y_17, q_18, q_15⟩ := bind_some q_15
        refine W.cut (γ := Bool) (fun g => [(2, (.pointer (some (p_6)))), (3, (.pointer (some (p_a)))), (4, (.pointer (some ⟨g_e, 0, none⟩))), (5, v_i), (6, (.int .i64 x_p)), (7, (.int .u64 x_z)), (8, (.int .i64 x_10)), (34, (.bool (g)))]) (fun g w' => y_17 = (g) ∧ w_12 = w') ?_ ?_
        ·
          apply go
          refine ev0 (rn_field rfl rfl FO24_1) ?_
          refine ev (rn_load rfl rfl (run_loadVar1 T22 (a_d.2 1 _ rfl))) ?_
          refine ev0 (rn_len rfl rfl Tryz.underlying22 r_5) ?_
          refine sel_of (fun hc => ?_) (fun hc => ?_)
          ·
            have q_18 := cond_t q_18 hc
            obtain rfl := Option.some.inj q_18
            exact ⟨true, (.c rfl (.c rfl (.c rfl (.c rfl (.c rfl (.c rfl (.c rfl (.c rfl .n)))))))), rfl, rfl⟩
          ·
            have q_18 := cond_f q_18 hc
            obtain rfl := Option.some.inj q_18
            exact ⟨(decide (x_z > 0)), (.c rfl (.c rfl (.c rfl (.c rfl (.c rfl (.c rfl (.c rfl (.c rfl .n)))))))), rfl, rfl⟩
        ·
          rintro x_19 _ ⟨hy, rfl⟩
          replace hy := hy.symm
          subst hy
          apply go
          refine sel_of (fun hc => ?_) (fun hc => ?_)
          ·
            have q_15 := cond_t q_15 hc
            apply go
            apply go
            apply go
            apply go
            apply go
            obtain ⟨x_1a, q_1b, q_15⟩ := bind_some q_15
            refine ev_indexO rfl rfl rfl Tryz.underlying22 T46 o_14 q_1b ?_
            intro g_1c c_1d h_1e d_1f l_1g
            refine ev (rn_load rfl rfl (run_loadVar1 T46 (hp.cellE (i := 1) rfl h_1e d_1f (j := 0) rfl))) ?_
            refine ev0 (rn_conv rfl rfl U46 Tryz.underlying75) ?_
            obtain ⟨y_1h, q_1i, q_15⟩ := bind_some q_15
            refine W.cut (γ := Int) (fun g => [(2, (.pointer (some (p_6)))), (3, (.pointer (some (p_a)))), (4, (.pointer (some ⟨g_e, 0, none⟩))), (5, v_i), (6, (.int .i64 x_p)), (8, (.int .i64 x_10)), (9, (.int .u64 (g)))]) (fun g w' => y_1h = (g) ∧ Hp ⟨w0, I0, []⟩ I_b [some (g_e, [(.bool false), (.slice none 0 0)], 24), e_11] w' ∧ RepS (dI .u32) w' I_b v_1 x_0.Mag ∧ At w' I_b p_6 [(.bool x_0.Neg), v_1] ∧ RepS (dI .u32) w' I_b v_4 x_3.Mag ∧ At w' I_b p_a [(.bool x_3.Neg), v_4] ∧ OwnS (dI .u32) 46 w' I_b v_i e_11 x_y) ?_ ?_
            ·
              apply go
              apply go
              refine ev0 (rn_field rfl rfl FO24_1) ?_
              refine ev (rn_load rfl rfl (run_loadVar1 T22 (a_d.2 1 _ rfl))) ?_
              refine ev0 (rn_len rfl rfl Tryz.underlying22 r_5) ?_
              apply go
              refine sel_of (fun hc => ?_) (fun hc => ?_)
              ·
                have q_1i := cond_t q_1i hc
                refine W.quiet (fun w' => Ch [] w_12 w') MX (by kernel_rfl) (Ch.drew [] w_12) ?_
                refine evq0 (rn_field rfl rfl FO24_1) ?_
                refine evq (fun w' hw => rn_load rfl rfl (run_loadVar1 T22 ((a_9.step (hp.stp hw)).2 1 _ rfl))) ?_
                obtain ⟨x_1j, q_1k, q_1i⟩ := bind_some q_1i
                refine evq_index rfl rfl rfl Tryz.underlying22 T46 r_2 q_1k ?_
                intro p_1l c_1m d_1n a_1o
                obtain rfl : c_1m = [(.int .u32 x_1j)] := d_1n
                refine evq (fun w' hw => rn_load rfl rfl (run_loadVar1 T46 ((a_1o.step (hp.stp hw)).2 0 _ rfl))) ?_
                refine evq0 (rn_conv rfl rfl U46 Tryz.underlying75) ?_
                refine evq0 (rn_field rfl rfl FO24_1) ?_
                refine evq (fun w' hw => rn_load rfl rfl (run_loadVar1 T22 ((a_d.step (hp.stp hw)).2 1 _ rfl))) ?_
                obtain ⟨x_1p, q_1q, q_1i⟩ := bind_some q_1i
                refine evq_index rfl rfl rfl Tryz.underlying22 T46 r_5 q_1q ?_
                intro p_1r c_1s d_1t a_1u
                obtain rfl : c_1s = [(.int .u32 x_1p)] := d_1t
                refine evq (fun w' hw => rn_load rfl rfl (run_loadVar1 T46 ((a_1u.step (hp.stp hw)).2 0 _ rfl))) ?_
                refine evq0 (rn_conv rfl rfl U46 Tryz.underlying75) ?_
                intro w_1v hc
                have hs := hp.stp hc
                replace hp := hp.ext hc
                replace a_9 := a_9.step hs
                replace r_2 := r_2.step hs
                replace a_d := a_d.step hs
                replace r_5 := r_5.step hs
                replace o_14 := o_14.step hs
                obtain rfl := Option.some.inj q_1i
                exact ⟨(IntKind.u64.wrap ((IntKind.u64.wrap ((IntKind.u64.wrap x_1a) + x_z)) + (IntKind.u64.wrap ((IntKind.u64.wrap x_1j) * (IntKind.u64.wrap x_1p))))), (.c rfl (.c rfl (.c rfl (.c rfl (.c rfl (.c rfl (.c rfl .n))))))), rfl, hp, r_2, a_9, r_5, a_d, o_14⟩
              ·
                have q_1i := cond_f q_1i hc
                apply go
                obtain rfl := Option.some.inj q_1i
                exact ⟨(IntKind.u64.wrap ((IntKind.u64.wrap x_1a) + x_z)), (.c rfl (.c rfl (.c rfl (.c rfl (.c rfl (.c rfl (.c rfl .n))))))), rfl, hp, r_2, a_9, r_5, a_d, o_14⟩
            ·
              rintro x_1w w_1x ⟨hy, hp, r_2, a_9, r_5, a_d, o_14⟩
              replace hy := hy.symm
              subst hy
              apply go
              apply go
              refine ev0 (rn_conv rfl rfl U75 Tryz.underlying46) ?_
              obtain ⟨x_1y, q_1z, q_15⟩ := bind_some q_15
              refine ev_indexO rfl rfl rfl Tryz.underlying22 T46 o_14 q_1z ?_
              intro g_20 c_21 h_22 d_23 l_24
              refine ev_storeE hp (i := 1) rfl h_22 rfl rfl rfl T46 o_14 q_1z (x0 := (IntKind.u32.wrap x_1w)) rfl ?_
              intro e_25 w_26 hp hs o_27
              replace a_9 := a_9.step hs
              replace r_2 := r_2.step hs
              replace a_d := a_d.step hs
              replace r_5 := r_5.step hs
              apply go
              refine ⟨by decide, ?_⟩
              apply go
              exact ⟨_, (Option.some.inj q_15).symm, e_25, (.c rfl (.c rfl (.c rfl (.c rfl (.c rfl (.c rfl (.c rfl .n))))))), ⟨hp, r_2, a_9, r_5, a_d, o_27⟩⟩
          ·
            have q_15 := cond_f q_15 hc
            apply go
            have q_28 := congrArg some (q_16 _ (Option.some.inj q_15).symm)
            obtain rfl := Option.some.inj q_28
            exact ⟨(x_y, e_11), (.c rfl (.c rfl (.c rfl (.c rfl (.c rfl .n))))), rfl, hp, r_2, a_9, r_5, a_d, o_14⟩
      ·
        rintro ⟨x_29, e_2a⟩ w_2b ⟨hy, hp, r_2, a_9, r_5, a_d, o_2c⟩
        replace hy := hy.symm
        subst hy
        apply go
        exact ⟨_, (Option.some.inj q_u).symm, e_2a, (.c rfl (.c rfl (.c rfl (.c rfl (.c rfl .n))))), ⟨hp, r_2, a_9, r_5, a_d, o_2c⟩⟩
    ·
      have q_u := cond_f q_u hc
      apply go
      have q_2d := congrArg some (q_v _ (Option.some.inj q_u).symm)
      obtain rfl := Option.some.inj q_2d
      exact ⟨(x_o, e_q), (.c rfl (.c rfl (.c rfl (.c rfl .n)))), rfl, hp, r_2, a_9, r_5, a_d, o_t⟩
  ·
    rintro ⟨x_2e, e_2f⟩ w_2g ⟨hy, hp, r_2, a_9, r_5, a_d, o_2h⟩
    replace hy := hy.symm
    subst hy
    apply go
    apply go
    refine ev0 (rn_field rfl rfl FO24_0) ?_
    refine ev (rn_load rfl rfl (run_loadVar1 T4 (a_9.2 0 _ rfl))) ?_
    refine ev0 (rn_field rfl rfl FO24_0) ?_
    refine ev (rn_load rfl rfl (run_loadVar1 T4 (a_d.2 0 _ rfl))) ?_
    refine ev0 (rn_neB rfl rfl rfl Tryz.underlying4) ?_
    obtain ⟨A_2i, m_2j, m_2k, rfl⟩ := o_2h.isSl
    refine ev0 (fun w => rn_build (cs := [(.bool (!(x_0.Neg == x_3.Neg))), (.slice A_2i m_2j m_2k)]) rfl rfl T24 PL24 rfl) ?_
    have r_2l := o_2h.frz hp (i := 1) rfl
    obtain ⟨hp, hs⟩ := freeze_hp hp (i := 1) rfl
    have hp := hp.sel [0] (by decide)
    obtain ⟨x_2m, q_2n, h⟩ := bind_some h
    refine ev_call rfl rfl C77 (((ref01_Norm_ok n) _ _  (Int_2.mk (!(x_0.Neg == x_3.Neg)) x_2e) (.slice A_2i m_2j m_2k) r_2l hp.imm _ q_2n).mono ?_)
    rintro _ w_2o ⟨I_2p, v_2q, hv, hq, r_2r⟩
    replace hv := hv.symm
    subst hv
    have hs := hq.st
    have hp := hp.join0 hq
    refine ev_storeA hp (i := 0) (off := 0) (vs := [(.bool x_2m.Neg), v_2q]) rfl rfl rfl rfl T24 rfl (Nat.le_of_ble_eq_true rfl) (ones_cons rfl (ones_cons r_2r.one ones_nil)) ?_
    intro w_2s hp hs
    replace r_2r := r_2r.step hs
    apply go
    obtain rfl := Option.some.inj h
    refine ⟨_, run_loadVarA T24 rfl (hp.at_ (i := 0) rfl), ?_⟩
    have hp := hp.sel [] (by decide)
    exact ⟨I_2p, v_2q, rfl, hp, r_2r⟩

end Go.Proofs.YtepadjfmcbjkmaaGreatDoor

namespace Go.Proofs.YtepadjfmcbjkmaaGreatDoor
open Go Go.Proofs.YtepadjfmcbjkmaaGreatDoor.Gw Go.RowKit
set_option linter.unusedVariables false
attribute [local irreducible] Ev EvQ EvS EvH vch
def ref02_Add_S (f : Rational → Rational → Option Rational) : Prop := ∀ (w0 : World) (I0 : Nat → Prop) (x_0 : Rational) (v_1 : Value) (r_2 : RepS (dI .u32) w0 I0 v_1 x_0.Num.Mag) (v_3 : Value) (r_4 : RepS (dI .u32) w0 I0 v_3 x_0.Den.Mag) (x_5 : Rational) (v_6 : Value) (r_7 : RepS (dI .u32) w0 I0 v_6 x_5.Num.Mag) (v_8 : Value) (r_9 : RepS (dI .u32) w0 I0 v_8 x_5.Den.Mag) (hI : ∀ g, I0 g → g < w0.heap.size) (r : Rational), f x_0 x_5 = some r →
    Ret Tryz.prog 53 #[(.agg #[(.bool x_0.Num.Neg), v_1, (.bool x_0.Den.Neg), v_3]), (.agg #[(.bool x_5.Num.Neg), v_6, (.bool x_5.Den.Neg), v_8])] w0 fun v w1 => ∃ (I1 : Nat → Prop) (u_a : Value) (u_b : Value), v = (.agg #[(.bool r.Num.Neg), u_a, (.bool r.Den.Neg), u_b]) ∧ Hp ⟨w0, I0, []⟩ I1 [] w1 ∧ RepS (dI .u32) w1 I1 u_a r.Num.Mag ∧ RepS (dI .u32) w1 I1 u_b r.Den.Mag
theorem ref02_Add_ok (n : Nat) : ref02_Add_S (ref02_Add n) := by
  intro w0 I0 x_0 v_1 r_2 v_3 r_4 x_5 v_6 r_7 v_8 r_9 hI r h
  unfold ref02_Add at h
  refine enter Tryz.func53 rfl (Nat.le_of_ble_eq_true rfl) ?_
  have hp : Hp ⟨w0, I0, []⟩ I0 [] w0 := Hp.start hI
  apply go
  apply go
  refine ev_boxI hp rfl rfl ?_
  intro p_a I_b w_c hp hs a_d
  replace r_7 := r_7.step hs
  replace r_9 := r_9.step hs
  replace r_2 := r_2.step hs
  replace r_4 := r_4.step hs
  refine ev_boxI hp rfl rfl ?_
  intro p_e I_f w_g hp hs a_h
  replace a_d := a_d.step hs
  replace r_2 := r_2.step hs
  replace r_4 := r_4.step hs
  replace r_7 := r_7.step hs
  replace r_9 := r_9.step hs
  refine ev_alloc hp rfl T26 ?_
  intro g_i w_j hp hs
  replace a_d := a_d.step hs
  replace r_2 := r_2.step hs
  replace r_4 := r_4.step hs
  replace a_h := a_h.step hs
  replace r_7 := r_7.step hs
  replace r_9 := r_9.step hs
  apply go
  apply go
  refine ev (rn_load rfl rfl (run_loadVarA T26 rfl a_d)) ?_
  obtain ⟨x_k, q_l, h⟩ := bind_some h
  refine ev_call rfl rfl C35 (((ref02_Norm_ok n) _ _  (Rational.mk (Int_2.mk x_0.Num.Neg x_0.Num.Mag) (Int_2.mk x_0.Den.Neg x_0.Den.Mag)) v_1 r_2 v_3 r_4 hp.imm _ q_l).mono ?_)
  rintro _ w_m ⟨I_n, v_o, v_p, hv, hq, r_q, r_r⟩
  replace hv := hv.symm
  subst hv
  have hs := hq.st
  have hp := hp.join0 hq
  replace a_h := a_h.step hs
  replace r_7 := r_7.step hs
  replace r_9 := r_9.step hs
  refine ev_alloc hp rfl T26 ?_
  intro g_s w_t hp hs
  replace a_h := a_h.step hs
  replace r_7 := r_7.step hs
  replace r_9 := r_9.step hs
  replace r_q := r_q.step hs
  replace r_r := r_r.step hs
  refine ev_storeA hp (i := 0) (off := 0) (vs := [(.bool x_k.Num.Neg), v_o, (.bool x_k.Den.Neg), v_p]) rfl rfl rfl rfl T26 rfl (Nat.le_of_ble_eq_true rfl) (ones_cons rfl (ones_cons r_q.one (ones_cons rfl (ones_cons r_r.one ones_nil)))) ?_
  intro w_u hp hs
  replace a_h := a_h.step hs
  replace r_7 := r_7.step hs
  replace r_9 := r_9.step hs
  replace r_q := r_q.step hs
  replace r_r := r_r.step hs
  apply go
  apply go
  refine ev (rn_load rfl rfl (run_loadVarA T26 rfl a_h)) ?_
  obtain ⟨x_v, q_w, h⟩ := bind_some h
  refine ev_call rfl rfl C35 (((ref02_Norm_ok n) _ _  (Rational.mk (Int_2.mk x_5.Num.Neg x_5.Num.Mag) (Int_2.mk x_5.Den.Neg x_5.Den.Mag)) v_6 r_7 v_8 r_9 hp.imm _ q_w).mono ?_)
  rintro _ w_x ⟨I_y, v_z, v_10, hv, hq, r_11, r_12⟩
  replace hv := hv.symm
  subst hv
  have hs := hq.st
  have hp := hp.join0 hq
  replace r_q := r_q.step hs
  replace r_r := r_r.step hs
  refine ev_alloc hp rfl T26 ?_
  intro g_13 w_14 hp hs
  replace r_11 := r_11.step hs
  replace r_12 := r_12.step hs
  replace r_q := r_q.step hs
  replace r_r := r_r.step hs
  refine ev_storeA hp (i := 0) (off := 0) (vs := [(.bool x_v.Num.Neg), v_z, (.bool x_v.Den.Neg), v_10]) rfl rfl rfl rfl T26 rfl (Nat.le_of_ble_eq_true rfl) (ones_cons rfl (ones_cons r_11.one (ones_cons rfl (ones_cons r_12.one ones_nil)))) ?_
  intro w_15 hp hs
  replace r_11 := r_11.step hs
  replace r_12 := r_12.step hs
  replace r_q := r_q.step hs
  replace r_r := r_r.step hs
  apply go
  have hs := hp.stp (Ch.drew [] w_15)
  have hp := hp.drew
  replace r_11 := r_11.step hs
  replace r_12 := r_12.step hs
  replace r_q := r_q.step hs
  replace r_r := r_r.step hs
  refine W.heldT [(0, true), (1, true), (2, true), (3, true), (5, true), (6, true), (7, true), (8, true), (11, true), (12, true), (13, true), (14, true), (4, false), (9, false), (10, false), (15, false), (16, false), (17, false)] (fun x => Stp I_y w_15.drew I_y x ∧ OwnK [(g_s, [(.bool x_k.Num.Neg), v_o, (.bool x_k.Den.Neg), v_p], 26), (g_13, [(.bool x_v.Num.Neg), v_z, (.bool x_v.Den.Neg), v_10], 26)] x) MX (by kernel_rfl) ⟨Stp.refl _ _, (OwnK.cons (hp.own 1 _ _ _ rfl).1 (OwnK.cons (hp.own 0 _ _ _ rfl).1 OwnK.nil))⟩ ?_
  have hz := Stp.refl I_y w_15.drew
  intro ops hops
  have e0 : nthO ops 0 = some _ := (hops 0).trans rfl
  have e1 : nthO ops 1 = some _ := (hops 1).trans rfl
  have e2 : nthO ops 2 = some _ := (hops 2).trans rfl
  have e3 : nthO ops 3 = some _ := (hops 3).trans rfl
  have e4 : nthO ops 4 = some _ := (hops 4).trans rfl
  have e5 : nthO ops 5 = some _ := (hops 5).trans rfl
  have e6 : nthO ops 6 = some _ := (hops 6).trans rfl
  have e7 : nthO ops 7 = some _ := (hops 7).trans rfl
  have e8 : nthO ops 8 = some _ := (hops 8).trans rfl
  have e9 : nthO ops 9 = some _ := (hops 9).trans rfl
  have e10 : nthO ops 10 = some _ := (hops 10).trans rfl
  have e11 : nthO ops 11 = some _ := (hops 11).trans rfl
  have e12 : nthO ops 12 = some _ := (hops 12).trans rfl
  have e13 : nthO ops 13 = some _ := (hops 13).trans rfl
  have e14 : nthO ops 14 = some _ := (hops 14).trans rfl
  have e15 : nthO ops 15 = some _ := (hops 15).trans rfl
  have e16 : nthO ops 16 = some _ := (hops 16).trans rfl
  have e17 : nthO ops 17 = some _ := (hops 17).trans rfl
  clear hops
  refine vch_q e0 rfl ?_
  refine evh0 (rn_field rfl rfl FO26_0) ?_
  refine vch_q e1 rfl ?_
  refine evh (fun w' hw => rn_load rfl rfl (run_loadVarA T24 rfl (((hw.2.at_ (i := 0) rfl).drop 0).take 2))) ?_
  refine vch_q e2 rfl ?_
  refine evh0 (rn_field rfl rfl FO26_1) ?_
  refine vch_q e3 rfl ?_
  refine evh (fun w' hw => rn_load rfl rfl (run_loadVarA T24 rfl (((hw.2.at_ (i := 1) rfl).drop 2).take 2))) ?_
  refine vch_q e5 rfl ?_
  refine evh0 (rn_field rfl rfl FO26_0) ?_
  refine vch_q e6 rfl ?_
  refine evh (fun w' hw => rn_load rfl rfl (run_loadVarA T24 rfl (((hw.2.at_ (i := 1) rfl).drop 0).take 2))) ?_
  refine vch_q e7 rfl ?_
  refine evh0 (rn_field rfl rfl FO26_1) ?_
  refine vch_q e8 rfl ?_
  refine evh (fun w' hw => rn_load rfl rfl (run_loadVarA T24 rfl (((hw.2.at_ (i := 0) rfl).drop 2).take 2))) ?_
  refine vch_q e11 rfl ?_
  refine evh0 (rn_field rfl rfl FO26_1) ?_
  refine vch_q e12 rfl ?_
  refine evh (fun w' hw => rn_load rfl rfl (run_loadVarA T24 rfl (((hw.2.at_ (i := 0) rfl).drop 2).take 2))) ?_
  refine vch_q e13 rfl ?_
  refine evh0 (rn_field rfl rfl FO26_1) ?_
  refine vch_q e14 rfl ?_
  refine evh (fun w' hw => rn_load rfl rfl (run_loadVarA T24 rfl (((hw.2.at_ (i := 1) rfl).drop 2).take 2))) ?_
  refine vch_l e4 rfl ?_
  obtain ⟨x_16, q_17, h⟩ := bind_some h
  refine ev_call rfl rfl C42 (((ref01_Mul_ok n) _ _  (Int_2.mk x_k.Num.Neg x_k.Num.Mag) v_o r_q (Int_2.mk x_v.Den.Neg x_v.Den.Mag) v_10 r_12 hp.imm _ q_17).mono ?_)
  rintro _ w_18 ⟨I_19, v_1a, hv, hq, r_1b⟩
  replace hv := hv.symm
  subst hv
  have hs := hq.st
  have hp := hp.join0 hq
  replace hz := hz.trans hs
  replace r_11 := r_11.step hs
  replace r_r := r_r.step hs
  replace r_12 := r_12.step hs
  replace r_q := r_q.step hs
  refine ⟨fun x => Stp I_19 w_18 I_19 x ∧ OwnK [(g_s, [(.bool x_k.Num.Neg), v_o, (.bool x_k.Den.Neg), v_p], 26), (g_13, [(.bool x_v.Num.Neg), v_z, (.bool x_v.Den.Neg), v_10], 26)] x, ⟨Stp.refl _ _, (OwnK.cons (hp.own 1 _ _ _ rfl).1 (OwnK.cons (hp.own 0 _ _ _ rfl).1 OwnK.nil))⟩, fun x hx => ⟨hz.held hx.1, hx.2⟩, ?_⟩
  have hz := Stp.refl I_19 w_18
  refine vch_l e9 rfl ?_
  obtain ⟨x_1c, q_1d, h⟩ := bind_some h
  refine ev_call rfl rfl C42 (((ref01_Mul_ok n) _ _  (Int_2.mk x_v.Num.Neg x_v.Num.Mag) v_z r_11 (Int_2.mk x_k.Den.Neg x_k.Den.Mag) v_p r_r hp.imm _ q_1d).mono ?_)
  rintro _ w_1e ⟨I_1f, v_1g, hv, hq, r_1h⟩
  replace hv := hv.symm
  subst hv
  have hs := hq.st
  have hp := hp.join0 hq
  replace hz := hz.trans hs
  replace r_r := r_r.step hs
  replace r_12 := r_12.step hs
  replace r_1b := r_1b.step hs
  replace r_11 := r_11.step hs
  replace r_q := r_q.step hs
  refine ⟨fun x => Stp I_1f w_1e I_1f x ∧ OwnK [(g_s, [(.bool x_k.Num.Neg), v_o, (.bool x_k.Den.Neg), v_p], 26), (g_13, [(.bool x_v.Num.Neg), v_z, (.bool x_v.Den.Neg), v_10], 26)] x, ⟨Stp.refl _ _, (OwnK.cons (hp.own 1 _ _ _ rfl).1 (OwnK.cons (hp.own 0 _ _ _ rfl).1 OwnK.nil))⟩, fun x hx => ⟨hz.held hx.1, hx.2⟩, ?_⟩
  have hz := Stp.refl I_1f w_1e
  refine vch_l e10 rfl ?_
  obtain ⟨x_1i, q_1j, h⟩ := bind_some h
  refine ev_call rfl rfl C84 (((ref01_Add_ok n) _ _  x_16 v_1a r_1b x_1c v_1g r_1h hp.imm _ q_1j).mono ?_)
  rintro _ w_1k ⟨I_1l, v_1m, hv, hq, r_1n⟩
  replace hv := hv.symm
  subst hv
  have hs := hq.st
  have hp := hp.join0 hq
  replace hz := hz.trans hs
  replace r_r := r_r.step hs
  replace r_12 := r_12.step hs
  replace r_11 := r_11.step hs
  replace r_q := r_q.step hs
  refine ⟨fun x => Stp I_1l w_1k I_1l x ∧ OwnK [(g_s, [(.bool x_k.Num.Neg), v_o, (.bool x_k.Den.Neg), v_p], 26), (g_13, [(.bool x_v.Num.Neg), v_z, (.bool x_v.Den.Neg), v_10], 26)] x, ⟨Stp.refl _ _, (OwnK.cons (hp.own 1 _ _ _ rfl).1 (OwnK.cons (hp.own 0 _ _ _ rfl).1 OwnK.nil))⟩, fun x hx => ⟨hz.held hx.1, hx.2⟩, ?_⟩
  have hz := Stp.refl I_1l w_1k
  refine vch_l e15 rfl ?_
  obtain ⟨x_1o, q_1p, h⟩ := bind_some h
  refine ev_call rfl rfl C42 (((ref01_Mul_ok n) _ _  (Int_2.mk x_k.Den.Neg x_k.Den.Mag) v_p r_r (Int_2.mk x_v.Den.Neg x_v.Den.Mag) v_10 r_12 hp.imm _ q_1p).mono ?_)
  rintro _ w_1q ⟨I_1r, v_1s, hv, hq, r_1t⟩
  replace hv := hv.symm
  subst hv
  have hs := hq.st
  have hp := hp.join0 hq
  replace hz := hz.trans hs
  replace r_1n := r_1n.step hs
  replace r_11 := r_11.step hs
  replace r_12 := r_12.step hs
  replace r_q := r_q.step hs
  replace r_r := r_r.step hs
  refine ⟨fun x => Stp I_1r w_1q I_1r x ∧ OwnK [(g_s, [(.bool x_k.Num.Neg), v_o, (.bool x_k.Den.Neg), v_p], 26), (g_13, [(.bool x_v.Num.Neg), v_z, (.bool x_v.Den.Neg), v_10], 26)] x, ⟨Stp.refl _ _, (OwnK.cons (hp.own 1 _ _ _ rfl).1 (OwnK.cons (hp.own 0 _ _ _ rfl).1 OwnK.nil))⟩, fun x hx => ⟨hz.held hx.1, hx.2⟩, ?_⟩
  have hz := Stp.refl I_1r w_1q
  refine vch_l e16 rfl ?_
  obtain ⟨x_1u, q_1v, h⟩ := bind_some h
  refine ev_call rfl rfl C41 (((ref02_New_ok n) _ _  x_1i v_1m r_1n x_1o v_1s r_1t hp.imm _ q_1v).mono ?_)
  rintro _ w_1w ⟨I_1x, v_1y, v_1z, hv, hq, r_20, r_21⟩
  replace hv := hv.symm
  subst hv
  have hs := hq.st
  have hp := hp.join0 hq
  replace hz := hz.trans hs
  replace r_11 := r_11.step hs
  replace r_12 := r_12.step hs
  replace r_q := r_q.step hs
  replace r_r := r_r.step hs
  refine ⟨fun x => Stp I_1x w_1w I_1x x ∧ OwnK [(g_s, [(.bool x_k.Num.Neg), v_o, (.bool x_k.Den.Neg), v_p], 26), (g_13, [(.bool x_v.Num.Neg), v_z, (.bool x_v.Den.Neg), v_10], 26)] x, ⟨Stp.refl _ _, (OwnK.cons (hp.own 1 _ _ _ rfl).1 (OwnK.cons (hp.own 0 _ _ _ rfl).1 OwnK.nil))⟩, fun x hx => ⟨hz.held hx.1, hx.2⟩, ?_⟩
  have hz := Stp.refl I_1x w_1w
  refine vch_l e17 rfl ?_
  refine ev_storeA hp (i := 2) (off := 0) (vs := [(.bool x_1u.Num.Neg), v_1y, (.bool x_1u.Den.Neg), v_1z]) rfl rfl rfl rfl T26 rfl (Nat.le_of_ble_eq_true rfl) (ones_cons rfl (ones_cons r_20.one (ones_cons rfl (ones_cons r_21.one ones_nil)))) ?_
  intro w_22 hp hs
  replace hz := hz.trans hs
  replace r_11 := r_11.step hs
  replace r_12 := r_12.step hs
  replace r_q := r_q.step hs
  replace r_r := r_r.step hs
  replace r_20 := r_20.step hs
  replace r_21 := r_21.step hs
  refine ⟨fun x => Stp I_1x w_22 I_1x x ∧ OwnK [(g_s, [(.bool x_k.Num.Neg), v_o, (.bool x_k.Den.Neg), v_p], 26), (g_13, [(.bool x_v.Num.Neg), v_z, (.bool x_v.Den.Neg), v_10], 26)] x, ⟨Stp.refl _ _, (OwnK.cons (hp.own 1 _ _ _ rfl).1 (OwnK.cons (hp.own 0 _ _ _ rfl).1 OwnK.nil))⟩, fun x hx => ⟨hz.held hx.1, hx.2⟩, ?_⟩
  have hz := Stp.refl I_1x w_22
  refine vch_end ?_
  apply go
  obtain rfl := Option.some.inj h
  refine ⟨_, run_loadVarA T26 rfl (hp.at_ (i := 2) rfl), ?_⟩
  have hp := hp.sel [] (by decide)
  exact ⟨I_1x, v_1y, v_1z, rfl, hp, r_20, r_21⟩

end Go.Proofs.YtepadjfmcbjkmaaGreatDoor

namespace Go.Proofs.YtepadjfmcbjkmaaGreatDoor
open Go Go.Proofs.YtepadjfmcbjkmaaGreatDoor.Gw Go.RowKit
set_option linter.unusedVariables false
attribute [local irreducible] Ev EvQ EvS EvH
def ref02_Neg_S (f : Rational → Option Rational) : Prop := ∀ (w0 : World) (I0 : Nat → Prop) (x_0 : Rational) (v_1 : Value) (r_2 : RepS (dI .u32) w0 I0 v_1 x_0.Num.Mag) (v_3 : Value) (r_4 : RepS (dI .u32) w0 I0 v_3 x_0.Den.Mag) (hI : ∀ g, I0 g → g < w0.heap.size) (r : Rational), f x_0 = some r →
    Ret Tryz.prog 61 #[(.agg #[(.bool x_0.Num.Neg), v_1, (.bool x_0.Den.Neg), v_3])] w0 fun v w1 => ∃ (I1 : Nat → Prop) (u_5 : Value) (u_6 : Value), v = (.agg #[(.bool r.Num.Neg), u_5, (.bool r.Den.Neg), u_6]) ∧ Hp ⟨w0, I0, []⟩ I1 [] w1 ∧ RepS (dI .u32) w1 I1 u_5 r.Num.Mag ∧ RepS (dI .u32) w1 I1 u_6 r.Den.Mag
theorem ref02_Neg_ok (n : Nat) : ref02_Neg_S (ref02_Neg n) := by
  intro w0 I0 x_0 v_1 r_2 v_3 r_4 hI r h
  unfold ref02_Neg at h
  refine enter Tryz.func61 rfl (Nat.le_of_ble_eq_true rfl) ?_
  have hp : Hp ⟨w0, I0, []⟩ I0 [] w0 := Hp.start hI
  apply go
  apply go
  refine ev_boxI hp rfl rfl ?_
  intro p_5 I_6 w_7 hp hs a_8
  replace r_2 := r_2.step hs
  replace r_4 := r_4.step hs
  refine ev_alloc hp rfl T26 ?_
  intro g_9 w_a hp hs
  replace a_8 := a_8.step hs
  replace r_2 := r_2.step hs
  replace r_4 := r_4.step hs
  apply go
  apply go
  refine ev (rn_load rfl rfl (run_loadVarA T26 rfl a_8)) ?_
  obtain ⟨x_b, q_c, h⟩ := bind_some h
  refine ev_call rfl rfl C35 (((ref02_Norm_ok n) _ _  (Rational.mk (Int_2.mk x_0.Num.Neg x_0.Num.Mag) (Int_2.mk x_0.Den.Neg x_0.Den.Mag)) v_1 r_2 v_3 r_4 hp.imm _ q_c).mono ?_)
  rintro _ w_d ⟨I_e, v_f, v_g, hv, hq, r_h, r_i⟩
  replace hv := hv.symm
  subst hv
  have hs := hq.st
  have hp := hp.join0 hq
  refine ev_alloc hp rfl T26 ?_
  intro g_j w_k hp hs
  replace r_h := r_h.step hs
  replace r_i := r_i.step hs
  refine ev_storeA hp (i := 0) (off := 0) (vs := [(.bool x_b.Num.Neg), v_f, (.bool x_b.Den.Neg), v_g]) rfl rfl rfl rfl T26 rfl (Nat.le_of_ble_eq_true rfl) (ones_cons rfl (ones_cons r_h.one (ones_cons rfl (ones_cons r_i.one ones_nil)))) ?_
  intro w_l hp hs
  replace r_h := r_h.step hs
  replace r_i := r_i.step hs
  apply go
  have hs := hp.stp (Ch.drew [] w_l)
  have hp := hp.drew
  replace r_h := r_h.step hs
  replace r_i := r_i.step hs
  refine W.held [(0, true), (1, true), (3, true), (4, true), (2, false), (5, false), (6, false)] (fun x => Stp I_e w_l.drew I_e x ∧ OwnK [(g_j, [(.bool x_b.Num.Neg), v_f, (.bool x_b.Den.Neg), v_g], 26)] x) MX (by kernel_rfl) ⟨Stp.refl _ _, (OwnK.cons (hp.own 0 _ _ _ rfl).1 OwnK.nil)⟩ ?_
  have hz := Stp.refl I_e w_l.drew
  refine evh0 (rn_field rfl rfl FO26_0) ?_
  refine evh (fun w' hw => rn_load rfl rfl (run_loadVarA T24 rfl (((hw.2.at_ (i := 0) rfl).drop 0).take 2))) ?_
  refine evh0 (rn_field rfl rfl FO26_1) ?_
  refine evh (fun w' hw => rn_load rfl rfl (run_loadVarA T24 rfl (((hw.2.at_ (i := 0) rfl).drop 2).take 2))) ?_
  obtain ⟨x_m, q_n, h⟩ := bind_some h
  refine ev_call rfl rfl C75 (((ref01_Neg_ok n) _ _  (Int_2.mk x_b.Num.Neg x_b.Num.Mag) v_f r_h hp.imm _ q_n).mono ?_)
  rintro _ w_o ⟨I_p, v_q, hv, hq, r_r⟩
  replace hv := hv.symm
  subst hv
  have hs := hq.st
  have hp := hp.join0 hq
  replace hz := hz.trans hs
  replace r_i := r_i.step hs
  replace r_h := r_h.step hs
  refine ⟨fun x => Stp I_p w_o I_p x ∧ OwnK [(g_j, [(.bool x_b.Num.Neg), v_f, (.bool x_b.Den.Neg), v_g], 26)] x, ⟨Stp.refl _ _, (OwnK.cons (hp.own 0 _ _ _ rfl).1 OwnK.nil)⟩, fun x hx => ⟨hz.held hx.1, hx.2⟩, ?_⟩
  have hz := Stp.refl I_p w_o
  obtain ⟨x_s, q_t, h⟩ := bind_some h
  refine ev_call rfl rfl C41 (((ref02_New_ok n) _ _  x_m v_q r_r (Int_2.mk x_b.Den.Neg x_b.Den.Mag) v_g r_i hp.imm _ q_t).mono ?_)
  rintro _ w_u ⟨I_v, v_w, v_x, hv, hq, r_y, r_z⟩
  replace hv := hv.symm
  subst hv
  have hs := hq.st
  have hp := hp.join0 hq
  replace hz := hz.trans hs
  replace r_h := r_h.step hs
  replace r_i := r_i.step hs
  refine ⟨fun x => Stp I_v w_u I_v x ∧ OwnK [(g_j, [(.bool x_b.Num.Neg), v_f, (.bool x_b.Den.Neg), v_g], 26)] x, ⟨Stp.refl _ _, (OwnK.cons (hp.own 0 _ _ _ rfl).1 OwnK.nil)⟩, fun x hx => ⟨hz.held hx.1, hx.2⟩, ?_⟩
  have hz := Stp.refl I_v w_u
  refine ev_storeA hp (i := 1) (off := 0) (vs := [(.bool x_s.Num.Neg), v_w, (.bool x_s.Den.Neg), v_x]) rfl rfl rfl rfl T26 rfl (Nat.le_of_ble_eq_true rfl) (ones_cons rfl (ones_cons r_y.one (ones_cons rfl (ones_cons r_z.one ones_nil)))) ?_
  intro w_10 hp hs
  replace hz := hz.trans hs
  replace r_h := r_h.step hs
  replace r_i := r_i.step hs
  replace r_y := r_y.step hs
  replace r_z := r_z.step hs
  refine ⟨fun x => Stp I_v w_10 I_v x ∧ OwnK [(g_j, [(.bool x_b.Num.Neg), v_f, (.bool x_b.Den.Neg), v_g], 26)] x, ⟨Stp.refl _ _, (OwnK.cons (hp.own 0 _ _ _ rfl).1 OwnK.nil)⟩, fun x hx => ⟨hz.held hx.1, hx.2⟩, ?_⟩
  have hz := Stp.refl I_v w_10
  apply go
  obtain rfl := Option.some.inj h
  refine ⟨_, run_loadVarA T26 rfl (hp.at_ (i := 1) rfl), ?_⟩
  have hp := hp.sel [] (by decide)
  exact ⟨I_v, v_w, v_x, rfl, hp, r_y, r_z⟩

end Go.Proofs.YtepadjfmcbjkmaaGreatDoor

namespace Go.Proofs.YtepadjfmcbjkmaaGreatDoor
open Go Go.Proofs.YtepadjfmcbjkmaaGreatDoor.Gw Go.RowKit
set_option linter.unusedVariables false
attribute [local irreducible] Ev EvQ EvS EvH
def ref02_Sub_S (f : Rational → Rational → Option Rational) : Prop := ∀ (w0 : World) (I0 : Nat → Prop) (x_0 : Rational) (v_1 : Value) (r_2 : RepS (dI .u32) w0 I0 v_1 x_0.Num.Mag) (v_3 : Value) (r_4 : RepS (dI .u32) w0 I0 v_3 x_0.Den.Mag) (x_5 : Rational) (v_6 : Value) (r_7 : RepS (dI .u32) w0 I0 v_6 x_5.Num.Mag) (v_8 : Value) (r_9 : RepS (dI .u32) w0 I0 v_8 x_5.Den.Mag) (hI : ∀ g, I0 g → g < w0.heap.size) (r : Rational), f x_0 x_5 = some r →
    Ret Tryz.prog 48 #[(.agg #[(.bool x_0.Num.Neg), v_1, (.bool x_0.Den.Neg), v_3]), (.agg #[(.bool x_5.Num.Neg), v_6, (.bool x_5.Den.Neg), v_8])] w0 fun v w1 => ∃ (I1 : Nat → Prop) (u_a : Value) (u_b : Value), v = (.agg #[(.bool r.Num.Neg), u_a, (.bool r.Den.Neg), u_b]) ∧ Hp ⟨w0, I0, []⟩ I1 [] w1 ∧ RepS (dI .u32) w1 I1 u_a r.Num.Mag ∧ RepS (dI .u32) w1 I1 u_b r.Den.Mag
theorem ref02_Sub_ok (n : Nat) : ref02_Sub_S (ref02_Sub n) := by
  intro w0 I0 x_0 v_1 r_2 v_3 r_4 x_5 v_6 r_7 v_8 r_9 hI r h
  unfold ref02_Sub at h
  refine enter Tryz.func48 rfl (Nat.le_of_ble_eq_true rfl) ?_
  have hp : Hp ⟨w0, I0, []⟩ I0 [] w0 := Hp.start hI
  apply go
  apply go
  refine ev_boxI hp rfl rfl ?_
  intro p_a I_b w_c hp hs a_d
  replace r_7 := r_7.step hs
  replace r_9 := r_9.step hs
  replace r_2 := r_2.step hs
  replace r_4 := r_4.step hs
  refine ev_boxI hp rfl rfl ?_
  intro p_e I_f w_g hp hs a_h
  replace a_d := a_d.step hs
  replace r_2 := r_2.step hs
  replace r_4 := r_4.step hs
  replace r_7 := r_7.step hs
  replace r_9 := r_9.step hs
  refine ev_alloc hp rfl T26 ?_
  intro g_i w_j hp hs
  replace a_d := a_d.step hs
  replace r_2 := r_2.step hs
  replace r_4 := r_4.step hs
  replace a_h := a_h.step hs
  replace r_7 := r_7.step hs
  replace r_9 := r_9.step hs
  apply go
  have hs := hp.stp (Ch.drew [] w_j)
  have hp := hp.drew
  replace a_d := a_d.step hs
  replace r_2 := r_2.step hs
  replace r_4 := r_4.step hs
  replace a_h := a_h.step hs
  replace r_7 := r_7.step hs
  replace r_9 := r_9.step hs
  refine W.held [(0, true), (1, true), (2, false), (3, false), (4, false)] (Stp I_f w_j.drew I_f) MX (by kernel_rfl) (Stp.refl _ _) ?_
  have hz := Stp.refl I_f w_j.drew
  refine evh (fun w' hw => rn_load rfl rfl (run_loadVarA T26 rfl (a_d.step hw))) ?_
  refine evh (fun w' hw => rn_load rfl rfl (run_loadVarA T26 rfl (a_h.step hw))) ?_
  obtain ⟨x_k, q_l, h⟩ := bind_some h
  refine ev_call rfl rfl C61 (((ref02_Neg_ok n) _ _  (Rational.mk (Int_2.mk x_5.Num.Neg x_5.Num.Mag) (Int_2.mk x_5.Den.Neg x_5.Den.Mag)) v_6 r_7 v_8 r_9 hp.imm _ q_l).mono ?_)
  rintro _ w_m ⟨I_n, v_o, v_p, hv, hq, r_q, r_r⟩
  replace hv := hv.symm
  subst hv
  have hs := hq.st
  have hp := hp.join0 hq
  replace hz := hz.trans hs
  replace r_2 := r_2.step hs
  replace r_4 := r_4.step hs
  refine ⟨Stp I_n w_m I_n, Stp.refl _ _, fun x hx => hz.held hx, ?_⟩
  have hz := Stp.refl I_n w_m
  obtain ⟨x_s, q_t, h⟩ := bind_some h
  refine ev_call rfl rfl C53 (((ref02_Add_ok n) _ _  (Rational.mk (Int_2.mk x_0.Num.Neg x_0.Num.Mag) (Int_2.mk x_0.Den.Neg x_0.Den.Mag)) v_1 r_2 v_3 r_4 x_k v_o r_q v_p r_r hp.imm _ q_t).mono ?_)
  rintro _ w_u ⟨I_v, v_w, v_x, hv, hq, r_y, r_z⟩
  replace hv := hv.symm
  subst hv
  have hs := hq.st
  have hp := hp.join0 hq
  replace hz := hz.trans hs
  refine ⟨Stp I_v w_u I_v, Stp.refl _ _, fun x hx => hz.held hx, ?_⟩
  have hz := Stp.refl I_v w_u
  refine ev_storeA hp (i := 0) (off := 0) (vs := [(.bool x_s.Num.Neg), v_w, (.bool x_s.Den.Neg), v_x]) rfl rfl rfl rfl T26 rfl (Nat.le_of_ble_eq_true rfl) (ones_cons rfl (ones_cons r_y.one (ones_cons rfl (ones_cons r_z.one ones_nil)))) ?_
  intro w_10 hp hs
  replace hz := hz.trans hs
  replace r_y := r_y.step hs
  replace r_z := r_z.step hs
  refine ⟨Stp I_v w_10 I_v, Stp.refl _ _, fun x hx => hz.held hx, ?_⟩
  have hz := Stp.refl I_v w_10
  apply go
  obtain rfl := Option.some.inj h
  refine ⟨_, run_loadVarA T26 rfl (hp.at_ (i := 0) rfl), ?_⟩
  have hp := hp.sel [] (by decide)
  exact ⟨I_v, v_w, v_x, rfl, hp, r_y, r_z⟩

end Go.Proofs.YtepadjfmcbjkmaaGreatDoor

namespace Go.Proofs.YtepadjfmcbjkmaaGreatDoor
open Go Go.Proofs.YtepadjfmcbjkmaaGreatDoor.Gw Go.RowKit
set_option linter.unusedVariables false
attribute [local irreducible] Ev EvQ EvS EvH
def ref02_Cmp_S (f : Rational → Rational → Option Int) : Prop := ∀ (w0 : World) (I0 : Nat → Prop) (x_0 : Rational) (v_1 : Value) (r_2 : RepS (dI .u32) w0 I0 v_1 x_0.Num.Mag) (v_3 : Value) (r_4 : RepS (dI .u32) w0 I0 v_3 x_0.Den.Mag) (x_5 : Rational) (v_6 : Value) (r_7 : RepS (dI .u32) w0 I0 v_6 x_5.Num.Mag) (v_8 : Value) (r_9 : RepS (dI .u32) w0 I0 v_8 x_5.Den.Mag) (hI : ∀ g, I0 g → g < w0.heap.size) (r : Int), f x_0 x_5 = some r →
    Ret Tryz.prog 16 #[(.agg #[(.bool x_0.Num.Neg), v_1, (.bool x_0.Den.Neg), v_3]), (.agg #[(.bool x_5.Num.Neg), v_6, (.bool x_5.Den.Neg), v_8])] w0 fun v w1 => v = (.int .i64 r) ∧ Ch [] w0 w1
theorem ref02_Cmp_ok (n : Nat) : ref02_Cmp_S (ref02_Cmp n) := by
  intro w0 I0 x_0 v_1 r_2 v_3 r_4 x_5 v_6 r_7 v_8 r_9 hI r h
  unfold ref02_Cmp at h
  refine enter Tryz.func16 rfl (Nat.le_of_ble_eq_true rfl) ?_
  have hp : Hp ⟨w0, I0, []⟩ I0 [] w0 := Hp.start hI
  apply go
  apply go
  refine ev_boxI hp rfl rfl ?_
  intro p_a I_b w_c hp hs a_d
  replace r_7 := r_7.step hs
  replace r_9 := r_9.step hs
  replace r_2 := r_2.step hs
  replace r_4 := r_4.step hs
  refine ev_boxI hp rfl rfl ?_
  intro p_e I_f w_g hp hs a_h
  replace a_d := a_d.step hs
  replace r_2 := r_2.step hs
  replace r_4 := r_4.step hs
  replace r_7 := r_7.step hs
  replace r_9 := r_9.step hs
  apply go
  apply go
  refine ev (rn_load rfl rfl (run_loadVarA T26 rfl a_d)) ?_
  refine ev (rn_load rfl rfl (run_loadVarA T26 rfl a_h)) ?_
  obtain ⟨x_i, q_j, h⟩ := bind_some h
  refine ev_call rfl rfl C48 (((ref02_Sub_ok n) _ _  (Rational.mk (Int_2.mk x_0.Num.Neg x_0.Num.Mag) (Int_2.mk x_0.Den.Neg x_0.Den.Mag)) v_1 r_2 v_3 r_4 (Rational.mk (Int_2.mk x_5.Num.Neg x_5.Num.Mag) (Int_2.mk x_5.Den.Neg x_5.Den.Mag)) v_6 r_7 v_8 r_9 hp.imm _ q_j).mono ?_)
  rintro _ w_k ⟨I_l, v_m, v_n, hv, hq, r_o, r_p⟩
  replace hv := hv.symm
  subst hv
  have hs := hq.st
  have hp := hp.join0 hq
  obtain ⟨x_q, q_r, h⟩ := bind_some h
  refine ev_call rfl rfl C40 (((ref02_Sign_ok n) _ _  x_i v_m r_o v_n r_p hp.imm _ q_r).mono ?_)
  rintro _ w_s ⟨rfl, hc⟩
  have hs := hp.stp hc
  replace hp := hp.ext hc
  apply go
  obtain rfl := Option.some.inj h
  exact ⟨rfl, hp.ch⟩

end Go.Proofs.YtepadjfmcbjkmaaGreatDoor

namespace Go.Proofs.YtepadjfmcbjkmaaGreatDoor
open Go Go.Proofs.YtepadjfmcbjkmaaGreatDoor.Gw Go.RowKit
set_option linter.unusedVariables false
attribute [local irreducible] Ev EvQ EvS EvH
def ref02_Of_S (f : Int → Int → Option Rational) : Prop := ∀ (w0 : World) (I0 : Nat → Prop) (x_0 : Int) (x_1 : Int) (hI : ∀ g, I0 g → g < w0.heap.size) (r : Rational), f x_0 x_1 = some r →
    Ret Tryz.prog 60 #[(.int .i64 x_0), (.int .i64 x_1)] w0 fun v w1 => ∃ (I1 : Nat → Prop) (u_2 : Value) (u_3 : Value), v = (.agg #[(.bool r.Num.Neg), u_2, (.bool r.Den.Neg), u_3]) ∧ Hp ⟨w0, I0, []⟩ I1 [] w1 ∧ RepS (dI .u32) w1 I1 u_2 r.Num.Mag ∧ RepS (dI .u32) w1 I1 u_3 r.Den.Mag
theorem ref02_Of_ok (n : Nat) : ref02_Of_S (ref02_Of n) := by
  intro w0 I0 x_0 x_1 hI r h
  unfold ref02_Of at h
  refine enter Tryz.func60 rfl (Nat.le_of_ble_eq_true rfl) ?_
  have hp : Hp ⟨w0, I0, []⟩ I0 [] w0 := Hp.start hI
  apply go
  apply go
  refine ev_alloc hp rfl T26 ?_
  intro g_2 w_3 hp hs
  apply go
  apply go
  obtain ⟨x_4, q_5, h⟩ := bind_some h
  refine ev_call rfl rfl C74 (((ref01_Of_ok n) _ _  x_0 hp.imm _ q_5).mono ?_)
  rintro _ w_6 ⟨I_7, v_8, hv, hq, r_9⟩
  replace hv := hv.symm
  subst hv
  have hs := hq.st
  have hp := hp.join0 hq
  obtain ⟨x_a, q_b, h⟩ := bind_some h
  refine ev_call rfl rfl C74 (((ref01_Of_ok n) _ _  x_1 hp.imm _ q_b).mono ?_)
  rintro _ w_c ⟨I_d, v_e, hv, hq, r_f⟩
  replace hv := hv.symm
  subst hv
  have hs := hq.st
  have hp := hp.join0 hq
  replace r_9 := r_9.step hs
  obtain ⟨x_g, q_h, h⟩ := bind_some h
  refine ev_call rfl rfl C41 (((ref02_New_ok n) _ _  x_4 v_8 r_9 x_a v_e r_f hp.imm _ q_h).mono ?_)
  rintro _ w_i ⟨I_j, v_k, v_l, hv, hq, r_m, r_n⟩
  replace hv := hv.symm
  subst hv
  have hs := hq.st
  have hp := hp.join0 hq
  refine ev_storeA hp (i := 0) (off := 0) (vs := [(.bool x_g.Num.Neg), v_k, (.bool x_g.Den.Neg), v_l]) rfl rfl rfl rfl T26 rfl (Nat.le_of_ble_eq_true rfl) (ones_cons rfl (ones_cons r_m.one (ones_cons rfl (ones_cons r_n.one ones_nil)))) ?_
  intro w_o hp hs
  replace r_m := r_m.step hs
  replace r_n := r_n.step hs
  apply go
  obtain rfl := Option.some.inj h
  refine ⟨_, run_loadVarA T26 rfl (hp.at_ (i := 0) rfl), ?_⟩
  have hp := hp.sel [] (by decide)
  exact ⟨I_j, v_k, v_l, rfl, hp, r_m, r_n⟩

end Go.Proofs.YtepadjfmcbjkmaaGreatDoor

namespace Go.Proofs.YtepadjfmcbjkmaaGreatDoor
open Go Go.Proofs.YtepadjfmcbjkmaaGreatDoor.Gw Go.RowKit
set_option linter.unusedVariables false
attribute [local irreducible] Ev EvQ EvS EvH
def ref02_Div_S (f : Rational → Rational → Option (Rational × Int)) : Prop := ∀ (w0 : World) (I0 : Nat → Prop) (x_0 : Rational) (v_1 : Value) (r_2 : RepS (dI .u32) w0 I0 v_1 x_0.Num.Mag) (v_3 : Value) (r_4 : RepS (dI .u32) w0 I0 v_3 x_0.Den.Mag) (x_5 : Rational) (v_6 : Value) (r_7 : RepS (dI .u32) w0 I0 v_6 x_5.Num.Mag) (v_8 : Value) (r_9 : RepS (dI .u32) w0 I0 v_8 x_5.Den.Mag) (hI : ∀ g, I0 g → g < w0.heap.size) (r : (Rational × Int)), f x_0 x_5 = some r →
    Ret Tryz.prog 11 #[(.agg #[(.bool x_0.Num.Neg), v_1, (.bool x_0.Den.Neg), v_3]), (.agg #[(.bool x_5.Num.Neg), v_6, (.bool x_5.Den.Neg), v_8])] w0 fun v w1 => ∃ (I1 : Nat → Prop) (u_a : Value) (u_b : Value), v = (.tuple #[(.agg #[(.bool r.1.Num.Neg), u_a, (.bool r.1.Den.Neg), u_b]), (.int .i64 r.2)]) ∧ Hp ⟨w0, I0, []⟩ I1 [] w1 ∧ RepS (dI .u32) w1 I1 u_a r.1.Num.Mag ∧ RepS (dI .u32) w1 I1 u_b r.1.Den.Mag
theorem ref02_Div_ok (n : Nat) : ref02_Div_S (ref02_Div n) := by
  intro w0 I0 x_0 v_1 r_2 v_3 r_4 x_5 v_6 r_7 v_8 r_9 hI r h
  unfold ref02_Div at h
  refine enter Tryz.func11 rfl (Nat.le_of_ble_eq_true rfl) ?_
  have hp : Hp ⟨w0, I0, []⟩ I0 [] w0 := Hp.start hI
  apply go
  apply go
  refine ev_boxI hp rfl rfl ?_
  intro p_a I_b w_c hp hs a_d
  replace r_7 := r_7.step hs
  replace r_9 := r_9.step hs
  replace r_2 := r_2.step hs
  replace r_4 := r_4.step hs
  refine ev_boxI hp rfl rfl ?_
  intro p_e I_f w_g hp hs a_h
  replace a_d := a_d.step hs
  replace r_2 := r_2.step hs
  replace r_4 := r_4.step hs
  replace r_7 := r_7.step hs
  replace r_9 := r_9.step hs
  refine ev_alloc hp rfl T26 ?_
  intro g_i w_j hp hs
  replace a_d := a_d.step hs
  replace r_2 := r_2.step hs
  replace r_4 := r_4.step hs
  replace a_h := a_h.step hs
  replace r_7 := r_7.step hs
  replace r_9 := r_9.step hs
  apply go
  apply go
  refine ev (rn_load rfl rfl (run_loadVarA T26 rfl a_d)) ?_
  obtain ⟨x_k, q_l, h⟩ := bind_some h
  refine ev_call rfl rfl C35 (((ref02_Norm_ok n) _ _  (Rational.mk (Int_2.mk x_0.Num.Neg x_0.Num.Mag) (Int_2.mk x_0.Den.Neg x_0.Den.Mag)) v_1 r_2 v_3 r_4 hp.imm _ q_l).mono ?_)
  rintro _ w_m ⟨I_n, v_o, v_p, hv, hq, r_q, r_r⟩
  replace hv := hv.symm
  subst hv
  have hs := hq.st
  have hp := hp.join0 hq
  replace a_h := a_h.step hs
  replace r_7 := r_7.step hs
  replace r_9 := r_9.step hs
  refine ev_alloc hp rfl T26 ?_
  intro g_s w_t hp hs
  replace a_h := a_h.step hs
  replace r_7 := r_7.step hs
  replace r_9 := r_9.step hs
  replace r_q := r_q.step hs
  replace r_r := r_r.step hs
  refine ev_storeA hp (i := 0) (off := 0) (vs := [(.bool x_k.Num.Neg), v_o, (.bool x_k.Den.Neg), v_p]) rfl rfl rfl rfl T26 rfl (Nat.le_of_ble_eq_true rfl) (ones_cons rfl (ones_cons r_q.one (ones_cons rfl (ones_cons r_r.one ones_nil)))) ?_
  intro w_u hp hs
  replace a_h := a_h.step hs
  replace r_7 := r_7.step hs
  replace r_9 := r_9.step hs
  replace r_q := r_q.step hs
  replace r_r := r_r.step hs
  apply go
  apply go
  refine ev (rn_load rfl rfl (run_loadVarA T26 rfl a_h)) ?_
  obtain ⟨x_v, q_w, h⟩ := bind_some h
  refine ev_call rfl rfl C35 (((ref02_Norm_ok n) _ _  (Rational.mk (Int_2.mk x_5.Num.Neg x_5.Num.Mag) (Int_2.mk x_5.Den.Neg x_5.Den.Mag)) v_6 r_7 v_8 r_9 hp.imm _ q_w).mono ?_)
  rintro _ w_x ⟨I_y, v_z, v_10, hv, hq, r_11, r_12⟩
  replace hv := hv.symm
  subst hv
  have hs := hq.st
  have hp := hp.join0 hq
  replace r_q := r_q.step hs
  replace r_r := r_r.step hs
  refine ev_alloc hp rfl T26 ?_
  intro g_13 w_14 hp hs
  replace r_11 := r_11.step hs
  replace r_12 := r_12.step hs
  replace r_q := r_q.step hs
  replace r_r := r_r.step hs
  refine ev_storeA hp (i := 0) (off := 0) (vs := [(.bool x_v.Num.Neg), v_z, (.bool x_v.Den.Neg), v_10]) rfl rfl rfl rfl T26 rfl (Nat.le_of_ble_eq_true rfl) (ones_cons rfl (ones_cons r_11.one (ones_cons rfl (ones_cons r_12.one ones_nil)))) ?_
  intro w_15 hp hs
  replace r_11 := r_11.step hs
  replace r_12 := r_12.step hs
  replace r_q := r_q.step hs
  replace r_r := r_r.step hs
  apply go
  apply go
  apply go
  refine ev (rn_load rfl rfl (run_loadVarA T26 rfl (hp.at_ (i := 0) rfl))) ?_
  obtain ⟨x_16, q_17, h⟩ := bind_some h
  refine ev_call rfl rfl C40 (((ref02_Sign_ok n) _ _  (Rational.mk (Int_2.mk x_v.Num.Neg x_v.Num.Mag) (Int_2.mk x_v.Den.Neg x_v.Den.Mag)) v_z r_11 v_10 r_12 hp.imm _ q_17).mono ?_)
  rintro _ w_18 ⟨rfl, hc⟩
  have hs := hp.stp hc
  replace hp := hp.ext hc
  replace r_11 := r_11.step hs
  replace r_12 := r_12.step hs
  replace r_q := r_q.step hs
  replace r_r := r_r.step hs
  apply go
  refine sel_of (fun hc => ?_) (fun hc => ?_)
  ·
    have h := cond_t h hc
    apply go
    apply go
    refine ev0 (fun w => rn_build (cs := [(.bool false), (.slice none 0 0), (.bool false), (.slice none 0 0)]) rfl rfl T26 PL26 rfl) ?_
    refine ev_storeA hp (i := 2) (off := 0) (vs := [(.bool false), (.slice none 0 0), (.bool false), (.slice none 0 0)]) rfl rfl rfl rfl T26 rfl (Nat.le_of_ble_eq_true rfl) (ones_of rfl) ?_
    intro w_19 hp hs
    replace r_11 := r_11.step hs
    replace r_12 := r_12.step hs
    replace r_q := r_q.step hs
    replace r_r := r_r.step hs
    apply go
    obtain rfl := Option.some.inj h
    refine ⟨_, run_loadVarA T26 rfl (hp.at_ (i := 2) rfl), ?_⟩
    have hp := hp.sel [] (by decide)
    exact ⟨I_y, .slice none 0 0, .slice none 0 0, rfl, hp, RepS.nil _ _ _, RepS.nil _ _ _⟩
  ·
    have h := cond_f h hc
    apply go
    apply go
    have hs := hp.stp (Ch.drew [] w_18)
    have hp := hp.drew
    replace r_11 := r_11.step hs
    replace r_12 := r_12.step hs
    replace r_q := r_q.step hs
    replace r_r := r_r.step hs
    refine W.held [(0, true), (1, true), (2, true), (3, true), (5, true), (6, true), (7, true), (8, true), (4, false), (9, false), (10, false), (11, false), (12, true)] (fun x => Stp I_y w_18.drew I_y x ∧ OwnK [(g_s, [(.bool x_k.Num.Neg), v_o, (.bool x_k.Den.Neg), v_p], 26), (g_13, [(.bool x_v.Num.Neg), v_z, (.bool x_v.Den.Neg), v_10], 26)] x) MX (by kernel_rfl) ⟨Stp.refl _ _, (OwnK.cons (hp.own 1 _ _ _ rfl).1 (OwnK.cons (hp.own 0 _ _ _ rfl).1 OwnK.nil))⟩ ?_
    have hz := Stp.refl I_y w_18.drew
    refine evh0 (rn_field rfl rfl FO26_0) ?_
    refine evh (fun w' hw => rn_load rfl rfl (run_loadVarA T24 rfl (((hw.2.at_ (i := 0) rfl).drop 0).take 2))) ?_
    refine evh0 (rn_field rfl rfl FO26_1) ?_
    refine evh (fun w' hw => rn_load rfl rfl (run_loadVarA T24 rfl (((hw.2.at_ (i := 1) rfl).drop 2).take 2))) ?_
    refine evh0 (rn_field rfl rfl FO26_1) ?_
    refine evh (fun w' hw => rn_load rfl rfl (run_loadVarA T24 rfl (((hw.2.at_ (i := 0) rfl).drop 2).take 2))) ?_
    refine evh0 (rn_field rfl rfl FO26_0) ?_
    refine evh (fun w' hw => rn_load rfl rfl (run_loadVarA T24 rfl (((hw.2.at_ (i := 1) rfl).drop 0).take 2))) ?_
    obtain ⟨x_1a, q_1b, h⟩ := bind_some h
    refine ev_call rfl rfl C42 (((ref01_Mul_ok n) _ _  (Int_2.mk x_k.Num.Neg x_k.Num.Mag) v_o r_q (Int_2.mk x_v.Den.Neg x_v.Den.Mag) v_10 r_12 hp.imm _ q_1b).mono ?_)
    rintro _ w_1c ⟨I_1d, v_1e, hv, hq, r_1f⟩
    replace hv := hv.symm
    subst hv
    have hs := hq.st
    have hp := hp.join0 hq
    replace hz := hz.trans hs
    replace r_r := r_r.step hs
    replace r_11 := r_11.step hs
    replace r_12 := r_12.step hs
    replace r_q := r_q.step hs
    refine ⟨fun x => Stp I_1d w_1c I_1d x ∧ OwnK [(g_s, [(.bool x_k.Num.Neg), v_o, (.bool x_k.Den.Neg), v_p], 26), (g_13, [(.bool x_v.Num.Neg), v_z, (.bool x_v.Den.Neg), v_10], 26)] x, ⟨Stp.refl _ _, (OwnK.cons (hp.own 1 _ _ _ rfl).1 (OwnK.cons (hp.own 0 _ _ _ rfl).1 OwnK.nil))⟩, fun x hx => ⟨hz.held hx.1, hx.2⟩, ?_⟩
    have hz := Stp.refl I_1d w_1c
    obtain ⟨x_1g, q_1h, h⟩ := bind_some h
    refine ev_call rfl rfl C42 (((ref01_Mul_ok n) _ _  (Int_2.mk x_k.Den.Neg x_k.Den.Mag) v_p r_r (Int_2.mk x_v.Num.Neg x_v.Num.Mag) v_z r_11 hp.imm _ q_1h).mono ?_)
    rintro _ w_1i ⟨I_1j, v_1k, hv, hq, r_1l⟩
    replace hv := hv.symm
    subst hv
    have hs := hq.st
    have hp := hp.join0 hq
    replace hz := hz.trans hs
    replace r_1f := r_1f.step hs
    replace r_11 := r_11.step hs
    replace r_12 := r_12.step hs
    replace r_q := r_q.step hs
    replace r_r := r_r.step hs
    refine ⟨fun x => Stp I_1j w_1i I_1j x ∧ OwnK [(g_s, [(.bool x_k.Num.Neg), v_o, (.bool x_k.Den.Neg), v_p], 26), (g_13, [(.bool x_v.Num.Neg), v_z, (.bool x_v.Den.Neg), v_10], 26)] x, ⟨Stp.refl _ _, (OwnK.cons (hp.own 1 _ _ _ rfl).1 (OwnK.cons (hp.own 0 _ _ _ rfl).1 OwnK.nil))⟩, fun x hx => ⟨hz.held hx.1, hx.2⟩, ?_⟩
    have hz := Stp.refl I_1j w_1i
    obtain ⟨x_1m, q_1n, h⟩ := bind_some h
    refine ev_call rfl rfl C41 (((ref02_New_ok n) _ _  x_1a v_1e r_1f x_1g v_1k r_1l hp.imm _ q_1n).mono ?_)
    rintro _ w_1o ⟨I_1p, v_1q, v_1r, hv, hq, r_1s, r_1t⟩
    replace hv := hv.symm
    subst hv
    have hs := hq.st
    have hp := hp.join0 hq
    replace hz := hz.trans hs
    replace r_11 := r_11.step hs
    replace r_12 := r_12.step hs
    replace r_q := r_q.step hs
    replace r_r := r_r.step hs
    refine ⟨fun x => Stp I_1p w_1o I_1p x ∧ OwnK [(g_s, [(.bool x_k.Num.Neg), v_o, (.bool x_k.Den.Neg), v_p], 26), (g_13, [(.bool x_v.Num.Neg), v_z, (.bool x_v.Den.Neg), v_10], 26)] x, ⟨Stp.refl _ _, (OwnK.cons (hp.own 1 _ _ _ rfl).1 (OwnK.cons (hp.own 0 _ _ _ rfl).1 OwnK.nil))⟩, fun x hx => ⟨hz.held hx.1, hx.2⟩, ?_⟩
    have hz := Stp.refl I_1p w_1o
    refine ev_storeA hp (i := 2) (off := 0) (vs := [(.bool x_1m.Num.Neg), v_1q, (.bool x_1m.Den.Neg), v_1r]) rfl rfl rfl rfl T26 rfl (Nat.le_of_ble_eq_true rfl) (ones_cons rfl (ones_cons r_1s.one (ones_cons rfl (ones_cons r_1t.one ones_nil)))) ?_
    intro w_1u hp hs
    replace hz := hz.trans hs
    replace r_11 := r_11.step hs
    replace r_12 := r_12.step hs
    replace r_q := r_q.step hs
    replace r_r := r_r.step hs
    replace r_1s := r_1s.step hs
    replace r_1t := r_1t.step hs
    refine ⟨fun x => Stp I_1p w_1u I_1p x ∧ OwnK [(g_s, [(.bool x_k.Num.Neg), v_o, (.bool x_k.Den.Neg), v_p], 26), (g_13, [(.bool x_v.Num.Neg), v_z, (.bool x_v.Den.Neg), v_10], 26)] x, ⟨Stp.refl _ _, (OwnK.cons (hp.own 1 _ _ _ rfl).1 (OwnK.cons (hp.own 0 _ _ _ rfl).1 OwnK.nil))⟩, fun x hx => ⟨hz.held hx.1, hx.2⟩, ?_⟩
    have hz := Stp.refl I_1p w_1u
    apply go
    obtain rfl := Option.some.inj h
    refine ⟨_, run_loadVarA T26 rfl (hp.at_ (i := 2) rfl), ?_⟩
    have hp := hp.sel [] (by decide)
    exact ⟨I_1p, v_1q, v_1r, rfl, hp, r_1s, r_1t⟩

end Go.Proofs.YtepadjfmcbjkmaaGreatDoor

namespace Go.Proofs.YtepadjfmcbjkmaaGreatDoor
open Go Go.Proofs.YtepadjfmcbjkmaaGreatDoor.Gw Go.RowKit
set_option linter.unusedVariables false
attribute [local irreducible] Ev EvQ EvS EvH
def ref02_Floor_S (f : Rational → Option Int_2) : Prop := ∀ (w0 : World) (I0 : Nat → Prop) (x_0 : Rational) (v_1 : Value) (r_2 : RepS (dI .u32) w0 I0 v_1 x_0.Num.Mag) (v_3 : Value) (r_4 : RepS (dI .u32) w0 I0 v_3 x_0.Den.Mag) (hI : ∀ g, I0 g → g < w0.heap.size) (r : Int_2), f x_0 = some r →
    Ret Tryz.prog 19 #[(.agg #[(.bool x_0.Num.Neg), v_1, (.bool x_0.Den.Neg), v_3])] w0 fun v w1 => ∃ (I1 : Nat → Prop) (u_5 : Value), v = (.agg #[(.bool r.Neg), u_5]) ∧ Hp ⟨w0, I0, []⟩ I1 [] w1 ∧ RepS (dI .u32) w1 I1 u_5 r.Mag
theorem ref02_Floor_ok (n : Nat) : ref02_Floor_S (ref02_Floor n) := by
  intro w0 I0 x_0 v_1 r_2 v_3 r_4 hI r h
  unfold ref02_Floor at h
  refine enter Tryz.func19 rfl (Nat.le_of_ble_eq_true rfl) ?_
  have hp : Hp ⟨w0, I0, []⟩ I0 [] w0 := Hp.start hI
  apply go
  apply go
  refine ev_boxI hp rfl rfl ?_
  intro p_5 I_6 w_7 hp hs a_8
  replace r_2 := r_2.step hs
  replace r_4 := r_4.step hs
  refine ev_alloc hp rfl T24 ?_
  intro g_9 w_a hp hs
  replace a_8 := a_8.step hs
  replace r_2 := r_2.step hs
  replace r_4 := r_4.step hs
  apply go
  apply go
  refine ev (rn_load rfl rfl (run_loadVarA T26 rfl a_8)) ?_
  obtain ⟨x_b, q_c, h⟩ := bind_some h
  refine ev_call rfl rfl C35 (((ref02_Norm_ok n) _ _  (Rational.mk (Int_2.mk x_0.Num.Neg x_0.Num.Mag) (Int_2.mk x_0.Den.Neg x_0.Den.Mag)) v_1 r_2 v_3 r_4 hp.imm _ q_c).mono ?_)
  rintro _ w_d ⟨I_e, v_f, v_g, hv, hq, r_h, r_i⟩
  replace hv := hv.symm
  subst hv
  have hs := hq.st
  have hp := hp.join0 hq
  refine ev_alloc hp rfl T26 ?_
  intro g_j w_k hp hs
  replace r_h := r_h.step hs
  replace r_i := r_i.step hs
  refine ev_storeA hp (i := 0) (off := 0) (vs := [(.bool x_b.Num.Neg), v_f, (.bool x_b.Den.Neg), v_g]) rfl rfl rfl rfl T26 rfl (Nat.le_of_ble_eq_true rfl) (ones_cons rfl (ones_cons r_h.one (ones_cons rfl (ones_cons r_i.one ones_nil)))) ?_
  intro w_l hp hs
  replace r_h := r_h.step hs
  replace r_i := r_i.step hs
  apply go
  apply go
  refine ev0 (rn_field rfl rfl FO26_0) ?_
  refine ev (rn_load rfl rfl (run_loadVarA T24 rfl (((hp.at_ (i := 0) rfl).drop 0).take 2))) ?_
  refine ev0 (rn_field rfl rfl FO26_1) ?_
  refine ev (rn_load rfl rfl (run_loadVarA T24 rfl (((hp.at_ (i := 0) rfl).drop 2).take 2))) ?_
  obtain ⟨x_m, q_n, h⟩ := bind_some h
  refine ev_call rfl rfl C50 (((ref02_part_ok n) _ _  (Int_2.mk x_b.Num.Neg x_b.Num.Mag) v_f r_h (Int_2.mk x_b.Den.Neg x_b.Den.Mag) v_g r_i hp.imm _ q_n).mono ?_)
  rintro _ w_o ⟨I_p, v_q, hv, hq, r_r⟩
  replace hv := hv.symm
  subst hv
  have hs := hq.st
  have hp := hp.join0 hq
  replace r_h := r_h.step hs
  replace r_i := r_i.step hs
  refine ev_storeA hp (i := 1) (off := 0) (vs := [(.bool x_m.Neg), v_q]) rfl rfl rfl rfl T24 rfl (Nat.le_of_ble_eq_true rfl) (ones_cons rfl (ones_cons r_r.one ones_nil)) ?_
  intro w_s hp hs
  replace r_h := r_h.step hs
  replace r_i := r_i.step hs
  replace r_r := r_r.step hs
  apply go
  obtain rfl := Option.some.inj h
  refine ⟨_, run_loadVarA T24 rfl (hp.at_ (i := 1) rfl), ?_⟩
  have hp := hp.sel [] (by decide)
  exact ⟨I_p, v_q, rfl, hp, r_r⟩

end Go.Proofs.YtepadjfmcbjkmaaGreatDoor

namespace Go.Proofs.YtepadjfmcbjkmaaGreatDoor
open Go Go.Proofs.YtepadjfmcbjkmaaGreatDoor.Gw Go.RowKit
set_option linter.unusedVariables false
attribute [local irreducible] Ev EvQ EvS EvH
def ref02_simple_S (f : Rational → Rational → Option Rational) : Prop := ∀ (w0 : World) (I0 : Nat → Prop) (x_0 : Rational) (v_1 : Value) (r_2 : RepS (dI .u32) w0 I0 v_1 x_0.Num.Mag) (v_3 : Value) (r_4 : RepS (dI .u32) w0 I0 v_3 x_0.Den.Mag) (x_5 : Rational) (v_6 : Value) (r_7 : RepS (dI .u32) w0 I0 v_6 x_5.Num.Mag) (v_8 : Value) (r_9 : RepS (dI .u32) w0 I0 v_8 x_5.Den.Mag) (hI : ∀ g, I0 g → g < w0.heap.size) (r : Rational), f x_0 x_5 = some r →
    Ret Tryz.prog 62 #[(.agg #[(.bool x_0.Num.Neg), v_1, (.bool x_0.Den.Neg), v_3]), (.agg #[(.bool x_5.Num.Neg), v_6, (.bool x_5.Den.Neg), v_8])] w0 fun v w1 => ∃ (I1 : Nat → Prop) (u_a : Value) (u_b : Value), v = (.agg #[(.bool r.Num.Neg), u_a, (.bool r.Den.Neg), u_b]) ∧ Hp ⟨w0, I0, []⟩ I1 [] w1 ∧ RepS (dI .u32) w1 I1 u_a r.Num.Mag ∧ RepS (dI .u32) w1 I1 u_b r.Den.Mag
theorem ref02_simple_F_ok (n : Nat) (self : Rational → Rational → Option Rational) (ih : ref02_simple_S self) : ref02_simple_S (ref02_simple_F n self) := by
  intro w0 I0 x_0 v_1 r_2 v_3 r_4 x_5 v_6 r_7 v_8 r_9 hI r h
  unfold ref02_simple_F at h
  refine enter Tryz.func62 rfl (Nat.le_of_ble_eq_true rfl) ?_
  have hp : Hp ⟨w0, I0, []⟩ I0 [] w0 := Hp.start hI
  apply go
  apply go
  refine ev_boxI hp rfl rfl ?_
  intro p_a I_b w_c hp hs a_d
  replace r_7 := r_7.step hs
  replace r_9 := r_9.step hs
  replace r_2 := r_2.step hs
  replace r_4 := r_4.step hs
  refine ev_boxI hp rfl rfl ?_
  intro p_e I_f w_g hp hs a_h
  replace a_d := a_d.step hs
  replace r_2 := r_2.step hs
  replace r_4 := r_4.step hs
  replace r_7 := r_7.step hs
  replace r_9 := r_9.step hs
  refine ev_alloc hp rfl T26 ?_
  intro g_i w_j hp hs
  replace a_d := a_d.step hs
  replace r_2 := r_2.step hs
  replace r_4 := r_4.step hs
  replace a_h := a_h.step hs
  replace r_7 := r_7.step hs
  replace r_9 := r_9.step hs
  apply go
  apply go
  refine ev (rn_load rfl rfl (run_loadVarA T26 rfl a_d)) ?_
  obtain ⟨x_k, q_l, h⟩ := bind_some h
  refine ev_call rfl rfl C19 (((ref02_Floor_ok n) _ _  (Rational.mk (Int_2.mk x_0.Num.Neg x_0.Num.Mag) (Int_2.mk x_0.Den.Neg x_0.Den.Mag)) v_1 r_2 v_3 r_4 hp.imm _ q_l).mono ?_)
  rintro _ w_m ⟨I_n, v_o, hv, hq, r_p⟩
  replace hv := hv.symm
  subst hv
  have hs := hq.st
  have hp := hp.join0 hq
  replace a_d := a_d.step hs
  replace r_2 := r_2.step hs
  replace r_4 := r_4.step hs
  replace a_h := a_h.step hs
  replace r_7 := r_7.step hs
  replace r_9 := r_9.step hs
  obtain ⟨x_q, q_r, h⟩ := bind_some h
  refine ev_call rfl rfl C45 (((ref02_One_ok n) _ _   hp.imm _ q_r).mono ?_)
  rintro _ w_s ⟨I_t, v_u, hv, hq, r_v⟩
  replace hv := hv.symm
  subst hv
  have hs := hq.st
  have hp := hp.join0 hq
  replace a_d := a_d.step hs
  replace r_2 := r_2.step hs
  replace r_4 := r_4.step hs
  replace a_h := a_h.step hs
  replace r_7 := r_7.step hs
  replace r_9 := r_9.step hs
  replace r_p := r_p.step hs
  obtain ⟨x_w, q_x, h⟩ := bind_some h
  refine ev_call rfl rfl C41 (((ref02_New_ok n) _ _  x_k v_o r_p x_q v_u r_v hp.imm _ q_x).mono ?_)
  rintro _ w_y ⟨I_z, v_10, v_11, hv, hq, r_12, r_13⟩
  replace hv := hv.symm
  subst hv
  have hs := hq.st
  have hp := hp.join0 hq
  replace a_d := a_d.step hs
  replace r_2 := r_2.step hs
  replace r_4 := r_4.step hs
  replace a_h := a_h.step hs
  replace r_7 := r_7.step hs
  replace r_9 := r_9.step hs
  refine ev_alloc hp rfl T26 ?_
  intro g_14 w_15 hp hs
  replace a_d := a_d.step hs
  replace r_2 := r_2.step hs
  replace r_4 := r_4.step hs
  replace a_h := a_h.step hs
  replace r_7 := r_7.step hs
  replace r_9 := r_9.step hs
  replace r_12 := r_12.step hs
  replace r_13 := r_13.step hs
  refine ev_storeA hp (i := 0) (off := 0) (vs := [(.bool x_w.Num.Neg), v_10, (.bool x_w.Den.Neg), v_11]) rfl rfl rfl rfl T26 rfl (Nat.le_of_ble_eq_true rfl) (ones_cons rfl (ones_cons r_12.one (ones_cons rfl (ones_cons r_13.one ones_nil)))) ?_
  intro w_16 hp hs
  replace a_d := a_d.step hs
  replace r_2 := r_2.step hs
  replace r_4 := r_4.step hs
  replace a_h := a_h.step hs
  replace r_7 := r_7.step hs
  replace r_9 := r_9.step hs
  replace r_12 := r_12.step hs
  replace r_13 := r_13.step hs
  apply go
  apply go
  apply go
  refine ev (rn_load rfl rfl (run_loadVarA T26 rfl (hp.at_ (i := 0) rfl))) ?_
  refine ev (rn_load rfl rfl (run_loadVarA T26 rfl a_d)) ?_
  obtain ⟨x_17, q_18, h⟩ := bind_some h
  refine ev_call rfl rfl C16 (((ref02_Cmp_ok n) _ _  (Rational.mk (Int_2.mk x_w.Num.Neg x_w.Num.Mag) (Int_2.mk x_w.Den.Neg x_w.Den.Mag)) v_10 r_12 v_11 r_13 (Rational.mk (Int_2.mk x_0.Num.Neg x_0.Num.Mag) (Int_2.mk x_0.Den.Neg x_0.Den.Mag)) v_1 r_2 v_3 r_4 hp.imm _ q_18).mono ?_)
  rintro _ w_19 ⟨rfl, hc⟩
  have hs := hp.stp hc
  replace hp := hp.ext hc
  replace a_d := a_d.step hs
  replace r_2 := r_2.step hs
  replace r_4 := r_4.step hs
  replace a_h := a_h.step hs
  replace r_7 := r_7.step hs
  replace r_9 := r_9.step hs
  replace r_12 := r_12.step hs
  replace r_13 := r_13.step hs
  apply go
  refine sel_of (fun hc => ?_) (fun hc => ?_)
  ·
    have h := cond_t h hc
    apply go
    apply go
    refine ev (rn_load rfl rfl (run_loadVarA T26 rfl (hp.at_ (i := 0) rfl))) ?_
    refine ev_storeA hp (i := 1) (off := 0) (vs := [(.bool x_w.Num.Neg), v_10, (.bool x_w.Den.Neg), v_11]) rfl rfl rfl rfl T26 rfl (Nat.le_of_ble_eq_true rfl) (ones_cons rfl (ones_cons r_12.one (ones_cons rfl (ones_cons r_13.one ones_nil)))) ?_
    intro w_1a hp hs
    replace r_12 := r_12.step hs
    replace r_13 := r_13.step hs
    apply go
    obtain rfl := Option.some.inj h
    refine ⟨_, run_loadVarA T26 rfl (hp.at_ (i := 1) rfl), ?_⟩
    have hp := hp.sel [] (by decide)
    exact ⟨I_z, v_10, v_11, rfl, hp, r_12, r_13⟩
  ·
    have h := cond_f h hc
    apply go
    obtain ⟨y_1b, q_1c, h⟩ := bind_some h
    refine W.cut (γ := (Bool × (List Int) × Bool × (List Int) × Nat × Value × Value × (Nat → Prop))) (fun g => [(2, (.pointer (some (p_a)))), (3, (.pointer (some (p_e)))), (4, (.pointer (some ⟨g_i, 0, none⟩))), (5, (.pointer (some ⟨g_14, 0, none⟩))), (6, (.pointer (some ⟨(g.2.2.2.2.1), 0, none⟩)))]) (fun g w' => y_1b = ((g.1), (g.2.1), (g.2.2.1), (g.2.2.2.1)) ∧ Hp ⟨w0, I0, []⟩ (g.2.2.2.2.2.2.2) [some (g_i, [(.bool false), (.slice none 0 0), (.bool false), (.slice none 0 0)], 26), some (g_14, [(.bool x_w.Num.Neg), v_10, (.bool x_w.Den.Neg), v_11], 26), some ((g.2.2.2.2.1), [(.bool (g.1)), (g.2.2.2.2.2.1), (.bool (g.2.2.1)), (g.2.2.2.2.2.2.1)], 26)] w' ∧ RepS (dI .u32) w' (g.2.2.2.2.2.2.2) v_1 x_0.Num.Mag ∧ RepS (dI .u32) w' (g.2.2.2.2.2.2.2) v_3 x_0.Den.Mag ∧ At w' (g.2.2.2.2.2.2.2) p_a [(.bool x_0.Num.Neg), v_1, (.bool x_0.Den.Neg), v_3] ∧ RepS (dI .u32) w' (g.2.2.2.2.2.2.2) v_6 x_5.Num.Mag ∧ RepS (dI .u32) w' (g.2.2.2.2.2.2.2) v_8 x_5.Den.Mag ∧ At w' (g.2.2.2.2.2.2.2) p_e [(.bool x_5.Num.Neg), v_6, (.bool x_5.Den.Neg), v_8] ∧ RepS (dI .u32) w' (g.2.2.2.2.2.2.2) v_10 x_w.Num.Mag ∧ RepS (dI .u32) w' (g.2.2.2.2.2.2.2) v_11 x_w.Den.Mag ∧ RepS (dI .u32) w' (g.2.2.2.2.2.2.2) (g.2.2.2.2.2.1) (g.2.1) ∧ RepS (dI .u32) w' (g.2.2.2.2.2.2.2) (g.2.2.2.2.2.2.1) (g.2.2.2.1)) ?_ ?_
    ·
      have hs := hp.stp (Ch.drew [] w_19)
      have hp := hp.drew
      replace a_d := a_d.step hs
      replace r_2 := r_2.step hs
      replace r_4 := r_4.step hs
      replace a_h := a_h.step hs
      replace r_7 := r_7.step hs
      replace r_9 := r_9.step hs
      replace r_12 := r_12.step hs
      replace r_13 := r_13.step hs
      refine W.heldG (.q 0 (.l 1 (.l 2 (.l 3 (.l 4 .done .no) .no) (.l 3 (.l 2 (.l 4 .done .no) .no) .no)) (.l 3 (.l 1 (.l 2 (.l 4 .done .no) .no) .no) .no))) (SK (Stp I_z w_19.drew I_z) [(g_14, [(.bool x_w.Num.Neg), v_10, (.bool x_w.Den.Neg), v_11], 26)] [[]]) MX (by kernel_rfl) ⟨Stp.refl _ _, (kp_cons (fun _ => (hp.own 0 _ _ _ rfl).1) kp_nil)⟩ ?_
      have hz := Stp.refl I_z w_19.drew
      refine ⟨SK.same (by kernel_rfl), ?_⟩
      refine evh (fun w' hw => rn_load rfl rfl (run_loadVarA T26 rfl ((S0.keep (p := 0) hw rfl rfl (by kernel_rfl)).at_ (i := 0) rfl))) ?_
      refine ⟨?_, ?_⟩
      ·
        obtain ⟨x_1d, q_1e, q_1c⟩ := bind_some q_1c
        refine ev_call rfl rfl C60 (((ref02_Of_ok n) _ _  1 1 hp.imm _ q_1e).mono ?_)
        rintro _ w_1f ⟨I_1g, v_1h, v_1i, hv, hq, r_1j, r_1k⟩
        replace hv := hv.symm
        subst hv
        have hs := hq.st
        have hp := hp.join0 hq
        replace hz := hz.trans hs
        replace a_d := a_d.step hs
        replace r_2 := r_2.step hs
        replace r_4 := r_4.step hs
        replace a_h := a_h.step hs
        replace r_7 := r_7.step hs
        replace r_9 := r_9.step hs
        replace r_12 := r_12.step hs
        replace r_13 := r_13.step hs
        refine ⟨SK (Stp I_1g w_1f I_1g) [(g_14, [(.bool x_w.Num.Neg), v_10, (.bool x_w.Den.Neg), v_11], 26)] [[]], ⟨Stp.refl _ _, (kp_cons (fun _ => (hp.own 0 _ _ _ rfl).1) kp_nil)⟩, fun L x h => ⟨hz.held h.1, h.2⟩, ?_⟩
        have hz := Stp.refl I_1g w_1f
        refine ⟨?_, ?_⟩
        ·
          obtain ⟨x_1l, q_1m, q_1c⟩ := bind_some q_1c
          refine ev_call rfl rfl C53 (((ref02_Add_ok n) _ _  (Rational.mk (Int_2.mk x_w.Num.Neg x_w.Num.Mag) (Int_2.mk x_w.Den.Neg x_w.Den.Mag)) v_10 r_12 v_11 r_13 x_1d v_1h r_1j v_1i r_1k hp.imm _ q_1m).mono ?_)
          rintro _ w_1n ⟨I_1o, v_1p, v_1q, hv, hq, r_1r, r_1s⟩
          replace hv := hv.symm
          subst hv
          have hs := hq.st
          have hp := hp.join0 hq
          replace hz := hz.trans hs
          replace a_d := a_d.step hs
          replace r_2 := r_2.step hs
          replace r_4 := r_4.step hs
          replace a_h := a_h.step hs
          replace r_7 := r_7.step hs
          replace r_9 := r_9.step hs
          replace r_12 := r_12.step hs
          replace r_13 := r_13.step hs
          refine ⟨SK (Stp I_1o w_1n I_1o) [(g_14, [(.bool x_w.Num.Neg), v_10, (.bool x_w.Den.Neg), v_11], 26)] [[]], ⟨Stp.refl _ _, (kp_cons (fun _ => (hp.own 0 _ _ _ rfl).1) kp_nil)⟩, fun L x h => ⟨hz.held h.1, h.2⟩, ?_⟩
          have hz := Stp.refl I_1o w_1n
          refine ⟨?_, trivial⟩
          refine ev_alloc hp rfl T26 ?_
          intro g_1t w_1u hp hs
          replace hz := hz.trans hs
          replace a_d := a_d.step hs
          replace r_2 := r_2.step hs
          replace r_4 := r_4.step hs
          replace a_h := a_h.step hs
          replace r_7 := r_7.step hs
          replace r_9 := r_9.step hs
          replace r_1r := r_1r.step hs
          replace r_1s := r_1s.step hs
          replace r_12 := r_12.step hs
          replace r_13 := r_13.step hs
          refine ⟨SK (Stp I_1o w_1u I_1o) [(g_14, [(.bool x_w.Num.Neg), v_10, (.bool x_w.Den.Neg), v_11], 26)] [[]], ⟨Stp.refl _ _, (kp_cons (fun _ => (hp.own 1 _ _ _ rfl).1) kp_nil)⟩, fun L x h => ⟨hz.held h.1, h.2⟩, ?_⟩
          have hz := Stp.refl I_1o w_1u
          refine ⟨?_, trivial⟩
          refine ev_storeA hp (i := 0) (off := 0) (vs := [(.bool x_1l.Num.Neg), v_1p, (.bool x_1l.Den.Neg), v_1q]) rfl rfl rfl rfl T26 rfl (Nat.le_of_ble_eq_true rfl) (ones_cons rfl (ones_cons r_1r.one (ones_cons rfl (ones_cons r_1s.one ones_nil)))) ?_
          intro w_1v hp hs
          replace hz := hz.trans hs
          replace a_d := a_d.step hs
          replace r_2 := r_2.step hs
          replace r_4 := r_4.step hs
          replace a_h := a_h.step hs
          replace r_7 := r_7.step hs
          replace r_9 := r_9.step hs
          replace r_1r := r_1r.step hs
          replace r_1s := r_1s.step hs
          replace r_12 := r_12.step hs
          replace r_13 := r_13.step hs
          refine ⟨SK (Stp I_1o w_1v I_1o) [(g_14, [(.bool x_w.Num.Neg), v_10, (.bool x_w.Den.Neg), v_11], 26)] [[]], ⟨Stp.refl _ _, (kp_cons (fun _ => (hp.own 1 _ _ _ rfl).1) kp_nil)⟩, fun L x h => ⟨hz.held h.1, h.2⟩, ?_⟩
          have hz := Stp.refl I_1o w_1v
          obtain rfl := Option.some.inj q_1c
          have hp := hp.perm [2, 1, 0] (by decide)
          exact ⟨(x_1l.Num.Neg, x_1l.Num.Mag, x_1l.Den.Neg, x_1l.Den.Mag, g_1t, v_1p, v_1q, I_1o), (.c rfl (.c rfl (.c rfl (.c rfl (.c rfl .n))))), rfl, hp, r_2, r_4, a_d, r_7, r_9, a_h, r_12, r_13, r_1r, r_1s⟩
        refine ⟨?_, trivial⟩
        refine ev_alloc hp rfl T26 ?_
        intro g_1w w_1x hp hs
        replace hz := hz.trans hs
        replace a_d := a_d.step hs
        replace r_2 := r_2.step hs
        replace r_4 := r_4.step hs
        replace a_h := a_h.step hs
        replace r_7 := r_7.step hs
        replace r_9 := r_9.step hs
        replace r_12 := r_12.step hs
        replace r_13 := r_13.step hs
        replace r_1j := r_1j.step hs
        replace r_1k := r_1k.step hs
        refine ⟨SK (Stp I_1g w_1x I_1g) [(g_14, [(.bool x_w.Num.Neg), v_10, (.bool x_w.Den.Neg), v_11], 26)] [[]], ⟨Stp.refl _ _, (kp_cons (fun _ => (hp.own 1 _ _ _ rfl).1) kp_nil)⟩, fun L x h => ⟨hz.held h.1, h.2⟩, ?_⟩
        have hz := Stp.refl I_1g w_1x
        refine ⟨?_, trivial⟩
        obtain ⟨x_1y, q_1z, q_1c⟩ := bind_some q_1c
        refine ev_call rfl rfl C53 (((ref02_Add_ok n) _ _  (Rational.mk (Int_2.mk x_w.Num.Neg x_w.Num.Mag) (Int_2.mk x_w.Den.Neg x_w.Den.Mag)) v_10 r_12 v_11 r_13 x_1d v_1h r_1j v_1i r_1k hp.imm _ q_1z).mono ?_)
        rintro _ w_20 ⟨I_21, v_22, v_23, hv, hq, r_24, r_25⟩
        replace hv := hv.symm
        subst hv
        have hs := hq.st
        have hp := hp.join0 hq
        replace hz := hz.trans hs
        replace a_d := a_d.step hs
        replace r_2 := r_2.step hs
        replace r_4 := r_4.step hs
        replace a_h := a_h.step hs
        replace r_7 := r_7.step hs
        replace r_9 := r_9.step hs
        replace r_12 := r_12.step hs
        replace r_13 := r_13.step hs
        refine ⟨SK (Stp I_21 w_20 I_21) [(g_14, [(.bool x_w.Num.Neg), v_10, (.bool x_w.Den.Neg), v_11], 26)] [[]], ⟨Stp.refl _ _, (kp_cons (fun _ => (hp.own 1 _ _ _ rfl).1) kp_nil)⟩, fun L x h => ⟨hz.held h.1, h.2⟩, ?_⟩
        have hz := Stp.refl I_21 w_20
        refine ⟨?_, trivial⟩
        refine ev_storeA hp (i := 0) (off := 0) (vs := [(.bool x_1y.Num.Neg), v_22, (.bool x_1y.Den.Neg), v_23]) rfl rfl rfl rfl T26 rfl (Nat.le_of_ble_eq_true rfl) (ones_cons rfl (ones_cons r_24.one (ones_cons rfl (ones_cons r_25.one ones_nil)))) ?_
        intro w_26 hp hs
        replace hz := hz.trans hs
        replace a_d := a_d.step hs
        replace r_2 := r_2.step hs
        replace r_4 := r_4.step hs
        replace a_h := a_h.step hs
        replace r_7 := r_7.step hs
        replace r_9 := r_9.step hs
        replace r_24 := r_24.step hs
        replace r_25 := r_25.step hs
        replace r_12 := r_12.step hs
        replace r_13 := r_13.step hs
        refine ⟨SK (Stp I_21 w_26 I_21) [(g_14, [(.bool x_w.Num.Neg), v_10, (.bool x_w.Den.Neg), v_11], 26)] [[]], ⟨Stp.refl _ _, (kp_cons (fun _ => (hp.own 1 _ _ _ rfl).1) kp_nil)⟩, fun L x h => ⟨hz.held h.1, h.2⟩, ?_⟩
        have hz := Stp.refl I_21 w_26
        obtain rfl := Option.some.inj q_1c
        have hp := hp.perm [2, 1, 0] (by decide)
        exact ⟨(x_1y.Num.Neg, x_1y.Num.Mag, x_1y.Den.Neg, x_1y.Den.Mag, g_1w, v_22, v_23, I_21), (.c rfl (.c rfl (.c rfl (.c rfl (.c rfl .n))))), rfl, hp, r_2, r_4, a_d, r_7, r_9, a_h, r_12, r_13, r_24, r_25⟩
      refine ⟨?_, trivial⟩
      refine ev_alloc hp rfl T26 ?_
      intro g_27 w_28 hp hs
      replace hz := hz.trans hs
      replace a_d := a_d.step hs
      replace r_2 := r_2.step hs
      replace r_4 := r_4.step hs
      replace a_h := a_h.step hs
      replace r_7 := r_7.step hs
      replace r_9 := r_9.step hs
      replace r_12 := r_12.step hs
      replace r_13 := r_13.step hs
      refine ⟨SK (Stp I_z w_28 I_z) [(g_14, [(.bool x_w.Num.Neg), v_10, (.bool x_w.Den.Neg), v_11], 26)] [[]], ⟨Stp.refl _ _, (kp_cons (fun _ => (hp.own 1 _ _ _ rfl).1) kp_nil)⟩, fun L x h => ⟨hz.held h.1, h.2⟩, ?_⟩
      have hz := Stp.refl I_z w_28
      refine ⟨?_, trivial⟩
      obtain ⟨x_29, q_2a, q_1c⟩ := bind_some q_1c
      refine ev_call rfl rfl C60 (((ref02_Of_ok n) _ _  1 1 hp.imm _ q_2a).mono ?_)
      rintro _ w_2b ⟨I_2c, v_2d, v_2e, hv, hq, r_2f, r_2g⟩
      replace hv := hv.symm
      subst hv
      have hs := hq.st
      have hp := hp.join0 hq
      replace hz := hz.trans hs
      replace a_d := a_d.step hs
      replace r_2 := r_2.step hs
      replace r_4 := r_4.step hs
      replace a_h := a_h.step hs
      replace r_7 := r_7.step hs
      replace r_9 := r_9.step hs
      replace r_12 := r_12.step hs
      replace r_13 := r_13.step hs
      refine ⟨SK (Stp I_2c w_2b I_2c) [(g_14, [(.bool x_w.Num.Neg), v_10, (.bool x_w.Den.Neg), v_11], 26)] [[]], ⟨Stp.refl _ _, (kp_cons (fun _ => (hp.own 1 _ _ _ rfl).1) kp_nil)⟩, fun L x h => ⟨hz.held h.1, h.2⟩, ?_⟩
      have hz := Stp.refl I_2c w_2b
      refine ⟨?_, trivial⟩
      obtain ⟨x_2h, q_2i, q_1c⟩ := bind_some q_1c
      refine ev_call rfl rfl C53 (((ref02_Add_ok n) _ _  (Rational.mk (Int_2.mk x_w.Num.Neg x_w.Num.Mag) (Int_2.mk x_w.Den.Neg x_w.Den.Mag)) v_10 r_12 v_11 r_13 x_29 v_2d r_2f v_2e r_2g hp.imm _ q_2i).mono ?_)
      rintro _ w_2j ⟨I_2k, v_2l, v_2m, hv, hq, r_2n, r_2o⟩
      replace hv := hv.symm
      subst hv
      have hs := hq.st
      have hp := hp.join0 hq
      replace hz := hz.trans hs
      replace a_d := a_d.step hs
      replace r_2 := r_2.step hs
      replace r_4 := r_4.step hs
      replace a_h := a_h.step hs
      replace r_7 := r_7.step hs
      replace r_9 := r_9.step hs
      replace r_12 := r_12.step hs
      replace r_13 := r_13.step hs
      refine ⟨SK (Stp I_2k w_2j I_2k) [(g_14, [(.bool x_w.Num.Neg), v_10, (.bool x_w.Den.Neg), v_11], 26)] [[]], ⟨Stp.refl _ _, (kp_cons (fun _ => (hp.own 1 _ _ _ rfl).1) kp_nil)⟩, fun L x h => ⟨hz.held h.1, h.2⟩, ?_⟩
      have hz := Stp.refl I_2k w_2j
      refine ⟨?_, trivial⟩
      refine ev_storeA hp (i := 0) (off := 0) (vs := [(.bool x_2h.Num.Neg), v_2l, (.bool x_2h.Den.Neg), v_2m]) rfl rfl rfl rfl T26 rfl (Nat.le_of_ble_eq_true rfl) (ones_cons rfl (ones_cons r_2n.one (ones_cons rfl (ones_cons r_2o.one ones_nil)))) ?_
      intro w_2p hp hs
      replace hz := hz.trans hs
      replace a_d := a_d.step hs
      replace r_2 := r_2.step hs
      replace r_4 := r_4.step hs
      replace a_h := a_h.step hs
      replace r_7 := r_7.step hs
      replace r_9 := r_9.step hs
      replace r_2n := r_2n.step hs
      replace r_2o := r_2o.step hs
      replace r_12 := r_12.step hs
      replace r_13 := r_13.step hs
      refine ⟨SK (Stp I_2k w_2p I_2k) [(g_14, [(.bool x_w.Num.Neg), v_10, (.bool x_w.Den.Neg), v_11], 26)] [[]], ⟨Stp.refl _ _, (kp_cons (fun _ => (hp.own 1 _ _ _ rfl).1) kp_nil)⟩, fun L x h => ⟨hz.held h.1, h.2⟩, ?_⟩
      have hz := Stp.refl I_2k w_2p
      obtain rfl := Option.some.inj q_1c
      have hp := hp.perm [2, 1, 0] (by decide)
      exact ⟨(x_2h.Num.Neg, x_2h.Num.Mag, x_2h.Den.Neg, x_2h.Den.Mag, g_27, v_2l, v_2m, I_2k), (.c rfl (.c rfl (.c rfl (.c rfl (.c rfl .n))))), rfl, hp, r_2, r_4, a_d, r_7, r_9, a_h, r_12, r_13, r_2n, r_2o⟩
    ·
      rintro ⟨x_2q, x_2r, x_2s, x_2t, g_2u, v_2v, v_2w, I_2x⟩ w_2y ⟨hy, hp, r_2, r_4, a_d, r_7, r_9, a_h, r_12, r_13, r_2z, r_30⟩
      replace hy := hy.symm
      subst hy
      apply go
      apply go
      apply go
      refine ev (rn_load rfl rfl (run_loadVarA T26 rfl (hp.at_ (i := 2) rfl))) ?_
      refine ev (rn_load rfl rfl (run_loadVarA T26 rfl a_h)) ?_
      obtain ⟨x_31, q_32, h⟩ := bind_some h
      refine ev_call rfl rfl C16 (((ref02_Cmp_ok n) _ _  (Rational.mk (Int_2.mk x_2q x_2r) (Int_2.mk x_2s x_2t)) v_2v r_2z v_2w r_30 (Rational.mk (Int_2.mk x_5.Num.Neg x_5.Num.Mag) (Int_2.mk x_5.Den.Neg x_5.Den.Mag)) v_6 r_7 v_8 r_9 hp.imm _ q_32).mono ?_)
      rintro _ w_33 ⟨rfl, hc⟩
      have hs := hp.stp hc
      replace hp := hp.ext hc
      replace a_d := a_d.step hs
      replace r_2 := r_2.step hs
      replace r_4 := r_4.step hs
      replace a_h := a_h.step hs
      replace r_7 := r_7.step hs
      replace r_9 := r_9.step hs
      replace r_12 := r_12.step hs
      replace r_13 := r_13.step hs
      replace r_2z := r_2z.step hs
      replace r_30 := r_30.step hs
      apply go
      refine sel_of (fun hc => ?_) (fun hc => ?_)
      ·
        have h := cond_t h hc
        apply go
        apply go
        refine ev (rn_load rfl rfl (run_loadVarA T26 rfl (hp.at_ (i := 2) rfl))) ?_
        refine ev_storeA hp (i := 0) (off := 0) (vs := [(.bool x_2q), v_2v, (.bool x_2s), v_2w]) rfl rfl rfl rfl T26 rfl (Nat.le_of_ble_eq_true rfl) (ones_cons rfl (ones_cons r_2z.one (ones_cons rfl (ones_cons r_30.one ones_nil)))) ?_
        intro w_34 hp hs
        replace r_2z := r_2z.step hs
        replace r_30 := r_30.step hs
        replace r_12 := r_12.step hs
        replace r_13 := r_13.step hs
        apply go
        obtain rfl := Option.some.inj h
        refine ⟨_, run_loadVarA T26 rfl (hp.at_ (i := 0) rfl), ?_⟩
        have hp := hp.sel [] (by decide)
        exact ⟨I_2x, v_2v, v_2w, rfl, hp, r_2z, r_30⟩
      ·
        have h := cond_f h hc
        apply go
        obtain ⟨y_35, q_36, h⟩ := bind_some h
        refine W.cut (γ := (Bool × (List Int) × Bool × (List Int) × Nat × Value × Value × (Nat → Prop))) (fun g => [(2, (.pointer (some (p_a)))), (4, (.pointer (some ⟨g_i, 0, none⟩))), (5, (.pointer (some ⟨g_14, 0, none⟩))), (7, (.pointer (some ⟨(g.2.2.2.2.1), 0, none⟩)))]) (fun g w' => y_35 = ((g.1), (g.2.1), (g.2.2.1), (g.2.2.2.1)) ∧ Hp ⟨w0, I0, []⟩ (g.2.2.2.2.2.2.2) [some (g_i, [(.bool false), (.slice none 0 0), (.bool false), (.slice none 0 0)], 26), some (g_14, [(.bool x_w.Num.Neg), v_10, (.bool x_w.Den.Neg), v_11], 26), some ((g.2.2.2.2.1), [(.bool (g.1)), (g.2.2.2.2.2.1), (.bool (g.2.2.1)), (g.2.2.2.2.2.2.1)], 26)] w' ∧ RepS (dI .u32) w' (g.2.2.2.2.2.2.2) v_1 x_0.Num.Mag ∧ RepS (dI .u32) w' (g.2.2.2.2.2.2.2) v_3 x_0.Den.Mag ∧ At w' (g.2.2.2.2.2.2.2) p_a [(.bool x_0.Num.Neg), v_1, (.bool x_0.Den.Neg), v_3] ∧ RepS (dI .u32) w' (g.2.2.2.2.2.2.2) v_10 x_w.Num.Mag ∧ RepS (dI .u32) w' (g.2.2.2.2.2.2.2) v_11 x_w.Den.Mag ∧ RepS (dI .u32) w' (g.2.2.2.2.2.2.2) (g.2.2.2.2.2.1) (g.2.1) ∧ RepS (dI .u32) w' (g.2.2.2.2.2.2.2) (g.2.2.2.2.2.2.1) (g.2.2.2.1)) ?_ ?_
        ·
          have hs := hp.stp (Ch.drew [] w_33)
          have hp := hp.drew
          replace a_d := a_d.step hs
          replace r_2 := r_2.step hs
          replace r_4 := r_4.step hs
          replace a_h := a_h.step hs
          replace r_7 := r_7.step hs
          replace r_9 := r_9.step hs
          replace r_12 := r_12.step hs
          replace r_13 := r_13.step hs
          replace r_2z := r_2z.step hs
          replace r_30 := r_30.step hs
          refine W.heldG (.q 1 (.q 2 (.l 0 (.l 3 (.l 4 (.q 5 (.q 6 (.q 7 (.l 8 (.l 9 (.q 10 .done) .no) .no)))) (.l 8 (.l 4 (.q 5 (.q 6 (.q 7 (.l 9 (.q 10 .done) .no)))) .no) .no)) (.l 8 (.l 3 (.l 4 (.q 5 (.q 6 (.q 7 (.l 9 (.q 10 .done) .no)))) .no) .no) .no)) (.l 8 (.l 0 (.l 3 (.l 4 (.q 5 (.q 6 (.q 7 (.l 9 (.q 10 .done) .no)))) .no) .no) .no) .no)))) (SK (Stp I_2x w_33.drew I_2x) [(g_14, [(.bool x_w.Num.Neg), v_10, (.bool x_w.Den.Neg), v_11], 26)] [[]]) MX (by kernel_rfl) ⟨Stp.refl _ _, (kp_cons (fun _ => (hp.own 1 _ _ _ rfl).1) kp_nil)⟩ ?_
          have hz := Stp.refl I_2x w_33.drew
          refine ⟨SK.same (by kernel_rfl), ?_⟩
          refine evh (fun w' hw => rn_load rfl rfl (run_loadVarA T26 rfl (a_h.step (S0.si hw)))) ?_
          refine ⟨SK.same (by kernel_rfl), ?_⟩
          refine evh (fun w' hw => rn_load rfl rfl (run_loadVarA T26 rfl ((S0.keep (p := 0) hw rfl rfl (by kernel_rfl)).at_ (i := 0) rfl))) ?_
          refine ⟨?_, ?_⟩
          ·
            obtain ⟨x_37, q_38, q_36⟩ := bind_some q_36
            refine ev_call rfl rfl C60 (((ref02_Of_ok n) _ _  1 1 hp.imm _ q_38).mono ?_)
            rintro _ w_39 ⟨I_3a, v_3b, v_3c, hv, hq, r_3d, r_3e⟩
            replace hv := hv.symm
            subst hv
            have hs := hq.st
            have hp := hp.join0 hq
            replace hz := hz.trans hs
            replace a_d := a_d.step hs
            replace r_2 := r_2.step hs
            replace r_4 := r_4.step hs
            replace r_7 := r_7.step hs
            replace r_9 := r_9.step hs
            replace r_12 := r_12.step hs
            replace r_13 := r_13.step hs
            replace r_2z := r_2z.step hs
            replace r_30 := r_30.step hs
            refine ⟨SK (Stp I_3a w_39 I_3a) [(g_14, [(.bool x_w.Num.Neg), v_10, (.bool x_w.Den.Neg), v_11], 26)] [[]], ⟨Stp.refl _ _, (kp_cons (fun _ => (hp.own 1 _ _ _ rfl).1) kp_nil)⟩, fun L x h => ⟨hz.held h.1, h.2⟩, ?_⟩
            have hz := Stp.refl I_3a w_39
            refine ⟨?_, ?_⟩
            ·
              obtain ⟨x_3f, q_3g, q_36⟩ := bind_some q_36
              refine ev_call rfl rfl C48 (((ref02_Sub_ok n) _ _  (Rational.mk (Int_2.mk x_5.Num.Neg x_5.Num.Mag) (Int_2.mk x_5.Den.Neg x_5.Den.Mag)) v_6 r_7 v_8 r_9 (Rational.mk (Int_2.mk x_w.Num.Neg x_w.Num.Mag) (Int_2.mk x_w.Den.Neg x_w.Den.Mag)) v_10 r_12 v_11 r_13 hp.imm _ q_3g).mono ?_)
              rintro _ w_3h ⟨I_3i, v_3j, v_3k, hv, hq, r_3l, r_3m⟩
              replace hv := hv.symm
              subst hv
              have hs := hq.st
              have hp := hp.join0 hq
              replace hz := hz.trans hs
              replace a_d := a_d.step hs
              replace r_2 := r_2.step hs
              replace r_4 := r_4.step hs
              replace r_3d := r_3d.step hs
              replace r_3e := r_3e.step hs
              replace r_12 := r_12.step hs
              replace r_13 := r_13.step hs
              replace r_2z := r_2z.step hs
              replace r_30 := r_30.step hs
              refine ⟨SK (Stp I_3i w_3h I_3i) [(g_14, [(.bool x_w.Num.Neg), v_10, (.bool x_w.Den.Neg), v_11], 26)] [[]], ⟨Stp.refl _ _, (kp_cons (fun _ => (hp.own 1 _ _ _ rfl).1) kp_nil)⟩, fun L x h => ⟨hz.held h.1, h.2⟩, ?_⟩
              have hz := Stp.refl I_3i w_3h
              refine ⟨?_, ?_⟩
              ·
                obtain ⟨⟨x_3n, x_3o⟩, q_3p, q_36⟩ := bind_some q_36
                refine ev_call rfl rfl C11 (((ref02_Div_ok n) _ _  x_37 v_3b r_3d v_3c r_3e x_3f v_3j r_3l v_3k r_3m hp.imm _ q_3p).mono ?_)
                rintro _ w_3q ⟨I_3r, v_3s, v_3t, hv, hq, r_3u, r_3v⟩
                replace hv := hv.symm
                subst hv
                have hs := hq.st
                have hp := hp.join0 hq
                replace hz := hz.trans hs
                replace a_d := a_d.step hs
                replace r_2 := r_2.step hs
                replace r_4 := r_4.step hs
                replace r_12 := r_12.step hs
                replace r_13 := r_13.step hs
                replace r_2z := r_2z.step hs
                replace r_30 := r_30.step hs
                refine ⟨SK (Stp I_3r w_3q I_3r) [(g_14, [(.bool x_w.Num.Neg), v_10, (.bool x_w.Den.Neg), v_11], 26)] [[]], ⟨Stp.refl _ _, (kp_cons (fun _ => (hp.own 1 _ _ _ rfl).1) kp_nil)⟩, fun L x h => ⟨hz.held h.1, h.2⟩, ?_⟩
                have hz := Stp.refl I_3r w_3q
                refine ⟨SK.same (by kernel_rfl), ?_⟩
                refine ⟨SK.same (by kernel_rfl), ?_⟩
                refine ⟨SK.same (by kernel_rfl), ?_⟩
                refine ⟨?_, trivial⟩
                refine ev_alloc hp rfl T26 ?_
                intro g_3w w_3x hp hs
                replace hz := hz.trans hs
                replace a_d := a_d.step hs
                replace r_2 := r_2.step hs
                replace r_4 := r_4.step hs
                replace r_3u := r_3u.step hs
                replace r_3v := r_3v.step hs
                replace r_12 := r_12.step hs
                replace r_13 := r_13.step hs
                replace r_2z := r_2z.step hs
                replace r_30 := r_30.step hs
                refine ⟨SK (Stp I_3r w_3x I_3r) [(g_14, [(.bool x_w.Num.Neg), v_10, (.bool x_w.Den.Neg), v_11], 26)] [[]], ⟨Stp.refl _ _, (kp_cons (fun _ => (hp.own 2 _ _ _ rfl).1) kp_nil)⟩, fun L x h => ⟨hz.held h.1, h.2⟩, ?_⟩
                have hz := Stp.refl I_3r w_3x
                refine ⟨?_, trivial⟩
                refine ev_storeA hp (i := 0) (off := 0) (vs := [(.bool x_3n.Num.Neg), v_3s, (.bool x_3n.Den.Neg), v_3t]) rfl rfl rfl rfl T26 rfl (Nat.le_of_ble_eq_true rfl) (ones_cons rfl (ones_cons r_3u.one (ones_cons rfl (ones_cons r_3v.one ones_nil)))) ?_
                intro w_3y hp hs
                replace hz := hz.trans hs
                replace a_d := a_d.step hs
                replace r_2 := r_2.step hs
                replace r_4 := r_4.step hs
                replace r_3u := r_3u.step hs
                replace r_3v := r_3v.step hs
                replace r_12 := r_12.step hs
                replace r_13 := r_13.step hs
                replace r_2z := r_2z.step hs
                replace r_30 := r_30.step hs
                refine ⟨SK (Stp I_3r w_3y I_3r) [(g_14, [(.bool x_w.Num.Neg), v_10, (.bool x_w.Den.Neg), v_11], 26)] [[]], ⟨Stp.refl _ _, (kp_cons (fun _ => (hp.own 2 _ _ _ rfl).1) kp_nil)⟩, fun L x h => ⟨hz.held h.1, h.2⟩, ?_⟩
                have hz := Stp.refl I_3r w_3y
                refine ⟨SK.same (by kernel_rfl), ?_⟩
                obtain rfl := Option.some.inj q_36
                have hp := hp.perm [1, 2, 0] (by decide)
                exact ⟨(x_3n.Num.Neg, x_3n.Num.Mag, x_3n.Den.Neg, x_3n.Den.Mag, g_3w, v_3s, v_3t, I_3r), (.c rfl (.c rfl (.c rfl (.c rfl .n)))), rfl, hp, r_2, r_4, a_d, r_12, r_13, r_3u, r_3v⟩
              refine ⟨?_, trivial⟩
              refine ev_alloc hp rfl T26 ?_
              intro g_3z w_40 hp hs
              replace hz := hz.trans hs
              replace a_d := a_d.step hs
              replace r_2 := r_2.step hs
              replace r_4 := r_4.step hs
              replace r_3d := r_3d.step hs
              replace r_3e := r_3e.step hs
              replace r_3l := r_3l.step hs
              replace r_3m := r_3m.step hs
              replace r_12 := r_12.step hs
              replace r_13 := r_13.step hs
              replace r_2z := r_2z.step hs
              replace r_30 := r_30.step hs
              refine ⟨SK (Stp I_3i w_40 I_3i) [(g_14, [(.bool x_w.Num.Neg), v_10, (.bool x_w.Den.Neg), v_11], 26)] [[]], ⟨Stp.refl _ _, (kp_cons (fun _ => (hp.own 2 _ _ _ rfl).1) kp_nil)⟩, fun L x h => ⟨hz.held h.1, h.2⟩, ?_⟩
              have hz := Stp.refl I_3i w_40
              refine ⟨?_, trivial⟩
              obtain ⟨⟨x_41, x_42⟩, q_43, q_36⟩ := bind_some q_36
              refine ev_call rfl rfl C11 (((ref02_Div_ok n) _ _  x_37 v_3b r_3d v_3c r_3e x_3f v_3j r_3l v_3k r_3m hp.imm _ q_43).mono ?_)
              rintro _ w_44 ⟨I_45, v_46, v_47, hv, hq, r_48, r_49⟩
              replace hv := hv.symm
              subst hv
              have hs := hq.st
              have hp := hp.join0 hq
              replace hz := hz.trans hs
              replace a_d := a_d.step hs
              replace r_2 := r_2.step hs
              replace r_4 := r_4.step hs
              replace r_12 := r_12.step hs
              replace r_13 := r_13.step hs
              replace r_2z := r_2z.step hs
              replace r_30 := r_30.step hs
              refine ⟨SK (Stp I_45 w_44 I_45) [(g_14, [(.bool x_w.Num.Neg), v_10, (.bool x_w.Den.Neg), v_11], 26)] [[]], ⟨Stp.refl _ _, (kp_cons (fun _ => (hp.own 2 _ _ _ rfl).1) kp_nil)⟩, fun L x h => ⟨hz.held h.1, h.2⟩, ?_⟩
              have hz := Stp.refl I_45 w_44
              refine ⟨SK.same (by kernel_rfl), ?_⟩
              refine ⟨SK.same (by kernel_rfl), ?_⟩
              refine ⟨SK.same (by kernel_rfl), ?_⟩
              refine ⟨?_, trivial⟩
              refine ev_storeA hp (i := 0) (off := 0) (vs := [(.bool x_41.Num.Neg), v_46, (.bool x_41.Den.Neg), v_47]) rfl rfl rfl rfl T26 rfl (Nat.le_of_ble_eq_true rfl) (ones_cons rfl (ones_cons r_48.one (ones_cons rfl (ones_cons r_49.one ones_nil)))) ?_
              intro w_4a hp hs
              replace hz := hz.trans hs
              replace a_d := a_d.step hs
              replace r_2 := r_2.step hs
              replace r_4 := r_4.step hs
              replace r_48 := r_48.step hs
              replace r_49 := r_49.step hs
              replace r_12 := r_12.step hs
              replace r_13 := r_13.step hs
              replace r_2z := r_2z.step hs
              replace r_30 := r_30.step hs
              refine ⟨SK (Stp I_45 w_4a I_45) [(g_14, [(.bool x_w.Num.Neg), v_10, (.bool x_w.Den.Neg), v_11], 26)] [[]], ⟨Stp.refl _ _, (kp_cons (fun _ => (hp.own 2 _ _ _ rfl).1) kp_nil)⟩, fun L x h => ⟨hz.held h.1, h.2⟩, ?_⟩
              have hz := Stp.refl I_45 w_4a
              refine ⟨SK.same (by kernel_rfl), ?_⟩
              obtain rfl := Option.some.inj q_36
              have hp := hp.perm [1, 2, 0] (by decide)
              exact ⟨(x_41.Num.Neg, x_41.Num.Mag, x_41.Den.Neg, x_41.Den.Mag, g_3z, v_46, v_47, I_45), (.c rfl (.c rfl (.c rfl (.c rfl .n)))), rfl, hp, r_2, r_4, a_d, r_12, r_13, r_48, r_49⟩
            refine ⟨?_, trivial⟩
            refine ev_alloc hp rfl T26 ?_
            intro g_4b w_4c hp hs
            replace hz := hz.trans hs
            replace a_d := a_d.step hs
            replace r_2 := r_2.step hs
            replace r_4 := r_4.step hs
            replace r_7 := r_7.step hs
            replace r_9 := r_9.step hs
            replace r_12 := r_12.step hs
            replace r_13 := r_13.step hs
            replace r_3d := r_3d.step hs
            replace r_3e := r_3e.step hs
            replace r_2z := r_2z.step hs
            replace r_30 := r_30.step hs
            refine ⟨SK (Stp I_3a w_4c I_3a) [(g_14, [(.bool x_w.Num.Neg), v_10, (.bool x_w.Den.Neg), v_11], 26)] [[]], ⟨Stp.refl _ _, (kp_cons (fun _ => (hp.own 2 _ _ _ rfl).1) kp_nil)⟩, fun L x h => ⟨hz.held h.1, h.2⟩, ?_⟩
            have hz := Stp.refl I_3a w_4c
            refine ⟨?_, trivial⟩
            obtain ⟨x_4d, q_4e, q_36⟩ := bind_some q_36
            refine ev_call rfl rfl C48 (((ref02_Sub_ok n) _ _  (Rational.mk (Int_2.mk x_5.Num.Neg x_5.Num.Mag) (Int_2.mk x_5.Den.Neg x_5.Den.Mag)) v_6 r_7 v_8 r_9 (Rational.mk (Int_2.mk x_w.Num.Neg x_w.Num.Mag) (Int_2.mk x_w.Den.Neg x_w.Den.Mag)) v_10 r_12 v_11 r_13 hp.imm _ q_4e).mono ?_)
            rintro _ w_4f ⟨I_4g, v_4h, v_4i, hv, hq, r_4j, r_4k⟩
            replace hv := hv.symm
            subst hv
            have hs := hq.st
            have hp := hp.join0 hq
            replace hz := hz.trans hs
            replace a_d := a_d.step hs
            replace r_2 := r_2.step hs
            replace r_4 := r_4.step hs
            replace r_3d := r_3d.step hs
            replace r_3e := r_3e.step hs
            replace r_12 := r_12.step hs
            replace r_13 := r_13.step hs
            replace r_2z := r_2z.step hs
            replace r_30 := r_30.step hs
            refine ⟨SK (Stp I_4g w_4f I_4g) [(g_14, [(.bool x_w.Num.Neg), v_10, (.bool x_w.Den.Neg), v_11], 26)] [[]], ⟨Stp.refl _ _, (kp_cons (fun _ => (hp.own 2 _ _ _ rfl).1) kp_nil)⟩, fun L x h => ⟨hz.held h.1, h.2⟩, ?_⟩
            have hz := Stp.refl I_4g w_4f
            refine ⟨?_, trivial⟩
            obtain ⟨⟨x_4l, x_4m⟩, q_4n, q_36⟩ := bind_some q_36
            refine ev_call rfl rfl C11 (((ref02_Div_ok n) _ _  x_37 v_3b r_3d v_3c r_3e x_4d v_4h r_4j v_4i r_4k hp.imm _ q_4n).mono ?_)
            rintro _ w_4o ⟨I_4p, v_4q, v_4r, hv, hq, r_4s, r_4t⟩
            replace hv := hv.symm
            subst hv
            have hs := hq.st
            have hp := hp.join0 hq
            replace hz := hz.trans hs
            replace a_d := a_d.step hs
            replace r_2 := r_2.step hs
            replace r_4 := r_4.step hs
            replace r_12 := r_12.step hs
            replace r_13 := r_13.step hs
            replace r_2z := r_2z.step hs
            replace r_30 := r_30.step hs
            refine ⟨SK (Stp I_4p w_4o I_4p) [(g_14, [(.bool x_w.Num.Neg), v_10, (.bool x_w.Den.Neg), v_11], 26)] [[]], ⟨Stp.refl _ _, (kp_cons (fun _ => (hp.own 2 _ _ _ rfl).1) kp_nil)⟩, fun L x h => ⟨hz.held h.1, h.2⟩, ?_⟩
            have hz := Stp.refl I_4p w_4o
            refine ⟨SK.same (by kernel_rfl), ?_⟩
            refine ⟨SK.same (by kernel_rfl), ?_⟩
            refine ⟨SK.same (by kernel_rfl), ?_⟩
            refine ⟨?_, trivial⟩
            refine ev_storeA hp (i := 0) (off := 0) (vs := [(.bool x_4l.Num.Neg), v_4q, (.bool x_4l.Den.Neg), v_4r]) rfl rfl rfl rfl T26 rfl (Nat.le_of_ble_eq_true rfl) (ones_cons rfl (ones_cons r_4s.one (ones_cons rfl (ones_cons r_4t.one ones_nil)))) ?_
            intro w_4u hp hs
            replace hz := hz.trans hs
            replace a_d := a_d.step hs
            replace r_2 := r_2.step hs
            replace r_4 := r_4.step hs
            replace r_4s := r_4s.step hs
            replace r_4t := r_4t.step hs
            replace r_12 := r_12.step hs
            replace r_13 := r_13.step hs
            replace r_2z := r_2z.step hs
            replace r_30 := r_30.step hs
            refine ⟨SK (Stp I_4p w_4u I_4p) [(g_14, [(.bool x_w.Num.Neg), v_10, (.bool x_w.Den.Neg), v_11], 26)] [[]], ⟨Stp.refl _ _, (kp_cons (fun _ => (hp.own 2 _ _ _ rfl).1) kp_nil)⟩, fun L x h => ⟨hz.held h.1, h.2⟩, ?_⟩
            have hz := Stp.refl I_4p w_4u
            refine ⟨SK.same (by kernel_rfl), ?_⟩
            obtain rfl := Option.some.inj q_36
            have hp := hp.perm [1, 2, 0] (by decide)
            exact ⟨(x_4l.Num.Neg, x_4l.Num.Mag, x_4l.Den.Neg, x_4l.Den.Mag, g_4b, v_4q, v_4r, I_4p), (.c rfl (.c rfl (.c rfl (.c rfl .n)))), rfl, hp, r_2, r_4, a_d, r_12, r_13, r_4s, r_4t⟩
          refine ⟨?_, trivial⟩
          refine ev_alloc hp rfl T26 ?_
          intro g_4v w_4w hp hs
          replace hz := hz.trans hs
          replace a_d := a_d.step hs
          replace r_2 := r_2.step hs
          replace r_4 := r_4.step hs
          replace r_7 := r_7.step hs
          replace r_9 := r_9.step hs
          replace r_12 := r_12.step hs
          replace r_13 := r_13.step hs
          replace r_2z := r_2z.step hs
          replace r_30 := r_30.step hs
          refine ⟨SK (Stp I_2x w_4w I_2x) [(g_14, [(.bool x_w.Num.Neg), v_10, (.bool x_w.Den.Neg), v_11], 26)] [[]], ⟨Stp.refl _ _, (kp_cons (fun _ => (hp.own 2 _ _ _ rfl).1) kp_nil)⟩, fun L x h => ⟨hz.held h.1, h.2⟩, ?_⟩
          have hz := Stp.refl I_2x w_4w
          refine ⟨?_, trivial⟩
          obtain ⟨x_4x, q_4y, q_36⟩ := bind_some q_36
          refine ev_call rfl rfl C60 (((ref02_Of_ok n) _ _  1 1 hp.imm _ q_4y).mono ?_)
          rintro _ w_4z ⟨I_50, v_51, v_52, hv, hq, r_53, r_54⟩
          replace hv := hv.symm
          subst hv
          have hs := hq.st
          have hp := hp.join0 hq
          replace hz := hz.trans hs
          replace a_d := a_d.step hs
          replace r_2 := r_2.step hs
          replace r_4 := r_4.step hs
          replace r_7 := r_7.step hs
          replace r_9 := r_9.step hs
          replace r_12 := r_12.step hs
          replace r_13 := r_13.step hs
          replace r_2z := r_2z.step hs
          replace r_30 := r_30.step hs
          refine ⟨SK (Stp I_50 w_4z I_50) [(g_14, [(.bool x_w.Num.Neg), v_10, (.bool x_w.Den.Neg), v_11], 26)] [[]], ⟨Stp.refl _ _, (kp_cons (fun _ => (hp.own 2 _ _ _ rfl).1) kp_nil)⟩, fun L x h => ⟨hz.held h.1, h.2⟩, ?_⟩
          have hz := Stp.refl I_50 w_4z
          refine ⟨?_, trivial⟩
          obtain ⟨x_55, q_56, q_36⟩ := bind_some q_36
          refine ev_call rfl rfl C48 (((ref02_Sub_ok n) _ _  (Rational.mk (Int_2.mk x_5.Num.Neg x_5.Num.Mag) (Int_2.mk x_5.Den.Neg x_5.Den.Mag)) v_6 r_7 v_8 r_9 (Rational.mk (Int_2.mk x_w.Num.Neg x_w.Num.Mag) (Int_2.mk x_w.Den.Neg x_w.Den.Mag)) v_10 r_12 v_11 r_13 hp.imm _ q_56).mono ?_)
          rintro _ w_57 ⟨I_58, v_59, v_5a, hv, hq, r_5b, r_5c⟩
          replace hv := hv.symm
          subst hv
          have hs := hq.st
          have hp := hp.join0 hq
          replace hz := hz.trans hs
          replace a_d := a_d.step hs
          replace r_2 := r_2.step hs
          replace r_4 := r_4.step hs
          replace r_53 := r_53.step hs
          replace r_54 := r_54.step hs
          replace r_12 := r_12.step hs
          replace r_13 := r_13.step hs
          replace r_2z := r_2z.step hs
          replace r_30 := r_30.step hs
          refine ⟨SK (Stp I_58 w_57 I_58) [(g_14, [(.bool x_w.Num.Neg), v_10, (.bool x_w.Den.Neg), v_11], 26)] [[]], ⟨Stp.refl _ _, (kp_cons (fun _ => (hp.own 2 _ _ _ rfl).1) kp_nil)⟩, fun L x h => ⟨hz.held h.1, h.2⟩, ?_⟩
          have hz := Stp.refl I_58 w_57
          refine ⟨?_, trivial⟩
          obtain ⟨⟨x_5d, x_5e⟩, q_5f, q_36⟩ := bind_some q_36
          refine ev_call rfl rfl C11 (((ref02_Div_ok n) _ _  x_4x v_51 r_53 v_52 r_54 x_55 v_59 r_5b v_5a r_5c hp.imm _ q_5f).mono ?_)
          rintro _ w_5g ⟨I_5h, v_5i, v_5j, hv, hq, r_5k, r_5l⟩
          replace hv := hv.symm
          subst hv
          have hs := hq.st
          have hp := hp.join0 hq
          replace hz := hz.trans hs
          replace a_d := a_d.step hs
          replace r_2 := r_2.step hs
          replace r_4 := r_4.step hs
          replace r_12 := r_12.step hs
          replace r_13 := r_13.step hs
          replace r_2z := r_2z.step hs
          replace r_30 := r_30.step hs
          refine ⟨SK (Stp I_5h w_5g I_5h) [(g_14, [(.bool x_w.Num.Neg), v_10, (.bool x_w.Den.Neg), v_11], 26)] [[]], ⟨Stp.refl _ _, (kp_cons (fun _ => (hp.own 2 _ _ _ rfl).1) kp_nil)⟩, fun L x h => ⟨hz.held h.1, h.2⟩, ?_⟩
          have hz := Stp.refl I_5h w_5g
          refine ⟨SK.same (by kernel_rfl), ?_⟩
          refine ⟨SK.same (by kernel_rfl), ?_⟩
          refine ⟨SK.same (by kernel_rfl), ?_⟩
          refine ⟨?_, trivial⟩
          refine ev_storeA hp (i := 0) (off := 0) (vs := [(.bool x_5d.Num.Neg), v_5i, (.bool x_5d.Den.Neg), v_5j]) rfl rfl rfl rfl T26 rfl (Nat.le_of_ble_eq_true rfl) (ones_cons rfl (ones_cons r_5k.one (ones_cons rfl (ones_cons r_5l.one ones_nil)))) ?_
          intro w_5m hp hs
          replace hz := hz.trans hs
          replace a_d := a_d.step hs
          replace r_2 := r_2.step hs
          replace r_4 := r_4.step hs
          replace r_5k := r_5k.step hs
          replace r_5l := r_5l.step hs
          replace r_12 := r_12.step hs
          replace r_13 := r_13.step hs
          replace r_2z := r_2z.step hs
          replace r_30 := r_30.step hs
          refine ⟨SK (Stp I_5h w_5m I_5h) [(g_14, [(.bool x_w.Num.Neg), v_10, (.bool x_w.Den.Neg), v_11], 26)] [[]], ⟨Stp.refl _ _, (kp_cons (fun _ => (hp.own 2 _ _ _ rfl).1) kp_nil)⟩, fun L x h => ⟨hz.held h.1, h.2⟩, ?_⟩
          have hz := Stp.refl I_5h w_5m
          refine ⟨SK.same (by kernel_rfl), ?_⟩
          obtain rfl := Option.some.inj q_36
          have hp := hp.perm [1, 2, 0] (by decide)
          exact ⟨(x_5d.Num.Neg, x_5d.Num.Mag, x_5d.Den.Neg, x_5d.Den.Mag, g_4v, v_5i, v_5j, I_5h), (.c rfl (.c rfl (.c rfl (.c rfl .n)))), rfl, hp, r_2, r_4, a_d, r_12, r_13, r_5k, r_5l⟩
        ·
          rintro ⟨x_5n, x_5o, x_5p, x_5q, g_5r, v_5s, v_5t, I_5u⟩ w_5v ⟨hy, hp, r_2, r_4, a_d, r_12, r_13, r_5w, r_5x⟩
          replace hy := hy.symm
          subst hy
          obtain ⟨y_5y, q_5z, h⟩ := bind_some h
          refine W.cut (γ := (Bool × (List Int) × Bool × (List Int) × Nat × Value × Value × (Nat → Prop))) (fun g => [(4, (.pointer (some ⟨g_i, 0, none⟩))), (5, (.pointer (some ⟨g_14, 0, none⟩))), (7, (.pointer (some ⟨g_5r, 0, none⟩))), (9, (.pointer (some ⟨(g.2.2.2.2.1), 0, none⟩)))]) (fun g w' => y_5y = ((g.1), (g.2.1), (g.2.2.1), (g.2.2.2.1)) ∧ Hp ⟨w0, I0, []⟩ (g.2.2.2.2.2.2.2) [some (g_i, [(.bool false), (.slice none 0 0), (.bool false), (.slice none 0 0)], 26), some (g_14, [(.bool x_w.Num.Neg), v_10, (.bool x_w.Den.Neg), v_11], 26), some (g_5r, [(.bool x_5n), v_5s, (.bool x_5p), v_5t], 26), some ((g.2.2.2.2.1), [(.bool (g.1)), (g.2.2.2.2.2.1), (.bool (g.2.2.1)), (g.2.2.2.2.2.2.1)], 26)] w' ∧ RepS (dI .u32) w' (g.2.2.2.2.2.2.2) v_10 x_w.Num.Mag ∧ RepS (dI .u32) w' (g.2.2.2.2.2.2.2) v_11 x_w.Den.Mag ∧ RepS (dI .u32) w' (g.2.2.2.2.2.2.2) v_5s x_5o ∧ RepS (dI .u32) w' (g.2.2.2.2.2.2.2) v_5t x_5q ∧ RepS (dI .u32) w' (g.2.2.2.2.2.2.2) (g.2.2.2.2.2.1) (g.2.1) ∧ RepS (dI .u32) w' (g.2.2.2.2.2.2.2) (g.2.2.2.2.2.2.1) (g.2.2.2.1)) ?_ ?_
          ·
            have hs := hp.stp (Ch.drew [] w_5v)
            have hp := hp.drew
            replace a_d := a_d.step hs
            replace r_2 := r_2.step hs
            replace r_4 := r_4.step hs
            replace r_12 := r_12.step hs
            replace r_13 := r_13.step hs
            replace r_5w := r_5w.step hs
            replace r_5x := r_5x.step hs
            refine W.heldG (.q 1 (.q 2 (.l 0 (.l 3 (.l 4 (.q 5 (.q 6 (.q 7 (.l 8 (.l 9 (.q 10 .done) .no) .no)))) (.l 8 (.l 4 (.q 5 (.q 6 (.q 7 (.l 9 (.q 10 .done) .no)))) .no) .no)) (.l 8 (.l 3 (.l 4 (.q 5 (.q 6 (.q 7 (.l 9 (.q 10 .done) .no)))) .no) .no) .no)) (.l 8 (.l 0 (.l 3 (.l 4 (.q 5 (.q 6 (.q 7 (.l 9 (.q 10 .done) .no)))) .no) .no) .no) .no)))) (SK (Stp I_5u w_5v.drew I_5u) [(g_14, [(.bool x_w.Num.Neg), v_10, (.bool x_w.Den.Neg), v_11], 26)] [[]]) MX (by kernel_rfl) ⟨Stp.refl _ _, (kp_cons (fun _ => (hp.own 1 _ _ _ rfl).1) kp_nil)⟩ ?_
            have hz := Stp.refl I_5u w_5v.drew
            refine ⟨SK.same (by kernel_rfl), ?_⟩
            refine evh (fun w' hw => rn_load rfl rfl (run_loadVarA T26 rfl (a_d.step (S0.si hw)))) ?_
            refine ⟨SK.same (by kernel_rfl), ?_⟩
            refine evh (fun w' hw => rn_load rfl rfl (run_loadVarA T26 rfl ((S0.keep (p := 0) hw rfl rfl (by kernel_rfl)).at_ (i := 0) rfl))) ?_
            refine ⟨?_, ?_⟩
            ·
              obtain ⟨x_60, q_61, q_5z⟩ := bind_some q_5z
              refine ev_call rfl rfl C60 (((ref02_Of_ok n) _ _  1 1 hp.imm _ q_61).mono ?_)
              rintro _ w_62 ⟨I_63, v_64, v_65, hv, hq, r_66, r_67⟩
              replace hv := hv.symm
              subst hv
              have hs := hq.st
              have hp := hp.join0 hq
              replace hz := hz.trans hs
              replace r_2 := r_2.step hs
              replace r_4 := r_4.step hs
              replace r_12 := r_12.step hs
              replace r_13 := r_13.step hs
              replace r_5w := r_5w.step hs
              replace r_5x := r_5x.step hs
              refine ⟨SK (Stp I_63 w_62 I_63) [(g_14, [(.bool x_w.Num.Neg), v_10, (.bool x_w.Den.Neg), v_11], 26)] [[]], ⟨Stp.refl _ _, (kp_cons (fun _ => (hp.own 1 _ _ _ rfl).1) kp_nil)⟩, fun L x h => ⟨hz.held h.1, h.2⟩, ?_⟩
              have hz := Stp.refl I_63 w_62
              refine ⟨?_, ?_⟩
              ·
                obtain ⟨x_68, q_69, q_5z⟩ := bind_some q_5z
                refine ev_call rfl rfl C48 (((ref02_Sub_ok n) _ _  (Rational.mk (Int_2.mk x_0.Num.Neg x_0.Num.Mag) (Int_2.mk x_0.Den.Neg x_0.Den.Mag)) v_1 r_2 v_3 r_4 (Rational.mk (Int_2.mk x_w.Num.Neg x_w.Num.Mag) (Int_2.mk x_w.Den.Neg x_w.Den.Mag)) v_10 r_12 v_11 r_13 hp.imm _ q_69).mono ?_)
                rintro _ w_6a ⟨I_6b, v_6c, v_6d, hv, hq, r_6e, r_6f⟩
                replace hv := hv.symm
                subst hv
                have hs := hq.st
                have hp := hp.join0 hq
                replace hz := hz.trans hs
                replace r_66 := r_66.step hs
                replace r_67 := r_67.step hs
                replace r_12 := r_12.step hs
                replace r_13 := r_13.step hs
                replace r_5w := r_5w.step hs
                replace r_5x := r_5x.step hs
                refine ⟨SK (Stp I_6b w_6a I_6b) [(g_14, [(.bool x_w.Num.Neg), v_10, (.bool x_w.Den.Neg), v_11], 26)] [[]], ⟨Stp.refl _ _, (kp_cons (fun _ => (hp.own 1 _ _ _ rfl).1) kp_nil)⟩, fun L x h => ⟨hz.held h.1, h.2⟩, ?_⟩
                have hz := Stp.refl I_6b w_6a
                refine ⟨?_, ?_⟩
                ·
                  obtain ⟨⟨x_6g, x_6h⟩, q_6i, q_5z⟩ := bind_some q_5z
                  refine ev_call rfl rfl C11 (((ref02_Div_ok n) _ _  x_60 v_64 r_66 v_65 r_67 x_68 v_6c r_6e v_6d r_6f hp.imm _ q_6i).mono ?_)
                  rintro _ w_6j ⟨I_6k, v_6l, v_6m, hv, hq, r_6n, r_6o⟩
                  replace hv := hv.symm
                  subst hv
                  have hs := hq.st
                  have hp := hp.join0 hq
                  replace hz := hz.trans hs
                  replace r_12 := r_12.step hs
                  replace r_13 := r_13.step hs
                  replace r_5w := r_5w.step hs
                  replace r_5x := r_5x.step hs
                  refine ⟨SK (Stp I_6k w_6j I_6k) [(g_14, [(.bool x_w.Num.Neg), v_10, (.bool x_w.Den.Neg), v_11], 26)] [[]], ⟨Stp.refl _ _, (kp_cons (fun _ => (hp.own 1 _ _ _ rfl).1) kp_nil)⟩, fun L x h => ⟨hz.held h.1, h.2⟩, ?_⟩
                  have hz := Stp.refl I_6k w_6j
                  refine ⟨SK.same (by kernel_rfl), ?_⟩
                  refine ⟨SK.same (by kernel_rfl), ?_⟩
                  refine ⟨SK.same (by kernel_rfl), ?_⟩
                  refine ⟨?_, trivial⟩
                  refine ev_alloc hp rfl T26 ?_
                  intro g_6p w_6q hp hs
                  replace hz := hz.trans hs
                  replace r_6n := r_6n.step hs
                  replace r_6o := r_6o.step hs
                  replace r_12 := r_12.step hs
                  replace r_13 := r_13.step hs
                  replace r_5w := r_5w.step hs
                  replace r_5x := r_5x.step hs
                  refine ⟨SK (Stp I_6k w_6q I_6k) [(g_14, [(.bool x_w.Num.Neg), v_10, (.bool x_w.Den.Neg), v_11], 26)] [[]], ⟨Stp.refl _ _, (kp_cons (fun _ => (hp.own 2 _ _ _ rfl).1) kp_nil)⟩, fun L x h => ⟨hz.held h.1, h.2⟩, ?_⟩
                  have hz := Stp.refl I_6k w_6q
                  refine ⟨?_, trivial⟩
                  refine ev_storeA hp (i := 0) (off := 0) (vs := [(.bool x_6g.Num.Neg), v_6l, (.bool x_6g.Den.Neg), v_6m]) rfl rfl rfl rfl T26 rfl (Nat.le_of_ble_eq_true rfl) (ones_cons rfl (ones_cons r_6n.one (ones_cons rfl (ones_cons r_6o.one ones_nil)))) ?_
                  intro w_6r hp hs
                  replace hz := hz.trans hs
                  replace r_6n := r_6n.step hs
                  replace r_6o := r_6o.step hs
                  replace r_12 := r_12.step hs
                  replace r_13 := r_13.step hs
                  replace r_5w := r_5w.step hs
                  replace r_5x := r_5x.step hs
                  refine ⟨SK (Stp I_6k w_6r I_6k) [(g_14, [(.bool x_w.Num.Neg), v_10, (.bool x_w.Den.Neg), v_11], 26)] [[]], ⟨Stp.refl _ _, (kp_cons (fun _ => (hp.own 2 _ _ _ rfl).1) kp_nil)⟩, fun L x h => ⟨hz.held h.1, h.2⟩, ?_⟩
                  have hz := Stp.refl I_6k w_6r
                  refine ⟨SK.same (by kernel_rfl), ?_⟩
                  obtain rfl := Option.some.inj q_5z
                  have hp := hp.perm [1, 2, 3, 0] (by decide)
                  exact ⟨(x_6g.Num.Neg, x_6g.Num.Mag, x_6g.Den.Neg, x_6g.Den.Mag, g_6p, v_6l, v_6m, I_6k), (.c rfl (.c rfl (.c rfl (.c rfl .n)))), rfl, hp, r_12, r_13, r_5w, r_5x, r_6n, r_6o⟩
                refine ⟨?_, trivial⟩
                refine ev_alloc hp rfl T26 ?_
                intro g_6s w_6t hp hs
                replace hz := hz.trans hs
                replace r_66 := r_66.step hs
                replace r_67 := r_67.step hs
                replace r_6e := r_6e.step hs
                replace r_6f := r_6f.step hs
                replace r_12 := r_12.step hs
                replace r_13 := r_13.step hs
                replace r_5w := r_5w.step hs
                replace r_5x := r_5x.step hs
                refine ⟨SK (Stp I_6b w_6t I_6b) [(g_14, [(.bool x_w.Num.Neg), v_10, (.bool x_w.Den.Neg), v_11], 26)] [[]], ⟨Stp.refl _ _, (kp_cons (fun _ => (hp.own 2 _ _ _ rfl).1) kp_nil)⟩, fun L x h => ⟨hz.held h.1, h.2⟩, ?_⟩
                have hz := Stp.refl I_6b w_6t
                refine ⟨?_, trivial⟩
                obtain ⟨⟨x_6u, x_6v⟩, q_6w, q_5z⟩ := bind_some q_5z
                refine ev_call rfl rfl C11 (((ref02_Div_ok n) _ _  x_60 v_64 r_66 v_65 r_67 x_68 v_6c r_6e v_6d r_6f hp.imm _ q_6w).mono ?_)
                rintro _ w_6x ⟨I_6y, v_6z, v_70, hv, hq, r_71, r_72⟩
                replace hv := hv.symm
                subst hv
                have hs := hq.st
                have hp := hp.join0 hq
                replace hz := hz.trans hs
                replace r_12 := r_12.step hs
                replace r_13 := r_13.step hs
                replace r_5w := r_5w.step hs
                replace r_5x := r_5x.step hs
                refine ⟨SK (Stp I_6y w_6x I_6y) [(g_14, [(.bool x_w.Num.Neg), v_10, (.bool x_w.Den.Neg), v_11], 26)] [[]], ⟨Stp.refl _ _, (kp_cons (fun _ => (hp.own 2 _ _ _ rfl).1) kp_nil)⟩, fun L x h => ⟨hz.held h.1, h.2⟩, ?_⟩
                have hz := Stp.refl I_6y w_6x
                refine ⟨SK.same (by kernel_rfl), ?_⟩
                refine ⟨SK.same (by kernel_rfl), ?_⟩
                refine ⟨SK.same (by kernel_rfl), ?_⟩
                refine ⟨?_, trivial⟩
                refine ev_storeA hp (i := 0) (off := 0) (vs := [(.bool x_6u.Num.Neg), v_6z, (.bool x_6u.Den.Neg), v_70]) rfl rfl rfl rfl T26 rfl (Nat.le_of_ble_eq_true rfl) (ones_cons rfl (ones_cons r_71.one (ones_cons rfl (ones_cons r_72.one ones_nil)))) ?_
                intro w_73 hp hs
                replace hz := hz.trans hs
                replace r_71 := r_71.step hs
                replace r_72 := r_72.step hs
                replace r_12 := r_12.step hs
                replace r_13 := r_13.step hs
                replace r_5w := r_5w.step hs
                replace r_5x := r_5x.step hs
                refine ⟨SK (Stp I_6y w_73 I_6y) [(g_14, [(.bool x_w.Num.Neg), v_10, (.bool x_w.Den.Neg), v_11], 26)] [[]], ⟨Stp.refl _ _, (kp_cons (fun _ => (hp.own 2 _ _ _ rfl).1) kp_nil)⟩, fun L x h => ⟨hz.held h.1, h.2⟩, ?_⟩
                have hz := Stp.refl I_6y w_73
                refine ⟨SK.same (by kernel_rfl), ?_⟩
                obtain rfl := Option.some.inj q_5z
                have hp := hp.perm [1, 2, 3, 0] (by decide)
                exact ⟨(x_6u.Num.Neg, x_6u.Num.Mag, x_6u.Den.Neg, x_6u.Den.Mag, g_6s, v_6z, v_70, I_6y), (.c rfl (.c rfl (.c rfl (.c rfl .n)))), rfl, hp, r_12, r_13, r_5w, r_5x, r_71, r_72⟩
              refine ⟨?_, trivial⟩
              refine ev_alloc hp rfl T26 ?_
              intro g_74 w_75 hp hs
              replace hz := hz.trans hs
              replace r_2 := r_2.step hs
              replace r_4 := r_4.step hs
              replace r_12 := r_12.step hs
              replace r_13 := r_13.step hs
              replace r_66 := r_66.step hs
              replace r_67 := r_67.step hs
              replace r_5w := r_5w.step hs
              replace r_5x := r_5x.step hs
              refine ⟨SK (Stp I_63 w_75 I_63) [(g_14, [(.bool x_w.Num.Neg), v_10, (.bool x_w.Den.Neg), v_11], 26)] [[]], ⟨Stp.refl _ _, (kp_cons (fun _ => (hp.own 2 _ _ _ rfl).1) kp_nil)⟩, fun L x h => ⟨hz.held h.1, h.2⟩, ?_⟩
              have hz := Stp.refl I_63 w_75
              refine ⟨?_, trivial⟩
              obtain ⟨x_76, q_77, q_5z⟩ := bind_some q_5z
              refine ev_call rfl rfl C48 (((ref02_Sub_ok n) _ _  (Rational.mk (Int_2.mk x_0.Num.Neg x_0.Num.Mag) (Int_2.mk x_0.Den.Neg x_0.Den.Mag)) v_1 r_2 v_3 r_4 (Rational.mk (Int_2.mk x_w.Num.Neg x_w.Num.Mag) (Int_2.mk x_w.Den.Neg x_w.Den.Mag)) v_10 r_12 v_11 r_13 hp.imm _ q_77).mono ?_)
              rintro _ w_78 ⟨I_79, v_7a, v_7b, hv, hq, r_7c, r_7d⟩
              replace hv := hv.symm
              subst hv
              have hs := hq.st
              have hp := hp.join0 hq
              replace hz := hz.trans hs
              replace r_66 := r_66.step hs
              replace r_67 := r_67.step hs
              replace r_12 := r_12.step hs
              replace r_13 := r_13.step hs
              replace r_5w := r_5w.step hs
              replace r_5x := r_5x.step hs
              refine ⟨SK (Stp I_79 w_78 I_79) [(g_14, [(.bool x_w.Num.Neg), v_10, (.bool x_w.Den.Neg), v_11], 26)] [[]], ⟨Stp.refl _ _, (kp_cons (fun _ => (hp.own 2 _ _ _ rfl).1) kp_nil)⟩, fun L x h => ⟨hz.held h.1, h.2⟩, ?_⟩
              have hz := Stp.refl I_79 w_78
              refine ⟨?_, trivial⟩
              obtain ⟨⟨x_7e, x_7f⟩, q_7g, q_5z⟩ := bind_some q_5z
              refine ev_call rfl rfl C11 (((ref02_Div_ok n) _ _  x_60 v_64 r_66 v_65 r_67 x_76 v_7a r_7c v_7b r_7d hp.imm _ q_7g).mono ?_)
              rintro _ w_7h ⟨I_7i, v_7j, v_7k, hv, hq, r_7l, r_7m⟩
              replace hv := hv.symm
              subst hv
              have hs := hq.st
              have hp := hp.join0 hq
              replace hz := hz.trans hs
              replace r_12 := r_12.step hs
              replace r_13 := r_13.step hs
              replace r_5w := r_5w.step hs
              replace r_5x := r_5x.step hs
              refine ⟨SK (Stp I_7i w_7h I_7i) [(g_14, [(.bool x_w.Num.Neg), v_10, (.bool x_w.Den.Neg), v_11], 26)] [[]], ⟨Stp.refl _ _, (kp_cons (fun _ => (hp.own 2 _ _ _ rfl).1) kp_nil)⟩, fun L x h => ⟨hz.held h.1, h.2⟩, ?_⟩
              have hz := Stp.refl I_7i w_7h
              refine ⟨SK.same (by kernel_rfl), ?_⟩
              refine ⟨SK.same (by kernel_rfl), ?_⟩
              refine ⟨SK.same (by kernel_rfl), ?_⟩
              refine ⟨?_, trivial⟩
              refine ev_storeA hp (i := 0) (off := 0) (vs := [(.bool x_7e.Num.Neg), v_7j, (.bool x_7e.Den.Neg), v_7k]) rfl rfl rfl rfl T26 rfl (Nat.le_of_ble_eq_true rfl) (ones_cons rfl (ones_cons r_7l.one (ones_cons rfl (ones_cons r_7m.one ones_nil)))) ?_
              intro w_7n hp hs
              replace hz := hz.trans hs
              replace r_7l := r_7l.step hs
              replace r_7m := r_7m.step hs
              replace r_12 := r_12.step hs
              replace r_13 := r_13.step hs
              replace r_5w := r_5w.step hs
              replace r_5x := r_5x.step hs
              refine ⟨SK (Stp I_7i w_7n I_7i) [(g_14, [(.bool x_w.Num.Neg), v_10, (.bool x_w.Den.Neg), v_11], 26)] [[]], ⟨Stp.refl _ _, (kp_cons (fun _ => (hp.own 2 _ _ _ rfl).1) kp_nil)⟩, fun L x h => ⟨hz.held h.1, h.2⟩, ?_⟩
              have hz := Stp.refl I_7i w_7n
              refine ⟨SK.same (by kernel_rfl), ?_⟩
              obtain rfl := Option.some.inj q_5z
              have hp := hp.perm [1, 2, 3, 0] (by decide)
              exact ⟨(x_7e.Num.Neg, x_7e.Num.Mag, x_7e.Den.Neg, x_7e.Den.Mag, g_74, v_7j, v_7k, I_7i), (.c rfl (.c rfl (.c rfl (.c rfl .n)))), rfl, hp, r_12, r_13, r_5w, r_5x, r_7l, r_7m⟩
            refine ⟨?_, trivial⟩
            refine ev_alloc hp rfl T26 ?_
            intro g_7o w_7p hp hs
            replace hz := hz.trans hs
            replace r_2 := r_2.step hs
            replace r_4 := r_4.step hs
            replace r_12 := r_12.step hs
            replace r_13 := r_13.step hs
            replace r_5w := r_5w.step hs
            replace r_5x := r_5x.step hs
            refine ⟨SK (Stp I_5u w_7p I_5u) [(g_14, [(.bool x_w.Num.Neg), v_10, (.bool x_w.Den.Neg), v_11], 26)] [[]], ⟨Stp.refl _ _, (kp_cons (fun _ => (hp.own 2 _ _ _ rfl).1) kp_nil)⟩, fun L x h => ⟨hz.held h.1, h.2⟩, ?_⟩
            have hz := Stp.refl I_5u w_7p
            refine ⟨?_, trivial⟩
            obtain ⟨x_7q, q_7r, q_5z⟩ := bind_some q_5z
            refine ev_call rfl rfl C60 (((ref02_Of_ok n) _ _  1 1 hp.imm _ q_7r).mono ?_)
            rintro _ w_7s ⟨I_7t, v_7u, v_7v, hv, hq, r_7w, r_7x⟩
            replace hv := hv.symm
            subst hv
            have hs := hq.st
            have hp := hp.join0 hq
            replace hz := hz.trans hs
            replace r_2 := r_2.step hs
            replace r_4 := r_4.step hs
            replace r_12 := r_12.step hs
            replace r_13 := r_13.step hs
            replace r_5w := r_5w.step hs
            replace r_5x := r_5x.step hs
            refine ⟨SK (Stp I_7t w_7s I_7t) [(g_14, [(.bool x_w.Num.Neg), v_10, (.bool x_w.Den.Neg), v_11], 26)] [[]], ⟨Stp.refl _ _, (kp_cons (fun _ => (hp.own 2 _ _ _ rfl).1) kp_nil)⟩, fun L x h => ⟨hz.held h.1, h.2⟩, ?_⟩
            have hz := Stp.refl I_7t w_7s
            refine ⟨?_, trivial⟩
            obtain ⟨x_7y, q_7z, q_5z⟩ := bind_some q_5z
            refine ev_call rfl rfl C48 (((ref02_Sub_ok n) _ _  (Rational.mk (Int_2.mk x_0.Num.Neg x_0.Num.Mag) (Int_2.mk x_0.Den.Neg x_0.Den.Mag)) v_1 r_2 v_3 r_4 (Rational.mk (Int_2.mk x_w.Num.Neg x_w.Num.Mag) (Int_2.mk x_w.Den.Neg x_w.Den.Mag)) v_10 r_12 v_11 r_13 hp.imm _ q_7z).mono ?_)
            rintro _ w_80 ⟨I_81, v_82, v_83, hv, hq, r_84, r_85⟩
            replace hv := hv.symm
            subst hv
            have hs := hq.st
            have hp := hp.join0 hq
            replace hz := hz.trans hs
            replace r_7w := r_7w.step hs
            replace r_7x := r_7x.step hs
            replace r_12 := r_12.step hs
            replace r_13 := r_13.step hs
            replace r_5w := r_5w.step hs
            replace r_5x := r_5x.step hs
            refine ⟨SK (Stp I_81 w_80 I_81) [(g_14, [(.bool x_w.Num.Neg), v_10, (.bool x_w.Den.Neg), v_11], 26)] [[]], ⟨Stp.refl _ _, (kp_cons (fun _ => (hp.own 2 _ _ _ rfl).1) kp_nil)⟩, fun L x h => ⟨hz.held h.1, h.2⟩, ?_⟩
            have hz := Stp.refl I_81 w_80
            refine ⟨?_, trivial⟩
            obtain ⟨⟨x_86, x_87⟩, q_88, q_5z⟩ := bind_some q_5z
            refine ev_call rfl rfl C11 (((ref02_Div_ok n) _ _  x_7q v_7u r_7w v_7v r_7x x_7y v_82 r_84 v_83 r_85 hp.imm _ q_88).mono ?_)
            rintro _ w_89 ⟨I_8a, v_8b, v_8c, hv, hq, r_8d, r_8e⟩
            replace hv := hv.symm
            subst hv
            have hs := hq.st
            have hp := hp.join0 hq
            replace hz := hz.trans hs
            replace r_12 := r_12.step hs
            replace r_13 := r_13.step hs
            replace r_5w := r_5w.step hs
            replace r_5x := r_5x.step hs
            refine ⟨SK (Stp I_8a w_89 I_8a) [(g_14, [(.bool x_w.Num.Neg), v_10, (.bool x_w.Den.Neg), v_11], 26)] [[]], ⟨Stp.refl _ _, (kp_cons (fun _ => (hp.own 2 _ _ _ rfl).1) kp_nil)⟩, fun L x h => ⟨hz.held h.1, h.2⟩, ?_⟩
            have hz := Stp.refl I_8a w_89
            refine ⟨SK.same (by kernel_rfl), ?_⟩
            refine ⟨SK.same (by kernel_rfl), ?_⟩
            refine ⟨SK.same (by kernel_rfl), ?_⟩
            refine ⟨?_, trivial⟩
            refine ev_storeA hp (i := 0) (off := 0) (vs := [(.bool x_86.Num.Neg), v_8b, (.bool x_86.Den.Neg), v_8c]) rfl rfl rfl rfl T26 rfl (Nat.le_of_ble_eq_true rfl) (ones_cons rfl (ones_cons r_8d.one (ones_cons rfl (ones_cons r_8e.one ones_nil)))) ?_
            intro w_8f hp hs
            replace hz := hz.trans hs
            replace r_8d := r_8d.step hs
            replace r_8e := r_8e.step hs
            replace r_12 := r_12.step hs
            replace r_13 := r_13.step hs
            replace r_5w := r_5w.step hs
            replace r_5x := r_5x.step hs
            refine ⟨SK (Stp I_8a w_8f I_8a) [(g_14, [(.bool x_w.Num.Neg), v_10, (.bool x_w.Den.Neg), v_11], 26)] [[]], ⟨Stp.refl _ _, (kp_cons (fun _ => (hp.own 2 _ _ _ rfl).1) kp_nil)⟩, fun L x h => ⟨hz.held h.1, h.2⟩, ?_⟩
            have hz := Stp.refl I_8a w_8f
            refine ⟨SK.same (by kernel_rfl), ?_⟩
            obtain rfl := Option.some.inj q_5z
            have hp := hp.perm [1, 2, 3, 0] (by decide)
            exact ⟨(x_86.Num.Neg, x_86.Num.Mag, x_86.Den.Neg, x_86.Den.Mag, g_7o, v_8b, v_8c, I_8a), (.c rfl (.c rfl (.c rfl (.c rfl .n)))), rfl, hp, r_12, r_13, r_5w, r_5x, r_8d, r_8e⟩
          ·
            rintro ⟨x_8g, x_8h, x_8i, x_8j, g_8k, v_8l, v_8m, I_8n⟩ w_8o ⟨hy, hp, r_12, r_13, r_5w, r_5x, r_8p, r_8q⟩
            replace hy := hy.symm
            subst hy
            obtain ⟨y_8r, q_8s, h⟩ := bind_some h
            refine W.cut (γ := (Bool × (List Int) × Bool × (List Int) × Nat × Value × Value × (Nat → Prop))) (fun g => [(4, (.pointer (some ⟨g_i, 0, none⟩))), (5, (.pointer (some ⟨g_14, 0, none⟩))), (11, (.pointer (some ⟨(g.2.2.2.2.1), 0, none⟩)))]) (fun g w' => y_8r = ((g.1), (g.2.1), (g.2.2.1), (g.2.2.2.1)) ∧ Hp ⟨w0, I0, []⟩ (g.2.2.2.2.2.2.2) [some (g_i, [(.bool false), (.slice none 0 0), (.bool false), (.slice none 0 0)], 26), some (g_14, [(.bool x_w.Num.Neg), v_10, (.bool x_w.Den.Neg), v_11], 26), some ((g.2.2.2.2.1), [(.bool (g.1)), (g.2.2.2.2.2.1), (.bool (g.2.2.1)), (g.2.2.2.2.2.2.1)], 26)] w' ∧ RepS (dI .u32) w' (g.2.2.2.2.2.2.2) v_10 x_w.Num.Mag ∧ RepS (dI .u32) w' (g.2.2.2.2.2.2.2) v_11 x_w.Den.Mag ∧ RepS (dI .u32) w' (g.2.2.2.2.2.2.2) (g.2.2.2.2.2.1) (g.2.1) ∧ RepS (dI .u32) w' (g.2.2.2.2.2.2.2) (g.2.2.2.2.2.2.1) (g.2.2.2.1)) ?_ ?_
            ·
              have hs := hp.stp (Ch.drew [] w_8o)
              have hp := hp.drew
              replace r_12 := r_12.step hs
              replace r_13 := r_13.step hs
              replace r_5w := r_5w.step hs
              replace r_5x := r_5x.step hs
              replace r_8p := r_8p.step hs
              replace r_8q := r_8q.step hs
              refine W.heldG (.q 1 (.q 2 (.l 0 (.l 3 (.l 4 (.q 5 (.q 6 (.q 7 (.l 8 (.l 9 (.q 10 .done) .no) .no)))) (.l 8 (.l 4 (.q 5 (.q 6 (.q 7 (.l 9 (.q 10 .done) .no)))) .no) .no)) (.l 8 (.l 3 (.l 4 (.q 5 (.q 6 (.q 7 (.l 9 (.q 10 .done) .no)))) .no) .no) .no)) (.l 8 (.l 0 (.l 3 (.l 4 (.q 5 (.q 6 (.q 7 (.l 9 (.q 10 .done) .no)))) .no) .no) .no) .no)))) (SK (Stp I_8n w_8o.drew I_8n) [(g_5r, [(.bool x_5n), v_5s, (.bool x_5p), v_5t], 26), (g_8k, [(.bool x_8g), v_8l, (.bool x_8i), v_8m], 26)] [[], []]) MX (by kernel_rfl) ⟨Stp.refl _ _, (kp_cons (fun _ => (hp.own 2 _ _ _ rfl).1) (kp_cons (fun _ => (hp.own 3 _ _ _ rfl).1) kp_nil))⟩ ?_
              have hz := Stp.refl I_8n w_8o.drew
              refine ⟨SK.same (by kernel_rfl), ?_⟩
              refine evh (fun w' hw => rn_load rfl rfl (run_loadVarA T26 rfl ((S0.keep (p := 0) hw rfl rfl (by kernel_rfl)).at_ (i := 0) rfl))) ?_
              refine ⟨SK.same (by kernel_rfl), ?_⟩
              refine evh (fun w' hw => rn_load rfl rfl (run_loadVarA T26 rfl ((S0.keep (p := 1) hw rfl rfl (by kernel_rfl)).at_ (i := 0) rfl))) ?_
              refine ⟨?_, ?_⟩
              ·
                obtain ⟨x_8t, q_8u, q_8s⟩ := bind_some q_8s
                refine ev_call rfl rfl C60 (((ref02_Of_ok n) _ _  1 1 hp.imm _ q_8u).mono ?_)
                rintro _ w_8v ⟨I_8w, v_8x, v_8y, hv, hq, r_8z, r_90⟩
                replace hv := hv.symm
                subst hv
                have hs := hq.st
                have hp := hp.join0 hq
                replace hz := hz.trans hs
                replace r_5w := r_5w.step hs
                replace r_5x := r_5x.step hs
                replace r_8p := r_8p.step hs
                replace r_8q := r_8q.step hs
                replace r_12 := r_12.step hs
                replace r_13 := r_13.step hs
                refine ⟨SK (Stp I_8w w_8v I_8w) [(g_5r, [(.bool x_5n), v_5s, (.bool x_5p), v_5t], 26), (g_8k, [(.bool x_8g), v_8l, (.bool x_8i), v_8m], 26)] [[], []], ⟨Stp.refl _ _, (kp_cons (fun _ => (hp.own 2 _ _ _ rfl).1) (kp_cons (fun _ => (hp.own 3 _ _ _ rfl).1) kp_nil))⟩, fun L x h => ⟨hz.held h.1, h.2⟩, ?_⟩
                have hz := Stp.refl I_8w w_8v
                refine ⟨?_, ?_⟩
                ·
                  obtain ⟨x_91, q_92, q_8s⟩ := bind_some q_8s
                  refine ev_call rfl rfl C62 ((ih _ _  (Rational.mk (Int_2.mk x_5n x_5o) (Int_2.mk x_5p x_5q)) v_5s r_5w v_5t r_5x (Rational.mk (Int_2.mk x_8g x_8h) (Int_2.mk x_8i x_8j)) v_8l r_8p v_8m r_8q hp.imm _ q_92).mono ?_)
                  rintro _ w_93 ⟨I_94, v_95, v_96, hv, hq, r_97, r_98⟩
                  replace hv := hv.symm
                  subst hv
                  have hs := hq.st
                  have hp := hp.join0 hq
                  replace hz := hz.trans hs
                  replace r_8z := r_8z.step hs
                  replace r_90 := r_90.step hs
                  replace r_12 := r_12.step hs
                  replace r_13 := r_13.step hs
                  replace r_5w := r_5w.step hs
                  replace r_5x := r_5x.step hs
                  replace r_8p := r_8p.step hs
                  replace r_8q := r_8q.step hs
                  refine ⟨SK (Stp I_94 w_93 I_94) [(g_5r, [(.bool x_5n), v_5s, (.bool x_5p), v_5t], 26), (g_8k, [(.bool x_8g), v_8l, (.bool x_8i), v_8m], 26)] [[], []], ⟨Stp.refl _ _, (kp_cons (fun _ => (hp.own 2 _ _ _ rfl).1) (kp_cons (fun _ => (hp.own 3 _ _ _ rfl).1) kp_nil))⟩, fun L x h => ⟨hz.held h.1, h.2⟩, ?_⟩
                  have hz := Stp.refl I_94 w_93
                  refine ⟨?_, ?_⟩
                  ·
                    obtain ⟨⟨x_99, x_9a⟩, q_9b, q_8s⟩ := bind_some q_8s
                    refine ev_call rfl rfl C11 (((ref02_Div_ok n) _ _  x_8t v_8x r_8z v_8y r_90 x_91 v_95 r_97 v_96 r_98 hp.imm _ q_9b).mono ?_)
                    rintro _ w_9c ⟨I_9d, v_9e, v_9f, hv, hq, r_9g, r_9h⟩
                    replace hv := hv.symm
                    subst hv
                    have hs := hq.st
                    have hp := hp.join0 hq
                    replace hz := hz.trans hs
                    replace r_12 := r_12.step hs
                    replace r_13 := r_13.step hs
                    replace r_5w := r_5w.step hs
                    replace r_5x := r_5x.step hs
                    replace r_8p := r_8p.step hs
                    replace r_8q := r_8q.step hs
                    refine ⟨SK (Stp I_9d w_9c I_9d) [(g_5r, [(.bool x_5n), v_5s, (.bool x_5p), v_5t], 26), (g_8k, [(.bool x_8g), v_8l, (.bool x_8i), v_8m], 26)] [[], []], ⟨Stp.refl _ _, (kp_cons (fun _ => (hp.own 2 _ _ _ rfl).1) (kp_cons (fun _ => (hp.own 3 _ _ _ rfl).1) kp_nil))⟩, fun L x h => ⟨hz.held h.1, h.2⟩, ?_⟩
                    have hz := Stp.refl I_9d w_9c
                    refine ⟨SK.same (by kernel_rfl), ?_⟩
                    refine ⟨SK.same (by kernel_rfl), ?_⟩
                    refine ⟨SK.same (by kernel_rfl), ?_⟩
                    refine ⟨?_, trivial⟩
                    refine ev_alloc hp rfl T26 ?_
                    intro g_9i w_9j hp hs
                    replace hz := hz.trans hs
                    replace r_9g := r_9g.step hs
                    replace r_9h := r_9h.step hs
                    replace r_12 := r_12.step hs
                    replace r_13 := r_13.step hs
                    replace r_5w := r_5w.step hs
                    replace r_5x := r_5x.step hs
                    replace r_8p := r_8p.step hs
                    replace r_8q := r_8q.step hs
                    refine ⟨SK (Stp I_9d w_9j I_9d) [(g_5r, [(.bool x_5n), v_5s, (.bool x_5p), v_5t], 26), (g_8k, [(.bool x_8g), v_8l, (.bool x_8i), v_8m], 26)] [[], []], ⟨Stp.refl _ _, (kp_cons (fun _ => (hp.own 3 _ _ _ rfl).1) (kp_cons (fun _ => (hp.own 4 _ _ _ rfl).1) kp_nil))⟩, fun L x h => ⟨hz.held h.1, h.2⟩, ?_⟩
                    have hz := Stp.refl I_9d w_9j
                    refine ⟨?_, trivial⟩
                    refine ev_storeA hp (i := 0) (off := 0) (vs := [(.bool x_99.Num.Neg), v_9e, (.bool x_99.Den.Neg), v_9f]) rfl rfl rfl rfl T26 rfl (Nat.le_of_ble_eq_true rfl) (ones_cons rfl (ones_cons r_9g.one (ones_cons rfl (ones_cons r_9h.one ones_nil)))) ?_
                    intro w_9k hp hs
                    replace hz := hz.trans hs
                    replace r_9g := r_9g.step hs
                    replace r_9h := r_9h.step hs
                    replace r_12 := r_12.step hs
                    replace r_13 := r_13.step hs
                    replace r_5w := r_5w.step hs
                    replace r_5x := r_5x.step hs
                    replace r_8p := r_8p.step hs
                    replace r_8q := r_8q.step hs
                    refine ⟨SK (Stp I_9d w_9k I_9d) [(g_5r, [(.bool x_5n), v_5s, (.bool x_5p), v_5t], 26), (g_8k, [(.bool x_8g), v_8l, (.bool x_8i), v_8m], 26)] [[], []], ⟨Stp.refl _ _, (kp_cons (fun _ => (hp.own 3 _ _ _ rfl).1) (kp_cons (fun _ => (hp.own 4 _ _ _ rfl).1) kp_nil))⟩, fun L x h => ⟨hz.held h.1, h.2⟩, ?_⟩
                    have hz := Stp.refl I_9d w_9k
                    refine ⟨SK.same (by kernel_rfl), ?_⟩
                    obtain rfl := Option.some.inj q_8s
                    have hp := hp.perm [1, 2, 0] (by decide)
                    exact ⟨(x_99.Num.Neg, x_99.Num.Mag, x_99.Den.Neg, x_99.Den.Mag, g_9i, v_9e, v_9f, I_9d), (.c rfl (.c rfl (.c rfl .n))), rfl, hp, r_12, r_13, r_9g, r_9h⟩
                  refine ⟨?_, trivial⟩
                  refine ev_alloc hp rfl T26 ?_
                  intro g_9l w_9m hp hs
                  replace hz := hz.trans hs
                  replace r_8z := r_8z.step hs
                  replace r_90 := r_90.step hs
                  replace r_97 := r_97.step hs
                  replace r_98 := r_98.step hs
                  replace r_12 := r_12.step hs
                  replace r_13 := r_13.step hs
                  replace r_5w := r_5w.step hs
                  replace r_5x := r_5x.step hs
                  replace r_8p := r_8p.step hs
                  replace r_8q := r_8q.step hs
                  refine ⟨SK (Stp I_94 w_9m I_94) [(g_5r, [(.bool x_5n), v_5s, (.bool x_5p), v_5t], 26), (g_8k, [(.bool x_8g), v_8l, (.bool x_8i), v_8m], 26)] [[], []], ⟨Stp.refl _ _, (kp_cons (fun _ => (hp.own 3 _ _ _ rfl).1) (kp_cons (fun _ => (hp.own 4 _ _ _ rfl).1) kp_nil))⟩, fun L x h => ⟨hz.held h.1, h.2⟩, ?_⟩
                  have hz := Stp.refl I_94 w_9m
                  refine ⟨?_, trivial⟩
                  obtain ⟨⟨x_9n, x_9o⟩, q_9p, q_8s⟩ := bind_some q_8s
                  refine ev_call rfl rfl C11 (((ref02_Div_ok n) _ _  x_8t v_8x r_8z v_8y r_90 x_91 v_95 r_97 v_96 r_98 hp.imm _ q_9p).mono ?_)
                  rintro _ w_9q ⟨I_9r, v_9s, v_9t, hv, hq, r_9u, r_9v⟩
                  replace hv := hv.symm
                  subst hv
                  have hs := hq.st
                  have hp := hp.join0 hq
                  replace hz := hz.trans hs
                  replace r_12 := r_12.step hs
                  replace r_13 := r_13.step hs
                  replace r_5w := r_5w.step hs
                  replace r_5x := r_5x.step hs
                  replace r_8p := r_8p.step hs
                  replace r_8q := r_8q.step hs
                  refine ⟨SK (Stp I_9r w_9q I_9r) [(g_5r, [(.bool x_5n), v_5s, (.bool x_5p), v_5t], 26), (g_8k, [(.bool x_8g), v_8l, (.bool x_8i), v_8m], 26)] [[], []], ⟨Stp.refl _ _, (kp_cons (fun _ => (hp.own 3 _ _ _ rfl).1) (kp_cons (fun _ => (hp.own 4 _ _ _ rfl).1) kp_nil))⟩, fun L x h => ⟨hz.held h.1, h.2⟩, ?_⟩
                  have hz := Stp.refl I_9r w_9q
                  refine ⟨SK.same (by kernel_rfl), ?_⟩
                  refine ⟨SK.same (by kernel_rfl), ?_⟩
                  refine ⟨SK.same (by kernel_rfl), ?_⟩
                  refine ⟨?_, trivial⟩
                  refine ev_storeA hp (i := 0) (off := 0) (vs := [(.bool x_9n.Num.Neg), v_9s, (.bool x_9n.Den.Neg), v_9t]) rfl rfl rfl rfl T26 rfl (Nat.le_of_ble_eq_true rfl) (ones_cons rfl (ones_cons r_9u.one (ones_cons rfl (ones_cons r_9v.one ones_nil)))) ?_
                  intro w_9w hp hs
                  replace hz := hz.trans hs
                  replace r_9u := r_9u.step hs
                  replace r_9v := r_9v.step hs
                  replace r_12 := r_12.step hs
                  replace r_13 := r_13.step hs
                  replace r_5w := r_5w.step hs
                  replace r_5x := r_5x.step hs
                  replace r_8p := r_8p.step hs
                  replace r_8q := r_8q.step hs
                  refine ⟨SK (Stp I_9r w_9w I_9r) [(g_5r, [(.bool x_5n), v_5s, (.bool x_5p), v_5t], 26), (g_8k, [(.bool x_8g), v_8l, (.bool x_8i), v_8m], 26)] [[], []], ⟨Stp.refl _ _, (kp_cons (fun _ => (hp.own 3 _ _ _ rfl).1) (kp_cons (fun _ => (hp.own 4 _ _ _ rfl).1) kp_nil))⟩, fun L x h => ⟨hz.held h.1, h.2⟩, ?_⟩
                  have hz := Stp.refl I_9r w_9w
                  refine ⟨SK.same (by kernel_rfl), ?_⟩
                  obtain rfl := Option.some.inj q_8s
                  have hp := hp.perm [1, 2, 0] (by decide)
                  exact ⟨(x_9n.Num.Neg, x_9n.Num.Mag, x_9n.Den.Neg, x_9n.Den.Mag, g_9l, v_9s, v_9t, I_9r), (.c rfl (.c rfl (.c rfl .n))), rfl, hp, r_12, r_13, r_9u, r_9v⟩
                refine ⟨?_, trivial⟩
                refine ev_alloc hp rfl T26 ?_
                intro g_9x w_9y hp hs
                replace hz := hz.trans hs
                replace r_5w := r_5w.step hs
                replace r_5x := r_5x.step hs
                replace r_8p := r_8p.step hs
                replace r_8q := r_8q.step hs
                replace r_8z := r_8z.step hs
                replace r_90 := r_90.step hs
                replace r_12 := r_12.step hs
                replace r_13 := r_13.step hs
                refine ⟨SK (Stp I_8w w_9y I_8w) [(g_5r, [(.bool x_5n), v_5s, (.bool x_5p), v_5t], 26), (g_8k, [(.bool x_8g), v_8l, (.bool x_8i), v_8m], 26)] [[], []], ⟨Stp.refl _ _, (kp_cons (fun _ => (hp.own 3 _ _ _ rfl).1) (kp_cons (fun _ => (hp.own 4 _ _ _ rfl).1) kp_nil))⟩, fun L x h => ⟨hz.held h.1, h.2⟩, ?_⟩
                have hz := Stp.refl I_8w w_9y
                refine ⟨?_, trivial⟩
                obtain ⟨x_9z, q_a0, q_8s⟩ := bind_some q_8s
                refine ev_call rfl rfl C62 ((ih _ _  (Rational.mk (Int_2.mk x_5n x_5o) (Int_2.mk x_5p x_5q)) v_5s r_5w v_5t r_5x (Rational.mk (Int_2.mk x_8g x_8h) (Int_2.mk x_8i x_8j)) v_8l r_8p v_8m r_8q hp.imm _ q_a0).mono ?_)
                rintro _ w_a1 ⟨I_a2, v_a3, v_a4, hv, hq, r_a5, r_a6⟩
                replace hv := hv.symm
                subst hv
                have hs := hq.st
                have hp := hp.join0 hq
                replace hz := hz.trans hs
                replace r_8z := r_8z.step hs
                replace r_90 := r_90.step hs
                replace r_12 := r_12.step hs
                replace r_13 := r_13.step hs
                replace r_5w := r_5w.step hs
                replace r_5x := r_5x.step hs
                replace r_8p := r_8p.step hs
                replace r_8q := r_8q.step hs
                refine ⟨SK (Stp I_a2 w_a1 I_a2) [(g_5r, [(.bool x_5n), v_5s, (.bool x_5p), v_5t], 26), (g_8k, [(.bool x_8g), v_8l, (.bool x_8i), v_8m], 26)] [[], []], ⟨Stp.refl _ _, (kp_cons (fun _ => (hp.own 3 _ _ _ rfl).1) (kp_cons (fun _ => (hp.own 4 _ _ _ rfl).1) kp_nil))⟩, fun L x h => ⟨hz.held h.1, h.2⟩, ?_⟩
                have hz := Stp.refl I_a2 w_a1
                refine ⟨?_, trivial⟩
                obtain ⟨⟨x_a7, x_a8⟩, q_a9, q_8s⟩ := bind_some q_8s
                refine ev_call rfl rfl C11 (((ref02_Div_ok n) _ _  x_8t v_8x r_8z v_8y r_90 x_9z v_a3 r_a5 v_a4 r_a6 hp.imm _ q_a9).mono ?_)
                rintro _ w_aa ⟨I_ab, v_ac, v_ad, hv, hq, r_ae, r_af⟩
                replace hv := hv.symm
                subst hv
                have hs := hq.st
                have hp := hp.join0 hq
                replace hz := hz.trans hs
                replace r_12 := r_12.step hs
                replace r_13 := r_13.step hs
                replace r_5w := r_5w.step hs
                replace r_5x := r_5x.step hs
                replace r_8p := r_8p.step hs
                replace r_8q := r_8q.step hs
                refine ⟨SK (Stp I_ab w_aa I_ab) [(g_5r, [(.bool x_5n), v_5s, (.bool x_5p), v_5t], 26), (g_8k, [(.bool x_8g), v_8l, (.bool x_8i), v_8m], 26)] [[], []], ⟨Stp.refl _ _, (kp_cons (fun _ => (hp.own 3 _ _ _ rfl).1) (kp_cons (fun _ => (hp.own 4 _ _ _ rfl).1) kp_nil))⟩, fun L x h => ⟨hz.held h.1, h.2⟩, ?_⟩
                have hz := Stp.refl I_ab w_aa
                refine ⟨SK.same (by kernel_rfl), ?_⟩
                refine ⟨SK.same (by kernel_rfl), ?_⟩
                refine ⟨SK.same (by kernel_rfl), ?_⟩
                refine ⟨?_, trivial⟩
                refine ev_storeA hp (i := 0) (off := 0) (vs := [(.bool x_a7.Num.Neg), v_ac, (.bool x_a7.Den.Neg), v_ad]) rfl rfl rfl rfl T26 rfl (Nat.le_of_ble_eq_true rfl) (ones_cons rfl (ones_cons r_ae.one (ones_cons rfl (ones_cons r_af.one ones_nil)))) ?_
                intro w_ag hp hs
                replace hz := hz.trans hs
                replace r_ae := r_ae.step hs
                replace r_af := r_af.step hs
                replace r_12 := r_12.step hs
                replace r_13 := r_13.step hs
                replace r_5w := r_5w.step hs
                replace r_5x := r_5x.step hs
                replace r_8p := r_8p.step hs
                replace r_8q := r_8q.step hs
                refine ⟨SK (Stp I_ab w_ag I_ab) [(g_5r, [(.bool x_5n), v_5s, (.bool x_5p), v_5t], 26), (g_8k, [(.bool x_8g), v_8l, (.bool x_8i), v_8m], 26)] [[], []], ⟨Stp.refl _ _, (kp_cons (fun _ => (hp.own 3 _ _ _ rfl).1) (kp_cons (fun _ => (hp.own 4 _ _ _ rfl).1) kp_nil))⟩, fun L x h => ⟨hz.held h.1, h.2⟩, ?_⟩
                have hz := Stp.refl I_ab w_ag
                refine ⟨SK.same (by kernel_rfl), ?_⟩
                obtain rfl := Option.some.inj q_8s
                have hp := hp.perm [1, 2, 0] (by decide)
                exact ⟨(x_a7.Num.Neg, x_a7.Num.Mag, x_a7.Den.Neg, x_a7.Den.Mag, g_9x, v_ac, v_ad, I_ab), (.c rfl (.c rfl (.c rfl .n))), rfl, hp, r_12, r_13, r_ae, r_af⟩
              refine ⟨?_, trivial⟩
              refine ev_alloc hp rfl T26 ?_
              intro g_ah w_ai hp hs
              replace hz := hz.trans hs
              replace r_5w := r_5w.step hs
              replace r_5x := r_5x.step hs
              replace r_8p := r_8p.step hs
              replace r_8q := r_8q.step hs
              replace r_12 := r_12.step hs
              replace r_13 := r_13.step hs
              refine ⟨SK (Stp I_8n w_ai I_8n) [(g_5r, [(.bool x_5n), v_5s, (.bool x_5p), v_5t], 26), (g_8k, [(.bool x_8g), v_8l, (.bool x_8i), v_8m], 26)] [[], []], ⟨Stp.refl _ _, (kp_cons (fun _ => (hp.own 3 _ _ _ rfl).1) (kp_cons (fun _ => (hp.own 4 _ _ _ rfl).1) kp_nil))⟩, fun L x h => ⟨hz.held h.1, h.2⟩, ?_⟩
              have hz := Stp.refl I_8n w_ai
              refine ⟨?_, trivial⟩
              obtain ⟨x_aj, q_ak, q_8s⟩ := bind_some q_8s
              refine ev_call rfl rfl C60 (((ref02_Of_ok n) _ _  1 1 hp.imm _ q_ak).mono ?_)
              rintro _ w_al ⟨I_am, v_an, v_ao, hv, hq, r_ap, r_aq⟩
              replace hv := hv.symm
              subst hv
              have hs := hq.st
              have hp := hp.join0 hq
              replace hz := hz.trans hs
              replace r_5w := r_5w.step hs
              replace r_5x := r_5x.step hs
              replace r_8p := r_8p.step hs
              replace r_8q := r_8q.step hs
              replace r_12 := r_12.step hs
              replace r_13 := r_13.step hs
              refine ⟨SK (Stp I_am w_al I_am) [(g_5r, [(.bool x_5n), v_5s, (.bool x_5p), v_5t], 26), (g_8k, [(.bool x_8g), v_8l, (.bool x_8i), v_8m], 26)] [[], []], ⟨Stp.refl _ _, (kp_cons (fun _ => (hp.own 3 _ _ _ rfl).1) (kp_cons (fun _ => (hp.own 4 _ _ _ rfl).1) kp_nil))⟩, fun L x h => ⟨hz.held h.1, h.2⟩, ?_⟩
              have hz := Stp.refl I_am w_al
              refine ⟨?_, trivial⟩
              obtain ⟨x_ar, q_as, q_8s⟩ := bind_some q_8s
              refine ev_call rfl rfl C62 ((ih _ _  (Rational.mk (Int_2.mk x_5n x_5o) (Int_2.mk x_5p x_5q)) v_5s r_5w v_5t r_5x (Rational.mk (Int_2.mk x_8g x_8h) (Int_2.mk x_8i x_8j)) v_8l r_8p v_8m r_8q hp.imm _ q_as).mono ?_)
              rintro _ w_at ⟨I_au, v_av, v_aw, hv, hq, r_ax, r_ay⟩
              replace hv := hv.symm
              subst hv
              have hs := hq.st
              have hp := hp.join0 hq
              replace hz := hz.trans hs
              replace r_ap := r_ap.step hs
              replace r_aq := r_aq.step hs
              replace r_12 := r_12.step hs
              replace r_13 := r_13.step hs
              replace r_5w := r_5w.step hs
              replace r_5x := r_5x.step hs
              replace r_8p := r_8p.step hs
              replace r_8q := r_8q.step hs
              refine ⟨SK (Stp I_au w_at I_au) [(g_5r, [(.bool x_5n), v_5s, (.bool x_5p), v_5t], 26), (g_8k, [(.bool x_8g), v_8l, (.bool x_8i), v_8m], 26)] [[], []], ⟨Stp.refl _ _, (kp_cons (fun _ => (hp.own 3 _ _ _ rfl).1) (kp_cons (fun _ => (hp.own 4 _ _ _ rfl).1) kp_nil))⟩, fun L x h => ⟨hz.held h.1, h.2⟩, ?_⟩
              have hz := Stp.refl I_au w_at
              refine ⟨?_, trivial⟩
              obtain ⟨⟨x_az, x_b0⟩, q_b1, q_8s⟩ := bind_some q_8s
              refine ev_call rfl rfl C11 (((ref02_Div_ok n) _ _  x_aj v_an r_ap v_ao r_aq x_ar v_av r_ax v_aw r_ay hp.imm _ q_b1).mono ?_)
              rintro _ w_b2 ⟨I_b3, v_b4, v_b5, hv, hq, r_b6, r_b7⟩
              replace hv := hv.symm
              subst hv
              have hs := hq.st
              have hp := hp.join0 hq
              replace hz := hz.trans hs
              replace r_12 := r_12.step hs
              replace r_13 := r_13.step hs
              replace r_5w := r_5w.step hs
              replace r_5x := r_5x.step hs
              replace r_8p := r_8p.step hs
              replace r_8q := r_8q.step hs
              refine ⟨SK (Stp I_b3 w_b2 I_b3) [(g_5r, [(.bool x_5n), v_5s, (.bool x_5p), v_5t], 26), (g_8k, [(.bool x_8g), v_8l, (.bool x_8i), v_8m], 26)] [[], []], ⟨Stp.refl _ _, (kp_cons (fun _ => (hp.own 3 _ _ _ rfl).1) (kp_cons (fun _ => (hp.own 4 _ _ _ rfl).1) kp_nil))⟩, fun L x h => ⟨hz.held h.1, h.2⟩, ?_⟩
              have hz := Stp.refl I_b3 w_b2
              refine ⟨SK.same (by kernel_rfl), ?_⟩
              refine ⟨SK.same (by kernel_rfl), ?_⟩
              refine ⟨SK.same (by kernel_rfl), ?_⟩
              refine ⟨?_, trivial⟩
              refine ev_storeA hp (i := 0) (off := 0) (vs := [(.bool x_az.Num.Neg), v_b4, (.bool x_az.Den.Neg), v_b5]) rfl rfl rfl rfl T26 rfl (Nat.le_of_ble_eq_true rfl) (ones_cons rfl (ones_cons r_b6.one (ones_cons rfl (ones_cons r_b7.one ones_nil)))) ?_
              intro w_b8 hp hs
              replace hz := hz.trans hs
              replace r_b6 := r_b6.step hs
              replace r_b7 := r_b7.step hs
              replace r_12 := r_12.step hs
              replace r_13 := r_13.step hs
              replace r_5w := r_5w.step hs
              replace r_5x := r_5x.step hs
              replace r_8p := r_8p.step hs
              replace r_8q := r_8q.step hs
              refine ⟨SK (Stp I_b3 w_b8 I_b3) [(g_5r, [(.bool x_5n), v_5s, (.bool x_5p), v_5t], 26), (g_8k, [(.bool x_8g), v_8l, (.bool x_8i), v_8m], 26)] [[], []], ⟨Stp.refl _ _, (kp_cons (fun _ => (hp.own 3 _ _ _ rfl).1) (kp_cons (fun _ => (hp.own 4 _ _ _ rfl).1) kp_nil))⟩, fun L x h => ⟨hz.held h.1, h.2⟩, ?_⟩
              have hz := Stp.refl I_b3 w_b8
              refine ⟨SK.same (by kernel_rfl), ?_⟩
              obtain rfl := Option.some.inj q_8s
              have hp := hp.perm [1, 2, 0] (by decide)
              exact ⟨(x_az.Num.Neg, x_az.Num.Mag, x_az.Den.Neg, x_az.Den.Mag, g_ah, v_b4, v_b5, I_b3), (.c rfl (.c rfl (.c rfl .n))), rfl, hp, r_12, r_13, r_b6, r_b7⟩
            ·
              rintro ⟨x_b9, x_ba, x_bb, x_bc, g_bd, v_be, v_bf, I_bg⟩ w_bh ⟨hy, hp, r_12, r_13, r_bi, r_bj⟩
              replace hy := hy.symm
              subst hy
              apply go
              apply go
              refine ev (rn_load rfl rfl (run_loadVarA T26 rfl (hp.at_ (i := 1) rfl))) ?_
              refine ev (rn_load rfl rfl (run_loadVarA T26 rfl (hp.at_ (i := 2) rfl))) ?_
              obtain ⟨x_bk, q_bl, h⟩ := bind_some h
              refine ev_call rfl rfl C53 (((ref02_Add_ok n) _ _  (Rational.mk (Int_2.mk x_w.Num.Neg x_w.Num.Mag) (Int_2.mk x_w.Den.Neg x_w.Den.Mag)) v_10 r_12 v_11 r_13 (Rational.mk (Int_2.mk x_b9 x_ba) (Int_2.mk x_bb x_bc)) v_be r_bi v_bf r_bj hp.imm _ q_bl).mono ?_)
              rintro _ w_bm ⟨I_bn, v_bo, v_bp, hv, hq, r_bq, r_br⟩
              replace hv := hv.symm
              subst hv
              have hs := hq.st
              have hp := hp.join0 hq
              replace r_12 := r_12.step hs
              replace r_13 := r_13.step hs
              replace r_bi := r_bi.step hs
              replace r_bj := r_bj.step hs
              refine ev_storeA hp (i := 0) (off := 0) (vs := [(.bool x_bk.Num.Neg), v_bo, (.bool x_bk.Den.Neg), v_bp]) rfl rfl rfl rfl T26 rfl (Nat.le_of_ble_eq_true rfl) (ones_cons rfl (ones_cons r_bq.one (ones_cons rfl (ones_cons r_br.one ones_nil)))) ?_
              intro w_bs hp hs
              replace r_bq := r_bq.step hs
              replace r_br := r_br.step hs
              replace r_12 := r_12.step hs
              replace r_13 := r_13.step hs
              replace r_bi := r_bi.step hs
              replace r_bj := r_bj.step hs
              apply go
              obtain rfl := Option.some.inj h
              refine ⟨_, run_loadVarA T26 rfl (hp.at_ (i := 0) rfl), ?_⟩
              have hp := hp.sel [] (by decide)
              exact ⟨I_bn, v_bo, v_bp, rfl, hp, r_bq, r_br⟩
theorem ref02_simple_ok : ∀ n, ref02_simple_S (ref02_simple n)
  | 0 => by intro w0 I0 x_0 v_1 r_2 v_3 r_4 x_5 v_6 r_7 v_8 r_9 hI r h; cases h
  | n + 1 => ref02_simple_F_ok n _ (ref02_simple_ok n)

end Go.Proofs.YtepadjfmcbjkmaaGreatDoor

namespace Go.Proofs.YtepadjfmcbjkmaaGreatDoor
open Go Go.Proofs.YtepadjfmcbjkmaaGreatDoor.Gw Go.RowKit
set_option linter.unusedVariables false
attribute [local irreducible] Ev EvQ EvS EvH
def ref02_Simplest_S (f : Rational → Rational → Option (Rational × Int)) : Prop := ∀ (w0 : World) (I0 : Nat → Prop) (x_0 : Rational) (v_1 : Value) (r_2 : RepS (dI .u32) w0 I0 v_1 x_0.Num.Mag) (v_3 : Value) (r_4 : RepS (dI .u32) w0 I0 v_3 x_0.Den.Mag) (x_5 : Rational) (v_6 : Value) (r_7 : RepS (dI .u32) w0 I0 v_6 x_5.Num.Mag) (v_8 : Value) (r_9 : RepS (dI .u32) w0 I0 v_8 x_5.Den.Mag) (hI : ∀ g, I0 g → g < w0.heap.size) (r : (Rational × Int)), f x_0 x_5 = some r →
    Ret Tryz.prog 27 #[(.agg #[(.bool x_0.Num.Neg), v_1, (.bool x_0.Den.Neg), v_3]), (.agg #[(.bool x_5.Num.Neg), v_6, (.bool x_5.Den.Neg), v_8])] w0 fun v w1 => ∃ (I1 : Nat → Prop) (u_a : Value) (u_b : Value), v = (.tuple #[(.agg #[(.bool r.1.Num.Neg), u_a, (.bool r.1.Den.Neg), u_b]), (.int .i64 r.2)]) ∧ Hp ⟨w0, I0, []⟩ I1 [] w1 ∧ RepS (dI .u32) w1 I1 u_a r.1.Num.Mag ∧ RepS (dI .u32) w1 I1 u_b r.1.Den.Mag
theorem ref02_Simplest_ok (n : Nat) : ref02_Simplest_S (ref02_Simplest n) := by
  intro w0 I0 x_0 v_1 r_2 v_3 r_4 x_5 v_6 r_7 v_8 r_9 hI r h
  unfold ref02_Simplest at h
  refine enter Tryz.func27 rfl (Nat.le_of_ble_eq_true rfl) ?_
  have hp : Hp ⟨w0, I0, []⟩ I0 [] w0 := Hp.start hI
  apply go
  apply go
  refine ev_boxI hp rfl rfl ?_
  intro p_a I_b w_c hp hs a_d
  replace r_7 := r_7.step hs
  replace r_9 := r_9.step hs
  replace r_2 := r_2.step hs
  replace r_4 := r_4.step hs
  refine ev_boxI hp rfl rfl ?_
  intro p_e I_f w_g hp hs a_h
  replace a_d := a_d.step hs
  replace r_2 := r_2.step hs
  replace r_4 := r_4.step hs
  replace r_7 := r_7.step hs
  replace r_9 := r_9.step hs
  refine ev_alloc hp rfl T26 ?_
  intro g_i w_j hp hs
  replace a_d := a_d.step hs
  replace r_2 := r_2.step hs
  replace r_4 := r_4.step hs
  replace a_h := a_h.step hs
  replace r_7 := r_7.step hs
  replace r_9 := r_9.step hs
  apply go
  apply go
  apply go
  apply go
  refine ev (rn_load rfl rfl (run_loadVarA T26 rfl a_d)) ?_
  refine ev (rn_load rfl rfl (run_loadVarA T26 rfl a_h)) ?_
  obtain ⟨x_k, q_l, h⟩ := bind_some h
  refine ev_call rfl rfl C16 (((ref02_Cmp_ok n) _ _  (Rational.mk (Int_2.mk x_0.Num.Neg x_0.Num.Mag) (Int_2.mk x_0.Den.Neg x_0.Den.Mag)) v_1 r_2 v_3 r_4 (Rational.mk (Int_2.mk x_5.Num.Neg x_5.Num.Mag) (Int_2.mk x_5.Den.Neg x_5.Den.Mag)) v_6 r_7 v_8 r_9 hp.imm _ q_l).mono ?_)
  rintro _ w_m ⟨rfl, hc⟩
  have hs := hp.stp hc
  replace hp := hp.ext hc
  replace a_d := a_d.step hs
  replace r_2 := r_2.step hs
  replace r_4 := r_4.step hs
  replace a_h := a_h.step hs
  replace r_7 := r_7.step hs
  replace r_9 := r_9.step hs
  apply go
  refine sel_of (fun hc => ?_) (fun hc => ?_)
  ·
    have h := cond_t h hc
    apply go
    apply go
    refine ev0 (fun w => rn_build (cs := [(.bool false), (.slice none 0 0), (.bool false), (.slice none 0 0)]) rfl rfl T26 PL26 rfl) ?_
    refine ev_storeA hp (i := 0) (off := 0) (vs := [(.bool false), (.slice none 0 0), (.bool false), (.slice none 0 0)]) rfl rfl rfl rfl T26 rfl (Nat.le_of_ble_eq_true rfl) (ones_of rfl) ?_
    intro w_n hp hs
    apply go
    obtain rfl := Option.some.inj h
    refine ⟨_, run_loadVarA T26 rfl (hp.at_ (i := 0) rfl), ?_⟩
    have hp := hp.sel [] (by decide)
    exact ⟨I_f, .slice none 0 0, .slice none 0 0, rfl, hp, RepS.nil _ _ _, RepS.nil _ _ _⟩
  ·
    have h := cond_f h hc
    obtain ⟨y_o, q_p, h⟩ := bind_some h
    refine W.cut (γ := Bool) (fun g => [(2, (.pointer (some (p_a)))), (3, (.pointer (some (p_e)))), (4, (.pointer (some ⟨g_i, 0, none⟩))), (12, (.bool (g)))]) (fun g w' => y_o = (g) ∧ Hp ⟨w0, I0, []⟩ I_f [some (g_i, [(.bool false), (.slice none 0 0), (.bool false), (.slice none 0 0)], 26)] w' ∧ RepS (dI .u32) w' I_f v_1 x_0.Num.Mag ∧ RepS (dI .u32) w' I_f v_3 x_0.Den.Mag ∧ At w' I_f p_a [(.bool x_0.Num.Neg), v_1, (.bool x_0.Den.Neg), v_3] ∧ RepS (dI .u32) w' I_f v_6 x_5.Num.Mag ∧ RepS (dI .u32) w' I_f v_8 x_5.Den.Mag ∧ At w' I_f p_e [(.bool x_5.Num.Neg), v_6, (.bool x_5.Den.Neg), v_8]) ?_ ?_
    ·
      apply go
      refine ev (rn_load rfl rfl (run_loadVarA T26 rfl a_d)) ?_
      obtain ⟨x_q, q_r, q_p⟩ := bind_some q_p
      refine ev_call rfl rfl C40 (((ref02_Sign_ok n) _ _  (Rational.mk (Int_2.mk x_0.Num.Neg x_0.Num.Mag) (Int_2.mk x_0.Den.Neg x_0.Den.Mag)) v_1 r_2 v_3 r_4 hp.imm _ q_r).mono ?_)
      rintro _ w_s ⟨rfl, hc⟩
      have hs := hp.stp hc
      replace hp := hp.ext hc
      replace a_d := a_d.step hs
      replace r_2 := r_2.step hs
      replace r_4 := r_4.step hs
      replace a_h := a_h.step hs
      replace r_7 := r_7.step hs
      replace r_9 := r_9.step hs
      refine sel_of (fun hc => ?_) (fun hc => ?_)
      ·
        have q_p := cond_t q_p hc
        refine ev (rn_load rfl rfl (run_loadVarA T26 rfl a_h)) ?_
        obtain ⟨x_t, q_u, q_p⟩ := bind_some q_p
        refine ev_call rfl rfl C40 (((ref02_Sign_ok n) _ _  (Rational.mk (Int_2.mk x_5.Num.Neg x_5.Num.Mag) (Int_2.mk x_5.Den.Neg x_5.Den.Mag)) v_6 r_7 v_8 r_9 hp.imm _ q_u).mono ?_)
        rintro _ w_v ⟨rfl, hc⟩
        have hs := hp.stp hc
        replace hp := hp.ext hc
        replace a_d := a_d.step hs
        replace r_2 := r_2.step hs
        replace r_4 := r_4.step hs
        replace a_h := a_h.step hs
        replace r_7 := r_7.step hs
        replace r_9 := r_9.step hs
        obtain rfl := Option.some.inj q_p
        exact ⟨(decide (x_t ≥ 0)), (.c rfl (.c rfl (.c rfl (.c rfl .n)))), rfl, hp, r_2, r_4, a_d, r_7, r_9, a_h⟩
      ·
        have q_p := cond_f q_p hc
        obtain rfl := Option.some.inj q_p
        exact ⟨false, (.c rfl (.c rfl (.c rfl (.c rfl .n)))), rfl, hp, r_2, r_4, a_d, r_7, r_9, a_h⟩
    ·
      rintro x_w w_x ⟨hy, hp, r_2, r_4, a_d, r_7, r_9, a_h⟩
      replace hy := hy.symm
      subst hy
      apply go
      refine sel_of (fun hc => ?_) (fun hc => ?_)
      ·
        have h := cond_t h hc
        apply go
        apply go
        obtain ⟨x_y, q_z, h⟩ := bind_some h
        refine ev_call rfl rfl C60 (((ref02_Of_ok n) _ _  0 1 hp.imm _ q_z).mono ?_)
        rintro _ w_10 ⟨I_11, v_12, v_13, hv, hq, r_14, r_15⟩
        replace hv := hv.symm
        subst hv
        have hs := hq.st
        have hp := hp.join0 hq
        refine ev_storeA hp (i := 0) (off := 0) (vs := [(.bool x_y.Num.Neg), v_12, (.bool x_y.Den.Neg), v_13]) rfl rfl rfl rfl T26 rfl (Nat.le_of_ble_eq_true rfl) (ones_cons rfl (ones_cons r_14.one (ones_cons rfl (ones_cons r_15.one ones_nil)))) ?_
        intro w_16 hp hs
        replace r_14 := r_14.step hs
        replace r_15 := r_15.step hs
        apply go
        obtain rfl := Option.some.inj h
        refine ⟨_, run_loadVarA T26 rfl (hp.at_ (i := 0) rfl), ?_⟩
        have hp := hp.sel [] (by decide)
        exact ⟨I_11, v_12, v_13, rfl, hp, r_14, r_15⟩
      ·
        have h := cond_f h hc
        apply go
        apply go
        refine ev (rn_load rfl rfl (run_loadVarA T26 rfl a_h)) ?_
        obtain ⟨x_17, q_18, h⟩ := bind_some h
        refine ev_call rfl rfl C40 (((ref02_Sign_ok n) _ _  (Rational.mk (Int_2.mk x_5.Num.Neg x_5.Num.Mag) (Int_2.mk x_5.Den.Neg x_5.Den.Mag)) v_6 r_7 v_8 r_9 hp.imm _ q_18).mono ?_)
        rintro _ w_19 ⟨rfl, hc⟩
        have hs := hp.stp hc
        replace hp := hp.ext hc
        replace a_d := a_d.step hs
        replace r_2 := r_2.step hs
        replace r_4 := r_4.step hs
        replace a_h := a_h.step hs
        replace r_7 := r_7.step hs
        replace r_9 := r_9.step hs
        apply go
        refine sel_of (fun hc => ?_) (fun hc => ?_)
        ·
          have h := cond_t h hc
          apply go
          have hs := hp.stp (Ch.drew [] w_19)
          have hp := hp.drew
          replace a_d := a_d.step hs
          replace r_2 := r_2.step hs
          replace r_4 := r_4.step hs
          replace a_h := a_h.step hs
          replace r_7 := r_7.step hs
          replace r_9 := r_9.step hs
          refine W.held [(0, true), (2, true), (1, false), (3, false), (4, false), (5, false), (6, false), (7, true)] (Stp I_f w_19.drew I_f) MX (by kernel_rfl) (Stp.refl _ _) ?_
          have hz := Stp.refl I_f w_19.drew
          refine evh (fun w' hw => rn_load rfl rfl (run_loadVarA T26 rfl (a_h.step hw))) ?_
          refine evh (fun w' hw => rn_load rfl rfl (run_loadVarA T26 rfl (a_d.step hw))) ?_
          obtain ⟨x_1a, q_1b, h⟩ := bind_some h
          refine ev_call rfl rfl C61 (((ref02_Neg_ok n) _ _  (Rational.mk (Int_2.mk x_5.Num.Neg x_5.Num.Mag) (Int_2.mk x_5.Den.Neg x_5.Den.Mag)) v_6 r_7 v_8 r_9 hp.imm _ q_1b).mono ?_)
          rintro _ w_1c ⟨I_1d, v_1e, v_1f, hv, hq, r_1g, r_1h⟩
          replace hv := hv.symm
          subst hv
          have hs := hq.st
          have hp := hp.join0 hq
          replace hz := hz.trans hs
          replace r_2 := r_2.step hs
          replace r_4 := r_4.step hs
          refine ⟨Stp I_1d w_1c I_1d, Stp.refl _ _, fun x hx => hz.held hx, ?_⟩
          have hz := Stp.refl I_1d w_1c
          obtain ⟨x_1i, q_1j, h⟩ := bind_some h
          refine ev_call rfl rfl C61 (((ref02_Neg_ok n) _ _  (Rational.mk (Int_2.mk x_0.Num.Neg x_0.Num.Mag) (Int_2.mk x_0.Den.Neg x_0.Den.Mag)) v_1 r_2 v_3 r_4 hp.imm _ q_1j).mono ?_)
          rintro _ w_1k ⟨I_1l, v_1m, v_1n, hv, hq, r_1o, r_1p⟩
          replace hv := hv.symm
          subst hv
          have hs := hq.st
          have hp := hp.join0 hq
          replace hz := hz.trans hs
          replace r_1g := r_1g.step hs
          replace r_1h := r_1h.step hs
          refine ⟨Stp I_1l w_1k I_1l, Stp.refl _ _, fun x hx => hz.held hx, ?_⟩
          have hz := Stp.refl I_1l w_1k
          obtain ⟨x_1q, q_1r, h⟩ := bind_some h
          refine ev_call rfl rfl C62 (((ref02_simple_ok n) _ _  x_1a v_1e r_1g v_1f r_1h x_1i v_1m r_1o v_1n r_1p hp.imm _ q_1r).mono ?_)
          rintro _ w_1s ⟨I_1t, v_1u, v_1v, hv, hq, r_1w, r_1x⟩
          replace hv := hv.symm
          subst hv
          have hs := hq.st
          have hp := hp.join0 hq
          replace hz := hz.trans hs
          refine ⟨Stp I_1t w_1s I_1t, Stp.refl _ _, fun x hx => hz.held hx, ?_⟩
          have hz := Stp.refl I_1t w_1s
          obtain ⟨x_1y, q_1z, h⟩ := bind_some h
          refine ev_call rfl rfl C61 (((ref02_Neg_ok n) _ _  x_1q v_1u r_1w v_1v r_1x hp.imm _ q_1z).mono ?_)
          rintro _ w_20 ⟨I_21, v_22, v_23, hv, hq, r_24, r_25⟩
          replace hv := hv.symm
          subst hv
          have hs := hq.st
          have hp := hp.join0 hq
          replace hz := hz.trans hs
          refine ⟨Stp I_21 w_20 I_21, Stp.refl _ _, fun x hx => hz.held hx, ?_⟩
          have hz := Stp.refl I_21 w_20
          refine ev_storeA hp (i := 0) (off := 0) (vs := [(.bool x_1y.Num.Neg), v_22, (.bool x_1y.Den.Neg), v_23]) rfl rfl rfl rfl T26 rfl (Nat.le_of_ble_eq_true rfl) (ones_cons rfl (ones_cons r_24.one (ones_cons rfl (ones_cons r_25.one ones_nil)))) ?_
          intro w_26 hp hs
          replace hz := hz.trans hs
          replace r_24 := r_24.step hs
          replace r_25 := r_25.step hs
          refine ⟨Stp I_21 w_26 I_21, Stp.refl _ _, fun x hx => hz.held hx, ?_⟩
          have hz := Stp.refl I_21 w_26
          apply go
          obtain rfl := Option.some.inj h
          refine ⟨_, run_loadVarA T26 rfl (hp.at_ (i := 0) rfl), ?_⟩
          have hp := hp.sel [] (by decide)
          exact ⟨I_21, v_22, v_23, rfl, hp, r_24, r_25⟩
        ·
          have h := cond_f h hc
          apply go
          apply go
          have hs := hp.stp (Ch.drew [] w_19)
          have hp := hp.drew
          replace a_d := a_d.step hs
          replace r_2 := r_2.step hs
          replace r_4 := r_4.step hs
          replace a_h := a_h.step hs
          replace r_7 := r_7.step hs
          replace r_9 := r_9.step hs
          refine W.held [(0, true), (2, true), (1, false), (3, false), (4, false), (5, false), (6, true)] (Stp I_f w_19.drew I_f) MX (by kernel_rfl) (Stp.refl _ _) ?_
          have hz := Stp.refl I_f w_19.drew
          refine evh (fun w' hw => rn_load rfl rfl (run_loadVarA T26 rfl (a_d.step hw))) ?_
          refine evh (fun w' hw => rn_load rfl rfl (run_loadVarA T26 rfl (a_h.step hw))) ?_
          obtain ⟨x_27, q_28, h⟩ := bind_some h
          refine ev_call rfl rfl C35 (((ref02_Norm_ok n) _ _  (Rational.mk (Int_2.mk x_0.Num.Neg x_0.Num.Mag) (Int_2.mk x_0.Den.Neg x_0.Den.Mag)) v_1 r_2 v_3 r_4 hp.imm _ q_28).mono ?_)
          rintro _ w_29 ⟨I_2a, v_2b, v_2c, hv, hq, r_2d, r_2e⟩
          replace hv := hv.symm
          subst hv
          have hs := hq.st
          have hp := hp.join0 hq
          replace hz := hz.trans hs
          replace r_7 := r_7.step hs
          replace r_9 := r_9.step hs
          refine ⟨Stp I_2a w_29 I_2a, Stp.refl _ _, fun x hx => hz.held hx, ?_⟩
          have hz := Stp.refl I_2a w_29
          obtain ⟨x_2f, q_2g, h⟩ := bind_some h
          refine ev_call rfl rfl C35 (((ref02_Norm_ok n) _ _  (Rational.mk (Int_2.mk x_5.Num.Neg x_5.Num.Mag) (Int_2.mk x_5.Den.Neg x_5.Den.Mag)) v_6 r_7 v_8 r_9 hp.imm _ q_2g).mono ?_)
          rintro _ w_2h ⟨I_2i, v_2j, v_2k, hv, hq, r_2l, r_2m⟩
          replace hv := hv.symm
          subst hv
          have hs := hq.st
          have hp := hp.join0 hq
          replace hz := hz.trans hs
          replace r_2d := r_2d.step hs
          replace r_2e := r_2e.step hs
          refine ⟨Stp I_2i w_2h I_2i, Stp.refl _ _, fun x hx => hz.held hx, ?_⟩
          have hz := Stp.refl I_2i w_2h
          obtain ⟨x_2n, q_2o, h⟩ := bind_some h
          refine ev_call rfl rfl C62 (((ref02_simple_ok n) _ _  x_27 v_2b r_2d v_2c r_2e x_2f v_2j r_2l v_2k r_2m hp.imm _ q_2o).mono ?_)
          rintro _ w_2p ⟨I_2q, v_2r, v_2s, hv, hq, r_2t, r_2u⟩
          replace hv := hv.symm
          subst hv
          have hs := hq.st
          have hp := hp.join0 hq
          replace hz := hz.trans hs
          refine ⟨Stp I_2q w_2p I_2q, Stp.refl _ _, fun x hx => hz.held hx, ?_⟩
          have hz := Stp.refl I_2q w_2p
          refine ev_storeA hp (i := 0) (off := 0) (vs := [(.bool x_2n.Num.Neg), v_2r, (.bool x_2n.Den.Neg), v_2s]) rfl rfl rfl rfl T26 rfl (Nat.le_of_ble_eq_true rfl) (ones_cons rfl (ones_cons r_2t.one (ones_cons rfl (ones_cons r_2u.one ones_nil)))) ?_
          intro w_2v hp hs
          replace hz := hz.trans hs
          replace r_2t := r_2t.step hs
          replace r_2u := r_2u.step hs
          refine ⟨Stp I_2q w_2v I_2q, Stp.refl _ _, fun x hx => hz.held hx, ?_⟩
          have hz := Stp.refl I_2q w_2v
          apply go
          obtain rfl := Option.some.inj h
          refine ⟨_, run_loadVarA T26 rfl (hp.at_ (i := 0) rfl), ?_⟩
          have hp := hp.sel [] (by decide)
          exact ⟨I_2q, v_2r, v_2s, rfl, hp, r_2t, r_2u⟩

end Go.Proofs.YtepadjfmcbjkmaaGreatDoor
