/-
  Each function of the program computes the plain function of its name.
-/
import Derived.Test.YtepadjfmcbjkmaaGreatDoorFactsA
import Derived.Test.YtepadjfmcbjkmaaGreatDoorWalkB
import Derived.Test.YtepadjfmcbjkmaaGreatDoorWalkC
import Derived.Test.YtepadjfmcbjkmaaGreatDoorWalkA
namespace Go.Proofs.YtepadjfmcbjkmaaGreatDoor
open Go Go.Proofs.YtepadjfmcbjkmaaGreatDoor.Gw Go.RowKit
set_option linter.unusedVariables false
attribute [local irreducible] Ev EvQ EvS EvH
def law02_RationalSimplest_S (f : Rational → Rational → Int → Option Bool) : Prop := ∀ (w0 : World) (I0 : Nat → Prop) (tb : Tb w0 I0 4 .u64 pow10) (x_0 : Rational) (v_1 : Value) (r_2 : RepS (dI .u32) w0 I0 v_1 x_0.Num.Mag) (v_3 : Value) (r_4 : RepS (dI .u32) w0 I0 v_3 x_0.Den.Mag) (x_5 : Rational) (v_6 : Value) (r_7 : RepS (dI .u32) w0 I0 v_6 x_5.Num.Mag) (v_8 : Value) (r_9 : RepS (dI .u32) w0 I0 v_8 x_5.Den.Mag) (x_a : Int) (hI : ∀ g, I0 g → g < w0.heap.size) (r : Bool), f x_0 x_5 x_a = some r →
    Ret Tryz.prog 5 #[(.agg #[(.bool x_0.Num.Neg), v_1, (.bool x_0.Den.Neg), v_3]), (.agg #[(.bool x_5.Num.Neg), v_6, (.bool x_5.Den.Neg), v_8]), (.int .u8 x_a)] w0 fun v w1 => v = (.bool r) ∧ Ch [] w0 w1
theorem law02_RationalSimplest_ok (n : Nat) : law02_RationalSimplest_S (law02_RationalSimplest n) := by
  intro w0 I0 tb x_0 v_1 r_2 v_3 r_4 x_5 v_6 r_7 v_8 r_9 x_a hI r h
  unfold law02_RationalSimplest at h
  refine enter Tryz.func5 rfl (Nat.le_of_ble_eq_true rfl) ?_
  have hp : Hp ⟨w0, I0, []⟩ I0 [] w0 := Hp.start hI
  apply go
  apply go
  refine ev_boxI hp rfl rfl ?_
  intro p_b I_c w_d hp hs a_e
  replace r_7 := r_7.step hs
  replace r_9 := r_9.step hs
  replace r_2 := r_2.step hs
  replace r_4 := r_4.step hs
  replace tb := tb.step hs
  refine ev_boxI hp rfl rfl ?_
  intro p_f I_g w_h hp hs a_i
  replace a_e := a_e.step hs
  replace r_2 := r_2.step hs
  replace r_4 := r_4.step hs
  replace r_7 := r_7.step hs
  replace r_9 := r_9.step hs
  replace tb := tb.step hs
  apply go
  obtain ⟨y_j, q_k, h⟩ := bind_some h
  refine W.cut (γ := ((List Int) × (List Int) × (List Int) × (List Int) × Bool × Value × Value × Value × Value × (Nat → Prop))) (fun g => [(2, (.int .u8 x_a)), (3, (.pointer (some (p_b)))), (4, (.pointer (some (p_f)))), (23, (.bool (g.2.2.2.2.1)))]) (fun g w' => y_j = ((g.1), (g.2.1), (g.2.2.1), (g.2.2.2.1), (g.2.2.2.2.1)) ∧ Hp ⟨w0, I0, []⟩ (g.2.2.2.2.2.2.2.2.2) [] w' ∧ RepS (dI .u32) w' (g.2.2.2.2.2.2.2.2.2) (g.2.2.2.2.2.1) (g.1) ∧ RepS (dI .u32) w' (g.2.2.2.2.2.2.2.2.2) (g.2.2.2.2.2.2.1) (g.2.1) ∧ At w' (g.2.2.2.2.2.2.2.2.2) p_b [(.bool x_0.Num.Neg), (g.2.2.2.2.2.1), (.bool x_0.Den.Neg), (g.2.2.2.2.2.2.1)] ∧ RepS (dI .u32) w' (g.2.2.2.2.2.2.2.2.2) (g.2.2.2.2.2.2.2.1) (g.2.2.1) ∧ RepS (dI .u32) w' (g.2.2.2.2.2.2.2.2.2) (g.2.2.2.2.2.2.2.2.1) (g.2.2.2.1) ∧ At w' (g.2.2.2.2.2.2.2.2.2) p_f [(.bool x_5.Num.Neg), (g.2.2.2.2.2.2.2.1), (.bool x_5.Den.Neg), (g.2.2.2.2.2.2.2.2.1)] ∧ Tb w' (g.2.2.2.2.2.2.2.2.2) 4 .u64 pow10) ?_ ?_
  ·
    apply go
    obtain ⟨x_l, q_m, q_k⟩ := bind_some q_k
    refine ev_call rfl rfl C8 (((law02_awake_ok n) _ _ tb  hp.imm _ q_m).mono ?_)
    rintro _ w_n ⟨rfl, hc⟩
    have hs := hp.stp hc
    replace hp := hp.ext hc
    replace a_e := a_e.step hs
    replace r_2 := r_2.step hs
    replace r_4 := r_4.step hs
    replace a_i := a_i.step hs
    replace r_7 := r_7.step hs
    replace r_9 := r_9.step hs
    replace tb := tb.step hs
    refine sel_of (fun hc => ?_) (fun hc => ?_)
    ·
      have q_k := cond_t q_k hc
      obtain rfl := Option.some.inj q_k
      exact ⟨(x_0.Num.Mag, x_0.Den.Mag, x_5.Num.Mag, x_5.Den.Mag, true, v_1, v_3, v_6, v_8, I_g), (.c rfl (.c rfl (.c rfl (.c rfl .n)))), rfl, hp, r_2, r_4, a_e, r_7, r_9, a_i, tb⟩
    ·
      have q_k := cond_f q_k hc
      refine ev (rn_load rfl rfl (run_loadVarA T26 rfl a_e)) ?_
      refine ev (rn_load rfl rfl (run_loadVarA T26 rfl a_i)) ?_
      obtain ⟨A_o, m_p, m_q, rfl⟩ := r_2.isSl
      obtain ⟨A_r, m_s, m_t, rfl⟩ := r_4.isSl
      obtain ⟨A_u, m_v, m_w, rfl⟩ := r_7.isSl
      obtain ⟨A_x, m_y, m_z, rfl⟩ := r_9.isSl
      refine ev_litN (d := dRational) (xs := [(Rational.mk (Int_2.mk x_0.Num.Neg x_0.Num.Mag) (Int_2.mk x_0.Den.Neg x_0.Den.Mag)), (Rational.mk (Int_2.mk x_5.Num.Neg x_5.Num.Mag) (Int_2.mk x_5.Den.Neg x_5.Den.Mag))]) (cs := [(.bool x_0.Num.Neg), (.slice A_o m_p m_q), (.bool x_0.Den.Neg), (.slice A_r m_s m_t), (.bool x_5.Num.Neg), (.slice A_u m_v m_w), (.bool x_5.Den.Neg), (.slice A_x m_y m_z)]) hp rfl rfl Tryz.underlying56 T26 (by decide) (by kernel_rfl) rfl (Elems.cons (d := dRational) (xs := _) (dRational_m r_2 r_4) (Elems.cons (d := dRational) (xs := _) (dRational_m r_7 r_9) (Elems.nil _ _ _ _))) ?_
      intro v_10 I_11 w_12 hp hs r_13
      replace a_e := a_e.step hs
      replace r_2 := r_2.step hs
      replace r_4 := r_4.step hs
      replace a_i := a_i.step hs
      replace r_7 := r_7.step hs
      replace r_9 := r_9.step hs
      replace tb := tb.step hs
      obtain ⟨x_14, q_15, q_k⟩ := bind_some q_k
      refine ev_call rfl rfl C9 (((law02_few_ok n) _ _  [(Rational.mk (Int_2.mk x_0.Num.Neg x_0.Num.Mag) (Int_2.mk x_0.Den.Neg x_0.Den.Mag)), (Rational.mk (Int_2.mk x_5.Num.Neg x_5.Num.Mag) (Int_2.mk x_5.Den.Neg x_5.Den.Mag))] v_10 r_13 hp.imm _ q_15).mono ?_)
      rintro _ w_16 ⟨rfl, hc⟩
      have hs := hp.stp hc
      replace hp := hp.ext hc
      replace a_e := a_e.step hs
      replace r_2 := r_2.step hs
      replace r_4 := r_4.step hs
      replace a_i := a_i.step hs
      replace r_7 := r_7.step hs
      replace r_9 := r_9.step hs
      replace tb := tb.step hs
      obtain rfl := Option.some.inj q_k
      exact ⟨(x_0.Num.Mag, x_0.Den.Mag, x_5.Num.Mag, x_5.Den.Mag, (!x_14), (.slice A_o m_p m_q), (.slice A_r m_s m_t), (.slice A_u m_v m_w), (.slice A_x m_y m_z), I_11), (.c rfl (.c rfl (.c rfl (.c rfl .n)))), rfl, hp, r_2, r_4, a_e, r_7, r_9, a_i, tb⟩
  ·
    rintro ⟨x_17, x_18, x_19, x_1a, x_1b, v_1c, v_1d, v_1e, v_1f, I_1g⟩ w_1h ⟨hy, hp, r_1i, r_1j, a_e, r_1k, r_1l, a_i, tb⟩
    replace hy := hy.symm
    subst hy
    apply go
    refine sel_of (fun hc => ?_) (fun hc => ?_)
    ·
      have h := cond_t h hc
      apply go
      apply go
      obtain ⟨x_1m, q_1n, h⟩ := bind_some h
      refine ev_call rfl rfl C8 (((law02_awake_ok n) _ _ tb  hp.imm _ q_1n).mono ?_)
      rintro _ w_1o ⟨rfl, hc⟩
      have hs := hp.stp hc
      replace hp := hp.ext hc
      replace tb := tb.step hs
      apply go
      obtain rfl := Option.some.inj h
      exact ⟨rfl, hp.ch⟩
    ·
      have h := cond_f h hc
      apply go
      apply go
      apply go
      refine ev (rn_load rfl rfl (run_loadVarA T26 rfl a_e)) ?_
      refine ev (rn_load rfl rfl (run_loadVarA T26 rfl a_i)) ?_
      obtain ⟨⟨x_1p, x_1q⟩, q_1r, h⟩ := bind_some h
      refine ev_call rfl rfl C26 (((rational_Simplest_ok n) _ _  (Rational.mk (Int_2.mk x_0.Num.Neg x_17) (Int_2.mk x_0.Den.Neg x_18)) v_1c r_1i v_1d r_1j (Rational.mk (Int_2.mk x_5.Num.Neg x_19) (Int_2.mk x_5.Den.Neg x_1a)) v_1e r_1k v_1f r_1l hp.imm _ q_1r).mono ?_)
      rintro _ w_1s ⟨I_1t, v_1u, v_1v, hv, hq, r_1w, r_1x⟩
      replace hv := hv.symm
      subst hv
      have hs := hq.st
      have hp := hp.join0 hq
      replace a_e := a_e.step hs
      replace r_1i := r_1i.step hs
      replace r_1j := r_1j.step hs
      replace a_i := a_i.step hs
      replace r_1k := r_1k.step hs
      replace r_1l := r_1l.step hs
      replace tb := tb.step hs
      refine ev_alloc hp rfl T26 ?_
      intro g_1y w_1z hp hs
      replace a_e := a_e.step hs
      replace r_1i := r_1i.step hs
      replace r_1j := r_1j.step hs
      replace a_i := a_i.step hs
      replace r_1k := r_1k.step hs
      replace r_1l := r_1l.step hs
      replace r_1w := r_1w.step hs
      replace r_1x := r_1x.step hs
      replace tb := tb.step hs
      refine ev_storeA hp (i := 0) (off := 0) (vs := [(.bool x_1p.Num.Neg), v_1u, (.bool x_1p.Den.Neg), v_1v]) rfl rfl rfl rfl T26 rfl (Nat.le_of_ble_eq_true rfl) (ones_cons rfl (ones_cons r_1w.one (ones_cons rfl (ones_cons r_1x.one ones_nil)))) ?_
      intro w_20 hp hs
      replace a_e := a_e.step hs
      replace r_1i := r_1i.step hs
      replace r_1j := r_1j.step hs
      replace a_i := a_i.step hs
      replace r_1k := r_1k.step hs
      replace r_1l := r_1l.step hs
      replace r_1w := r_1w.step hs
      replace r_1x := r_1x.step hs
      replace tb := tb.step hs
      apply go
      apply go
      refine ev (rn_load rfl rfl (run_loadVarA T26 rfl a_e)) ?_
      refine ev (rn_load rfl rfl (run_loadVarA T26 rfl a_i)) ?_
      obtain ⟨⟨x_21, x_22⟩, q_23, h⟩ := bind_some h
      refine ev_call rfl rfl C27 (((ref02_Simplest_ok n) _ _  (Rational.mk (Int_2.mk x_0.Num.Neg x_17) (Int_2.mk x_0.Den.Neg x_18)) v_1c r_1i v_1d r_1j (Rational.mk (Int_2.mk x_5.Num.Neg x_19) (Int_2.mk x_5.Den.Neg x_1a)) v_1e r_1k v_1f r_1l hp.imm _ q_23).mono ?_)
      rintro _ w_24 ⟨I_25, v_26, v_27, hv, hq, r_28, r_29⟩
      replace hv := hv.symm
      subst hv
      have hs := hq.st
      have hp := hp.join0 hq
      replace a_e := a_e.step hs
      replace r_1i := r_1i.step hs
      replace r_1j := r_1j.step hs
      replace a_i := a_i.step hs
      replace r_1k := r_1k.step hs
      replace r_1l := r_1l.step hs
      replace r_1w := r_1w.step hs
      replace r_1x := r_1x.step hs
      replace tb := tb.step hs
      refine ev_alloc hp rfl T26 ?_
      intro g_2a w_2b hp hs
      replace a_e := a_e.step hs
      replace r_1i := r_1i.step hs
      replace r_1j := r_1j.step hs
      replace a_i := a_i.step hs
      replace r_1k := r_1k.step hs
      replace r_1l := r_1l.step hs
      replace r_28 := r_28.step hs
      replace r_29 := r_29.step hs
      replace r_1w := r_1w.step hs
      replace r_1x := r_1x.step hs
      replace tb := tb.step hs
      refine ev_storeA hp (i := 0) (off := 0) (vs := [(.bool x_21.Num.Neg), v_26, (.bool x_21.Den.Neg), v_27]) rfl rfl rfl rfl T26 rfl (Nat.le_of_ble_eq_true rfl) (ones_cons rfl (ones_cons r_28.one (ones_cons rfl (ones_cons r_29.one ones_nil)))) ?_
      intro w_2c hp hs
      replace a_e := a_e.step hs
      replace r_1i := r_1i.step hs
      replace r_1j := r_1j.step hs
      replace a_i := a_i.step hs
      replace r_1k := r_1k.step hs
      replace r_1l := r_1l.step hs
      replace r_28 := r_28.step hs
      replace r_29 := r_29.step hs
      replace r_1w := r_1w.step hs
      replace r_1x := r_1x.step hs
      replace tb := tb.step hs
      apply go
      obtain ⟨y_2d, q_2e, h⟩ := bind_some h
      refine W.cut (γ := Bool) (fun g => [(2, (.int .u8 x_a)), (3, (.pointer (some (p_b)))), (4, (.pointer (some (p_f)))), (7, (.pointer (some ⟨g_1y, 0, none⟩))), (8, (.int .i64 x_1q)), (45, (.bool (g)))]) (fun g w' => y_2d = (g) ∧ Hp ⟨w0, I0, []⟩ I_25 [some (g_1y, [(.bool x_1p.Num.Neg), v_1u, (.bool x_1p.Den.Neg), v_1v], 26)] w' ∧ RepS (dI .u32) w' I_25 v_1c x_17 ∧ RepS (dI .u32) w' I_25 v_1d x_18 ∧ At w' I_25 p_b [(.bool x_0.Num.Neg), v_1c, (.bool x_0.Den.Neg), v_1d] ∧ RepS (dI .u32) w' I_25 v_1e x_19 ∧ RepS (dI .u32) w' I_25 v_1f x_1a ∧ At w' I_25 p_f [(.bool x_5.Num.Neg), v_1e, (.bool x_5.Den.Neg), v_1f] ∧ RepS (dI .u32) w' I_25 v_1u x_1p.Num.Mag ∧ RepS (dI .u32) w' I_25 v_1v x_1p.Den.Mag ∧ Tb w' I_25 4 .u64 pow10) ?_ ?_
      ·
        apply go
        refine sel_of (fun hc => ?_) (fun hc => ?_)
        ·
          have q_2e := cond_t q_2e hc
          obtain rfl := Option.some.inj q_2e
          have hp := hp.sel [1] (by decide)
          exact ⟨true, (.c rfl (.c rfl (.c rfl (.c rfl (.c rfl (.c rfl .n)))))), rfl, hp, r_1i, r_1j, a_e, r_1k, r_1l, a_i, r_1w, r_1x, tb⟩
        ·
          have q_2e := cond_f q_2e hc
          refine ev (rn_load rfl rfl (run_loadVarA T26 rfl (hp.at_ (i := 1) rfl))) ?_
          refine ev (rn_load rfl rfl (run_loadVarA T26 rfl (hp.at_ (i := 0) rfl))) ?_
          obtain ⟨x_2f, q_2g, q_2e⟩ := bind_some q_2e
          refine ev_call rfl rfl C14 (((base_Rational_ok n) _ _  (Rational.mk (Int_2.mk x_1p.Num.Neg x_1p.Num.Mag) (Int_2.mk x_1p.Den.Neg x_1p.Den.Mag)) v_1u r_1w v_1v r_1x (Rational.mk (Int_2.mk x_21.Num.Neg x_21.Num.Mag) (Int_2.mk x_21.Den.Neg x_21.Den.Mag)) v_26 r_28 v_27 r_29 hp.imm _ q_2g).mono ?_)
          rintro _ w_2h ⟨rfl, hc⟩
          have hs := hp.stp hc
          replace hp := hp.ext hc
          replace a_e := a_e.step hs
          replace r_1i := r_1i.step hs
          replace r_1j := r_1j.step hs
          replace a_i := a_i.step hs
          replace r_1k := r_1k.step hs
          replace r_1l := r_1l.step hs
          replace r_28 := r_28.step hs
          replace r_29 := r_29.step hs
          replace r_1w := r_1w.step hs
          replace r_1x := r_1x.step hs
          replace tb := tb.step hs
          obtain rfl := Option.some.inj q_2e
          have hp := hp.sel [1] (by decide)
          exact ⟨(!x_2f), (.c rfl (.c rfl (.c rfl (.c rfl (.c rfl (.c rfl .n)))))), rfl, hp, r_1i, r_1j, a_e, r_1k, r_1l, a_i, r_1w, r_1x, tb⟩
      ·
        rintro x_2i w_2j ⟨hy, hp, r_1i, r_1j, a_e, r_1k, r_1l, a_i, r_1w, r_1x, tb⟩
        replace hy := hy.symm
        subst hy
        apply go
        refine sel_of (fun hc => ?_) (fun hc => ?_)
        ·
          have h := cond_t h hc
          apply go
          apply go
          apply go
          obtain rfl := Option.some.inj h
          exact ⟨rfl, hp.ch⟩
        ·
          have h := cond_f h hc
          apply go
          apply go
          apply go
          apply go
          apply go
          refine sel_of (fun hc => ?_) (fun hc => ?_)
          ·
            have h := cond_t h hc
            apply go
            apply go
            apply go
            obtain rfl := Option.some.inj h
            exact ⟨rfl, hp.ch⟩
          ·
            have h := cond_f h hc
            apply go
            apply go
            apply go
            refine ev0 (rn_conv rfl rfl U5 Tryz.underlying3) ?_
            refine ⟨by decide, ?_⟩
            apply go
            apply go
            apply go
            refine ev0 (rn_field rfl rfl FO26_1) ?_
            refine ev (rn_load rfl rfl (run_loadVarA T24 rfl (((hp.at_ (i := 0) rfl).drop 2).take 2))) ?_
            refine ev_litN (d := (dI .u32)) (xs := [1]) (cs := [(.int .u32 1)]) hp rfl rfl Tryz.underlying22 T46 (by decide) rfl rfl (Elems.cons (d := (dI .u32)) (xs := _) rfl (Elems.nil _ _ _ _)) ?_
            intro v_2k I_2l w_2m hp hs r_2n
            replace a_e := a_e.step hs
            replace r_1i := r_1i.step hs
            replace r_1j := r_1j.step hs
            replace a_i := a_i.step hs
            replace r_1k := r_1k.step hs
            replace r_1l := r_1l.step hs
            replace r_1x := r_1x.step hs
            replace r_1w := r_1w.step hs
            replace tb := tb.step hs
            obtain ⟨A_2o, m_2p, m_2q, rfl⟩ := r_2n.isSl
            refine ev0 (fun w => rn_build (cs := [(.bool false), (.slice A_2o m_2p m_2q)]) rfl rfl T24 PL24 rfl) ?_
            obtain ⟨x_2r, q_2s, h⟩ := bind_some h
            refine ev_call rfl rfl C28 (((rational_New_ok n) _ _  (Int_2.mk x_1p.Den.Neg x_1p.Den.Mag) v_1v r_1x (Int_2.mk false [1]) (.slice A_2o m_2p m_2q) r_2n hp.imm _ q_2s).mono ?_)
            rintro _ w_2t ⟨I_2u, v_2v, v_2w, hv, hq, r_2x, r_2y⟩
            replace hv := hv.symm
            subst hv
            have hs := hq.st
            have hp := hp.join0 hq
            replace a_e := a_e.step hs
            replace r_1i := r_1i.step hs
            replace r_1j := r_1j.step hs
            replace a_i := a_i.step hs
            replace r_1k := r_1k.step hs
            replace r_1l := r_1l.step hs
            replace r_1w := r_1w.step hs
            replace r_1x := r_1x.step hs
            replace tb := tb.step hs
            obtain ⟨x_2z, q_30, h⟩ := bind_some h
            refine ev_call rfl rfl C29 (((rational_Of_ok n) _ _  (IntKind.i64.wrap (1 + ((IntKind.i64.wrap x_a).tmod 40))) 1 hp.imm _ q_30).mono ?_)
            rintro _ w_31 ⟨I_32, v_33, v_34, hv, hq, r_35, r_36⟩
            replace hv := hv.symm
            subst hv
            have hs := hq.st
            have hp := hp.join0 hq
            replace a_e := a_e.step hs
            replace r_1i := r_1i.step hs
            replace r_1j := r_1j.step hs
            replace a_i := a_i.step hs
            replace r_1k := r_1k.step hs
            replace r_1l := r_1l.step hs
            replace r_2x := r_2x.step hs
            replace r_2y := r_2y.step hs
            replace r_1w := r_1w.step hs
            replace r_1x := r_1x.step hs
            replace tb := tb.step hs
            obtain ⟨x_37, q_38, h⟩ := bind_some h
            refine ev_call rfl rfl C15 (((rational_Cmp_ok n) _ _  x_2r v_2v r_2x v_2w r_2y x_2z v_33 r_35 v_34 r_36 hp.imm _ q_38).mono ?_)
            rintro _ w_39 ⟨rfl, hc⟩
            have hs := hp.stp hc
            replace hp := hp.ext hc
            replace a_e := a_e.step hs
            replace r_1i := r_1i.step hs
            replace r_1j := r_1j.step hs
            replace a_i := a_i.step hs
            replace r_1k := r_1k.step hs
            replace r_1l := r_1l.step hs
            replace r_1w := r_1w.step hs
            replace r_1x := r_1x.step hs
            replace tb := tb.step hs
            apply go
            refine sel_of (fun hc => ?_) (fun hc => ?_)
            ·
              have h := cond_t h hc
              apply go
              apply go
              apply go
              obtain rfl := Option.some.inj h
              exact ⟨rfl, hp.ch⟩
            ·
              have h := cond_f h hc
              apply go
              obtain ⟨y_3a, q_3b, h⟩ := bind_some h
              refine W.cut (γ := (Bool × (List Int) × Bool × (List Int) × Nat × Value × Value × (Nat → Prop))) (fun g => [(3, (.pointer (some (p_b)))), (11, (.int .i64 (IntKind.i64.wrap (1 + ((IntKind.i64.wrap x_a).tmod 40))))), (12, (.pointer (some ⟨(g.2.2.2.2.1), 0, none⟩)))]) (fun g w' => y_3a = ((g.1), (g.2.1), (g.2.2.1), (g.2.2.2.1)) ∧ Hp ⟨w0, I0, []⟩ (g.2.2.2.2.2.2.2) [some ((g.2.2.2.2.1), [(.bool (g.1)), (g.2.2.2.2.2.1), (.bool (g.2.2.1)), (g.2.2.2.2.2.2.1)], 26)] w' ∧ RepS (dI .u32) w' (g.2.2.2.2.2.2.2) v_1c x_17 ∧ RepS (dI .u32) w' (g.2.2.2.2.2.2.2) v_1d x_18 ∧ At w' (g.2.2.2.2.2.2.2) p_b [(.bool x_0.Num.Neg), v_1c, (.bool x_0.Den.Neg), v_1d] ∧ RepS (dI .u32) w' (g.2.2.2.2.2.2.2) (g.2.2.2.2.2.1) (g.2.1) ∧ RepS (dI .u32) w' (g.2.2.2.2.2.2.2) (g.2.2.2.2.2.2.1) (g.2.2.2.1) ∧ Tb w' (g.2.2.2.2.2.2.2) 4 .u64 pow10) ?_ ?_
              ·
                have hs := hp.stp (Ch.drew [] w_39)
                have hp := hp.drew
                replace a_e := a_e.step hs
                replace r_1i := r_1i.step hs
                replace r_1j := r_1j.step hs
                replace a_i := a_i.step hs
                replace r_1k := r_1k.step hs
                replace r_1l := r_1l.step hs
                replace r_1w := r_1w.step hs
                replace r_1x := r_1x.step hs
                replace tb := tb.step hs
                refine W.heldG (.q 0 (.q 1 (.l 2 (.l 3 (.l 4 (.l 5 (.q 6 (.l 7 (.l 8 (.l 9 .done .no) .no) (.l 8 (.l 7 (.l 9 .done .no) .no) .no))) (.l 8 (.l 5 (.q 6 (.l 7 (.l 9 .done .no) .no)) .no) .no)) (.l 5 (.q 6 (.l 4 (.l 7 (.l 8 (.l 9 .done .no) .no) (.l 8 (.l 7 (.l 9 .done .no) .no) .no)) (.l 8 (.l 4 (.l 7 (.l 9 .done .no) .no) .no) .no))) (.l 8 (.l 4 (.l 5 (.q 6 (.l 7 (.l 9 .done .no) .no)) .no) (.l 5 (.q 6 (.l 4 (.l 7 (.l 9 .done .no) .no) .no)) .no)) .no))) (.l 5 (.q 6 (.l 3 (.l 4 (.l 7 (.l 8 (.l 9 .done .no) .no) (.l 8 (.l 7 (.l 9 .done .no) .no) .no)) (.l 8 (.l 4 (.l 7 (.l 9 .done .no) .no) .no) .no)) (.l 8 (.l 3 (.l 4 (.l 7 (.l 9 .done .no) .no) .no) .no) .no))) (.l 8 (.l 3 (.l 4 (.l 5 (.q 6 (.l 7 (.l 9 .done .no) .no)) .no) (.l 5 (.q 6 (.l 4 (.l 7 (.l 9 .done .no) .no) .no)) .no)) (.l 5 (.q 6 (.l 3 (.l 4 (.l 7 (.l 9 .done .no) .no) .no) .no)) .no)) .no))) (.l 5 (.q 6 (.l 2 (.l 3 (.l 4 (.l 7 (.l 8 (.l 9 .done .no) .no) (.l 8 (.l 7 (.l 9 .done .no) .no) .no)) (.l 8 (.l 4 (.l 7 (.l 9 .done .no) .no) .no) .no)) (.l 8 (.l 3 (.l 4 (.l 7 (.l 9 .done .no) .no) .no) .no) .no)) (.l 8 (.l 2 (.l 3 (.l 4 (.l 7 (.l 9 .done .no) .no) .no) .no) .no) .no))) (.l 8 (.l 2 (.l 3 (.l 4 (.l 5 (.q 6 (.l 7 (.l 9 .done .no) .no)) .no) (.l 5 (.q 6 (.l 4 (.l 7 (.l 9 .done .no) .no) .no)) .no)) (.l 5 (.q 6 (.l 3 (.l 4 (.l 7 (.l 9 .done .no) .no) .no) .no)) .no)) (.l 5 (.q 6 (.l 2 (.l 3 (.l 4 (.l 7 (.l 9 .done .no) .no) .no) .no) .no)) .no)) .no))))) (SK (Stp I_32 w_39.drew I_32) [] []) MX (by kernel_rfl) ⟨Stp.refl _ _, kp_nil⟩ ?_
                have hz := Stp.refl I_32 w_39.drew
                refine ⟨SK.same (by kernel_rfl), ?_⟩
                refine evh (fun w' hw => rn_load rfl rfl (run_loadVarA T26 rfl (a_i.step (S0.si hw)))) ?_
                refine ⟨SK.same (by kernel_rfl), ?_⟩
                refine ⟨?_, ?_⟩
                ·
                  obtain ⟨x_3c, q_3d, q_3b⟩ := bind_some q_3b
                  refine ev_call rfl rfl C29 (((rational_Of_ok n) _ _  (IntKind.i64.wrap (1 + ((IntKind.i64.wrap x_a).tmod 40))) 1 hp.imm _ q_3d).mono ?_)
                  rintro _ w_3e ⟨I_3f, v_3g, v_3h, hv, hq, r_3i, r_3j⟩
                  replace hv := hv.symm
                  subst hv
                  have hs := hq.st
                  have hp := hp.join0 hq
                  replace hz := hz.trans hs
                  replace a_e := a_e.step hs
                  replace r_1i := r_1i.step hs
                  replace r_1j := r_1j.step hs
                  replace r_1k := r_1k.step hs
                  replace r_1l := r_1l.step hs
                  replace r_1w := r_1w.step hs
                  replace r_1x := r_1x.step hs
                  replace tb := tb.step hs
                  refine ⟨SK (Stp I_3f w_3e I_3f) [] [], ⟨Stp.refl _ _, kp_nil⟩, fun L x h => ⟨hz.held h.1, h.2⟩, ?_⟩
                  have hz := Stp.refl I_3f w_3e
                  refine ⟨?_, ?_⟩
                  ·
                    obtain ⟨x_3k, q_3l, q_3b⟩ := bind_some q_3b
                    refine ev_call rfl rfl C30 (((rational_Mul_ok n) _ _  (Rational.mk (Int_2.mk x_5.Num.Neg x_19) (Int_2.mk x_5.Den.Neg x_1a)) v_1e r_1k v_1f r_1l x_3c v_3g r_3i v_3h r_3j hp.imm _ q_3l).mono ?_)
                    rintro _ w_3m ⟨I_3n, v_3o, v_3p, hv, hq, r_3q, r_3r⟩
                    replace hv := hv.symm
                    subst hv
                    have hs := hq.st
                    have hp := hp.join0 hq
                    replace hz := hz.trans hs
                    replace a_e := a_e.step hs
                    replace r_1i := r_1i.step hs
                    replace r_1j := r_1j.step hs
                    replace r_1w := r_1w.step hs
                    replace r_1x := r_1x.step hs
                    replace tb := tb.step hs
                    refine ⟨SK (Stp I_3n w_3m I_3n) [] [], ⟨Stp.refl _ _, kp_nil⟩, fun L x h => ⟨hz.held h.1, h.2⟩, ?_⟩
                    have hz := Stp.refl I_3n w_3m
                    refine ⟨?_, ?_⟩
                    ·
                      obtain ⟨x_3s, q_3t, q_3b⟩ := bind_some q_3b
                      refine ev_call rfl rfl C18 (((rational_Floor_ok n) _ _  x_3k v_3o r_3q v_3p r_3r hp.imm _ q_3t).mono ?_)
                      rintro _ w_3u ⟨I_3v, v_3w, hv, hq, r_3x⟩
                      replace hv := hv.symm
                      subst hv
                      have hs := hq.st
                      have hp := hp.join0 hq
                      replace hz := hz.trans hs
                      replace a_e := a_e.step hs
                      replace r_1i := r_1i.step hs
                      replace r_1j := r_1j.step hs
                      replace r_1w := r_1w.step hs
                      replace r_1x := r_1x.step hs
                      replace tb := tb.step hs
                      refine ⟨SK (Stp I_3v w_3u I_3v) [] [], ⟨Stp.refl _ _, kp_nil⟩, fun L x h => ⟨hz.held h.1, h.2⟩, ?_⟩
                      have hz := Stp.refl I_3v w_3u
                      refine ⟨?_, ?_⟩
                      ·
                        refine ev_litN (d := (dI .u32)) (xs := [1]) (cs := [(.int .u32 1)]) hp rfl rfl Tryz.underlying22 T46 (by decide) rfl rfl (Elems.cons (d := (dI .u32)) (xs := _) rfl (Elems.nil _ _ _ _)) ?_
                        intro v_3y I_3z w_40 hp hs r_41
                        replace hz := hz.trans hs
                        replace a_e := a_e.step hs
                        replace r_1i := r_1i.step hs
                        replace r_1j := r_1j.step hs
                        replace r_3x := r_3x.step hs
                        replace r_1w := r_1w.step hs
                        replace r_1x := r_1x.step hs
                        replace tb := tb.step hs
                        refine ⟨SK (Stp I_3z w_40 I_3z) [] [], ⟨Stp.refl _ _, kp_nil⟩, fun L x h => ⟨hz.held h.1, h.2⟩, ?_⟩
                        have hz := Stp.refl I_3z w_40
                        refine ⟨SK.same (by kernel_rfl), ?_⟩
                        obtain ⟨A_42, m_43, m_44, rfl⟩ := r_41.isSl
                        refine evh0 (fun w => rn_build (cs := [(.bool false), (.slice A_42 m_43 m_44)]) rfl rfl T24 PL24 rfl) ?_
                        refine ⟨?_, ?_⟩
                        ·
                          obtain ⟨x_45, q_46, q_3b⟩ := bind_some q_3b
                          refine ev_call rfl rfl C28 (((rational_New_ok n) _ _  x_3s v_3w r_3x (Int_2.mk false [1]) (.slice A_42 m_43 m_44) r_41 hp.imm _ q_46).mono ?_)
                          rintro _ w_47 ⟨I_48, v_49, v_4a, hv, hq, r_4b, r_4c⟩
                          replace hv := hv.symm
                          subst hv
                          have hs := hq.st
                          have hp := hp.join0 hq
                          replace hz := hz.trans hs
                          replace a_e := a_e.step hs
                          replace r_1i := r_1i.step hs
                          replace r_1j := r_1j.step hs
                          replace r_1w := r_1w.step hs
                          replace r_1x := r_1x.step hs
                          replace tb := tb.step hs
                          refine ⟨SK (Stp I_48 w_47 I_48) [] [], ⟨Stp.refl _ _, kp_nil⟩, fun L x h => ⟨hz.held h.1, h.2⟩, ?_⟩
                          have hz := Stp.refl I_48 w_47
                          refine ⟨?_, trivial⟩
                          refine ev_alloc hp rfl T26 ?_
                          intro g_4d w_4e hp hs
                          replace hz := hz.trans hs
                          replace a_e := a_e.step hs
                          replace r_1i := r_1i.step hs
                          replace r_1j := r_1j.step hs
                          replace r_4b := r_4b.step hs
                          replace r_4c := r_4c.step hs
                          replace r_1w := r_1w.step hs
                          replace r_1x := r_1x.step hs
                          replace tb := tb.step hs
                          refine ⟨SK (Stp I_48 w_4e I_48) [] [], ⟨Stp.refl _ _, kp_nil⟩, fun L x h => ⟨hz.held h.1, h.2⟩, ?_⟩
                          have hz := Stp.refl I_48 w_4e
                          refine ⟨?_, trivial⟩
                          refine ev_storeA hp (i := 0) (off := 0) (vs := [(.bool x_45.Num.Neg), v_49, (.bool x_45.Den.Neg), v_4a]) rfl rfl rfl rfl T26 rfl (Nat.le_of_ble_eq_true rfl) (ones_cons rfl (ones_cons r_4b.one (ones_cons rfl (ones_cons r_4c.one ones_nil)))) ?_
                          intro w_4f hp hs
                          replace hz := hz.trans hs
                          replace a_e := a_e.step hs
                          replace r_1i := r_1i.step hs
                          replace r_1j := r_1j.step hs
                          replace r_4b := r_4b.step hs
                          replace r_4c := r_4c.step hs
                          replace r_1w := r_1w.step hs
                          replace r_1x := r_1x.step hs
                          replace tb := tb.step hs
                          refine ⟨SK (Stp I_48 w_4f I_48) [] [], ⟨Stp.refl _ _, kp_nil⟩, fun L x h => ⟨hz.held h.1, h.2⟩, ?_⟩
                          have hz := Stp.refl I_48 w_4f
                          obtain rfl := Option.some.inj q_3b
                          have hp := hp.sel [0] (by decide)
                          exact ⟨(x_45.Num.Neg, x_45.Num.Mag, x_45.Den.Neg, x_45.Den.Mag, g_4d, v_49, v_4a, I_48), (.c rfl (.c rfl (.c rfl .n))), rfl, hp, r_1i, r_1j, a_e, r_4b, r_4c, tb⟩
                        refine ⟨?_, trivial⟩
                        refine ev_alloc hp rfl T26 ?_
                        intro g_4g w_4h hp hs
                        replace hz := hz.trans hs
                        replace a_e := a_e.step hs
                        replace r_1i := r_1i.step hs
                        replace r_1j := r_1j.step hs
                        replace r_3x := r_3x.step hs
                        replace r_41 := r_41.step hs
                        replace r_1w := r_1w.step hs
                        replace r_1x := r_1x.step hs
                        replace tb := tb.step hs
                        refine ⟨SK (Stp I_3z w_4h I_3z) [] [], ⟨Stp.refl _ _, kp_nil⟩, fun L x h => ⟨hz.held h.1, h.2⟩, ?_⟩
                        have hz := Stp.refl I_3z w_4h
                        refine ⟨?_, trivial⟩
                        obtain ⟨x_4i, q_4j, q_3b⟩ := bind_some q_3b
                        refine ev_call rfl rfl C28 (((rational_New_ok n) _ _  x_3s v_3w r_3x (Int_2.mk false [1]) (.slice A_42 m_43 m_44) r_41 hp.imm _ q_4j).mono ?_)
                        rintro _ w_4k ⟨I_4l, v_4m, v_4n, hv, hq, r_4o, r_4p⟩
                        replace hv := hv.symm
                        subst hv
                        have hs := hq.st
                        have hp := hp.join0 hq
                        replace hz := hz.trans hs
                        replace a_e := a_e.step hs
                        replace r_1i := r_1i.step hs
                        replace r_1j := r_1j.step hs
                        replace r_1w := r_1w.step hs
                        replace r_1x := r_1x.step hs
                        replace tb := tb.step hs
                        refine ⟨SK (Stp I_4l w_4k I_4l) [] [], ⟨Stp.refl _ _, kp_nil⟩, fun L x h => ⟨hz.held h.1, h.2⟩, ?_⟩
                        have hz := Stp.refl I_4l w_4k
                        refine ⟨?_, trivial⟩
                        refine ev_storeA hp (i := 0) (off := 0) (vs := [(.bool x_4i.Num.Neg), v_4m, (.bool x_4i.Den.Neg), v_4n]) rfl rfl rfl rfl T26 rfl (Nat.le_of_ble_eq_true rfl) (ones_cons rfl (ones_cons r_4o.one (ones_cons rfl (ones_cons r_4p.one ones_nil)))) ?_
                        intro w_4q hp hs
                        replace hz := hz.trans hs
                        replace a_e := a_e.step hs
                        replace r_1i := r_1i.step hs
                        replace r_1j := r_1j.step hs
                        replace r_4o := r_4o.step hs
                        replace r_4p := r_4p.step hs
                        replace r_1w := r_1w.step hs
                        replace r_1x := r_1x.step hs
                        replace tb := tb.step hs
                        refine ⟨SK (Stp I_4l w_4q I_4l) [] [], ⟨Stp.refl _ _, kp_nil⟩, fun L x h => ⟨hz.held h.1, h.2⟩, ?_⟩
                        have hz := Stp.refl I_4l w_4q
                        obtain rfl := Option.some.inj q_3b
                        have hp := hp.sel [0] (by decide)
                        exact ⟨(x_4i.Num.Neg, x_4i.Num.Mag, x_4i.Den.Neg, x_4i.Den.Mag, g_4g, v_4m, v_4n, I_4l), (.c rfl (.c rfl (.c rfl .n))), rfl, hp, r_1i, r_1j, a_e, r_4o, r_4p, tb⟩
                      refine ⟨?_, trivial⟩
                      refine ev_alloc hp rfl T26 ?_
                      intro g_4r w_4s hp hs
                      replace hz := hz.trans hs
                      replace a_e := a_e.step hs
                      replace r_1i := r_1i.step hs
                      replace r_1j := r_1j.step hs
                      replace r_3x := r_3x.step hs
                      replace r_1w := r_1w.step hs
                      replace r_1x := r_1x.step hs
                      replace tb := tb.step hs
                      refine ⟨SK (Stp I_3v w_4s I_3v) [] [], ⟨Stp.refl _ _, kp_nil⟩, fun L x h => ⟨hz.held h.1, h.2⟩, ?_⟩
                      have hz := Stp.refl I_3v w_4s
                      refine ⟨?_, trivial⟩
                      refine ev_litN (d := (dI .u32)) (xs := [1]) (cs := [(.int .u32 1)]) hp rfl rfl Tryz.underlying22 T46 (by decide) rfl rfl (Elems.cons (d := (dI .u32)) (xs := _) rfl (Elems.nil _ _ _ _)) ?_
                      intro v_4t I_4u w_4v hp hs r_4w
                      replace hz := hz.trans hs
                      replace a_e := a_e.step hs
                      replace r_1i := r_1i.step hs
                      replace r_1j := r_1j.step hs
                      replace r_3x := r_3x.step hs
                      replace r_1w := r_1w.step hs
                      replace r_1x := r_1x.step hs
                      replace tb := tb.step hs
                      refine ⟨SK (Stp I_4u w_4v I_4u) [] [], ⟨Stp.refl _ _, kp_nil⟩, fun L x h => ⟨hz.held h.1, h.2⟩, ?_⟩
                      have hz := Stp.refl I_4u w_4v
                      refine ⟨SK.same (by kernel_rfl), ?_⟩
                      obtain ⟨A_4x, m_4y, m_4z, rfl⟩ := r_4w.isSl
                      refine evh0 (fun w => rn_build (cs := [(.bool false), (.slice A_4x m_4y m_4z)]) rfl rfl T24 PL24 rfl) ?_
                      refine ⟨?_, trivial⟩
                      obtain ⟨x_50, q_51, q_3b⟩ := bind_some q_3b
                      refine ev_call rfl rfl C28 (((rational_New_ok n) _ _  x_3s v_3w r_3x (Int_2.mk false [1]) (.slice A_4x m_4y m_4z) r_4w hp.imm _ q_51).mono ?_)
                      rintro _ w_52 ⟨I_53, v_54, v_55, hv, hq, r_56, r_57⟩
                      replace hv := hv.symm
                      subst hv
                      have hs := hq.st
                      have hp := hp.join0 hq
                      replace hz := hz.trans hs
                      replace a_e := a_e.step hs
                      replace r_1i := r_1i.step hs
                      replace r_1j := r_1j.step hs
                      replace r_1w := r_1w.step hs
                      replace r_1x := r_1x.step hs
                      replace tb := tb.step hs
                      refine ⟨SK (Stp I_53 w_52 I_53) [] [], ⟨Stp.refl _ _, kp_nil⟩, fun L x h => ⟨hz.held h.1, h.2⟩, ?_⟩
                      have hz := Stp.refl I_53 w_52
                      refine ⟨?_, trivial⟩
                      refine ev_storeA hp (i := 0) (off := 0) (vs := [(.bool x_50.Num.Neg), v_54, (.bool x_50.Den.Neg), v_55]) rfl rfl rfl rfl T26 rfl (Nat.le_of_ble_eq_true rfl) (ones_cons rfl (ones_cons r_56.one (ones_cons rfl (ones_cons r_57.one ones_nil)))) ?_
                      intro w_58 hp hs
                      replace hz := hz.trans hs
                      replace a_e := a_e.step hs
                      replace r_1i := r_1i.step hs
                      replace r_1j := r_1j.step hs
                      replace r_56 := r_56.step hs
                      replace r_57 := r_57.step hs
                      replace r_1w := r_1w.step hs
                      replace r_1x := r_1x.step hs
                      replace tb := tb.step hs
                      refine ⟨SK (Stp I_53 w_58 I_53) [] [], ⟨Stp.refl _ _, kp_nil⟩, fun L x h => ⟨hz.held h.1, h.2⟩, ?_⟩
                      have hz := Stp.refl I_53 w_58
                      obtain rfl := Option.some.inj q_3b
                      have hp := hp.sel [0] (by decide)
                      exact ⟨(x_50.Num.Neg, x_50.Num.Mag, x_50.Den.Neg, x_50.Den.Mag, g_4r, v_54, v_55, I_53), (.c rfl (.c rfl (.c rfl .n))), rfl, hp, r_1i, r_1j, a_e, r_56, r_57, tb⟩
                    refine ⟨?_, ?_⟩
                    ·
                      refine ev_litN (d := (dI .u32)) (xs := [1]) (cs := [(.int .u32 1)]) hp rfl rfl Tryz.underlying22 T46 (by decide) rfl rfl (Elems.cons (d := (dI .u32)) (xs := _) rfl (Elems.nil _ _ _ _)) ?_
                      intro v_59 I_5a w_5b hp hs r_5c
                      replace hz := hz.trans hs
                      replace a_e := a_e.step hs
                      replace r_1i := r_1i.step hs
                      replace r_1j := r_1j.step hs
                      replace r_3q := r_3q.step hs
                      replace r_3r := r_3r.step hs
                      replace r_1w := r_1w.step hs
                      replace r_1x := r_1x.step hs
                      replace tb := tb.step hs
                      refine ⟨SK (Stp I_5a w_5b I_5a) [] [], ⟨Stp.refl _ _, kp_nil⟩, fun L x h => ⟨hz.held h.1, h.2⟩, ?_⟩
                      have hz := Stp.refl I_5a w_5b
                      refine ⟨SK.same (by kernel_rfl), ?_⟩
                      obtain ⟨A_5d, m_5e, m_5f, rfl⟩ := r_5c.isSl
                      refine evh0 (fun w => rn_build (cs := [(.bool false), (.slice A_5d m_5e m_5f)]) rfl rfl T24 PL24 rfl) ?_
                      refine ⟨?_, ?_⟩
                      ·
                        obtain ⟨x_5g, q_5h, q_3b⟩ := bind_some q_3b
                        refine ev_call rfl rfl C18 (((rational_Floor_ok n) _ _  x_3k v_3o r_3q v_3p r_3r hp.imm _ q_5h).mono ?_)
                        rintro _ w_5i ⟨I_5j, v_5k, hv, hq, r_5l⟩
                        replace hv := hv.symm
                        subst hv
                        have hs := hq.st
                        have hp := hp.join0 hq
                        replace hz := hz.trans hs
                        replace a_e := a_e.step hs
                        replace r_1i := r_1i.step hs
                        replace r_1j := r_1j.step hs
                        replace r_5c := r_5c.step hs
                        replace r_1w := r_1w.step hs
                        replace r_1x := r_1x.step hs
                        replace tb := tb.step hs
                        refine ⟨SK (Stp I_5j w_5i I_5j) [] [], ⟨Stp.refl _ _, kp_nil⟩, fun L x h => ⟨hz.held h.1, h.2⟩, ?_⟩
                        have hz := Stp.refl I_5j w_5i
                        refine ⟨?_, ?_⟩
                        ·
                          obtain ⟨x_5m, q_5n, q_3b⟩ := bind_some q_3b
                          refine ev_call rfl rfl C28 (((rational_New_ok n) _ _  x_5g v_5k r_5l (Int_2.mk false [1]) (.slice A_5d m_5e m_5f) r_5c hp.imm _ q_5n).mono ?_)
                          rintro _ w_5o ⟨I_5p, v_5q, v_5r, hv, hq, r_5s, r_5t⟩
                          replace hv := hv.symm
                          subst hv
                          have hs := hq.st
                          have hp := hp.join0 hq
                          replace hz := hz.trans hs
                          replace a_e := a_e.step hs
                          replace r_1i := r_1i.step hs
                          replace r_1j := r_1j.step hs
                          replace r_1w := r_1w.step hs
                          replace r_1x := r_1x.step hs
                          replace tb := tb.step hs
                          refine ⟨SK (Stp I_5p w_5o I_5p) [] [], ⟨Stp.refl _ _, kp_nil⟩, fun L x h => ⟨hz.held h.1, h.2⟩, ?_⟩
                          have hz := Stp.refl I_5p w_5o
                          refine ⟨?_, trivial⟩
                          refine ev_alloc hp rfl T26 ?_
                          intro g_5u w_5v hp hs
                          replace hz := hz.trans hs
                          replace a_e := a_e.step hs
                          replace r_1i := r_1i.step hs
                          replace r_1j := r_1j.step hs
                          replace r_5s := r_5s.step hs
                          replace r_5t := r_5t.step hs
                          replace r_1w := r_1w.step hs
                          replace r_1x := r_1x.step hs
                          replace tb := tb.step hs
                          refine ⟨SK (Stp I_5p w_5v I_5p) [] [], ⟨Stp.refl _ _, kp_nil⟩, fun L x h => ⟨hz.held h.1, h.2⟩, ?_⟩
                          have hz := Stp.refl I_5p w_5v
                          refine ⟨?_, trivial⟩
                          refine ev_storeA hp (i := 0) (off := 0) (vs := [(.bool x_5m.Num.Neg), v_5q, (.bool x_5m.Den.Neg), v_5r]) rfl rfl rfl rfl T26 rfl (Nat.le_of_ble_eq_true rfl) (ones_cons rfl (ones_cons r_5s.one (ones_cons rfl (ones_cons r_5t.one ones_nil)))) ?_
                          intro w_5w hp hs
                          replace hz := hz.trans hs
                          replace a_e := a_e.step hs
                          replace r_1i := r_1i.step hs
                          replace r_1j := r_1j.step hs
                          replace r_5s := r_5s.step hs
                          replace r_5t := r_5t.step hs
                          replace r_1w := r_1w.step hs
                          replace r_1x := r_1x.step hs
                          replace tb := tb.step hs
                          refine ⟨SK (Stp I_5p w_5w I_5p) [] [], ⟨Stp.refl _ _, kp_nil⟩, fun L x h => ⟨hz.held h.1, h.2⟩, ?_⟩
                          have hz := Stp.refl I_5p w_5w
                          obtain rfl := Option.some.inj q_3b
                          have hp := hp.sel [0] (by decide)
                          exact ⟨(x_5m.Num.Neg, x_5m.Num.Mag, x_5m.Den.Neg, x_5m.Den.Mag, g_5u, v_5q, v_5r, I_5p), (.c rfl (.c rfl (.c rfl .n))), rfl, hp, r_1i, r_1j, a_e, r_5s, r_5t, tb⟩
                        refine ⟨?_, trivial⟩
                        refine ev_alloc hp rfl T26 ?_
                        intro g_5x w_5y hp hs
                        replace hz := hz.trans hs
                        replace a_e := a_e.step hs
                        replace r_1i := r_1i.step hs
                        replace r_1j := r_1j.step hs
                        replace r_5c := r_5c.step hs
                        replace r_5l := r_5l.step hs
                        replace r_1w := r_1w.step hs
                        replace r_1x := r_1x.step hs
                        replace tb := tb.step hs
                        refine ⟨SK (Stp I_5j w_5y I_5j) [] [], ⟨Stp.refl _ _, kp_nil⟩, fun L x h => ⟨hz.held h.1, h.2⟩, ?_⟩
                        have hz := Stp.refl I_5j w_5y
                        refine ⟨?_, trivial⟩
                        obtain ⟨x_5z, q_60, q_3b⟩ := bind_some q_3b
                        refine ev_call rfl rfl C28 (((rational_New_ok n) _ _  x_5g v_5k r_5l (Int_2.mk false [1]) (.slice A_5d m_5e m_5f) r_5c hp.imm _ q_60).mono ?_)
                        rintro _ w_61 ⟨I_62, v_63, v_64, hv, hq, r_65, r_66⟩
                        replace hv := hv.symm
                        subst hv
                        have hs := hq.st
                        have hp := hp.join0 hq
                        replace hz := hz.trans hs
                        replace a_e := a_e.step hs
                        replace r_1i := r_1i.step hs
                        replace r_1j := r_1j.step hs
                        replace r_1w := r_1w.step hs
                        replace r_1x := r_1x.step hs
                        replace tb := tb.step hs
                        refine ⟨SK (Stp I_62 w_61 I_62) [] [], ⟨Stp.refl _ _, kp_nil⟩, fun L x h => ⟨hz.held h.1, h.2⟩, ?_⟩
                        have hz := Stp.refl I_62 w_61
                        refine ⟨?_, trivial⟩
                        refine ev_storeA hp (i := 0) (off := 0) (vs := [(.bool x_5z.Num.Neg), v_63, (.bool x_5z.Den.Neg), v_64]) rfl rfl rfl rfl T26 rfl (Nat.le_of_ble_eq_true rfl) (ones_cons rfl (ones_cons r_65.one (ones_cons rfl (ones_cons r_66.one ones_nil)))) ?_
                        intro w_67 hp hs
                        replace hz := hz.trans hs
                        replace a_e := a_e.step hs
                        replace r_1i := r_1i.step hs
                        replace r_1j := r_1j.step hs
                        replace r_65 := r_65.step hs
                        replace r_66 := r_66.step hs
                        replace r_1w := r_1w.step hs
                        replace r_1x := r_1x.step hs
                        replace tb := tb.step hs
                        refine ⟨SK (Stp I_62 w_67 I_62) [] [], ⟨Stp.refl _ _, kp_nil⟩, fun L x h => ⟨hz.held h.1, h.2⟩, ?_⟩
                        have hz := Stp.refl I_62 w_67
                        obtain rfl := Option.some.inj q_3b
                        have hp := hp.sel [0] (by decide)
                        exact ⟨(x_5z.Num.Neg, x_5z.Num.Mag, x_5z.Den.Neg, x_5z.Den.Mag, g_5x, v_63, v_64, I_62), (.c rfl (.c rfl (.c rfl .n))), rfl, hp, r_1i, r_1j, a_e, r_65, r_66, tb⟩
                      refine ⟨?_, trivial⟩
                      refine ev_alloc hp rfl T26 ?_
                      intro g_68 w_69 hp hs
                      replace hz := hz.trans hs
                      replace a_e := a_e.step hs
                      replace r_1i := r_1i.step hs
                      replace r_1j := r_1j.step hs
                      replace r_3q := r_3q.step hs
                      replace r_3r := r_3r.step hs
                      replace r_5c := r_5c.step hs
                      replace r_1w := r_1w.step hs
                      replace r_1x := r_1x.step hs
                      replace tb := tb.step hs
                      refine ⟨SK (Stp I_5a w_69 I_5a) [] [], ⟨Stp.refl _ _, kp_nil⟩, fun L x h => ⟨hz.held h.1, h.2⟩, ?_⟩
                      have hz := Stp.refl I_5a w_69
                      refine ⟨?_, trivial⟩
                      obtain ⟨x_6a, q_6b, q_3b⟩ := bind_some q_3b
                      refine ev_call rfl rfl C18 (((rational_Floor_ok n) _ _  x_3k v_3o r_3q v_3p r_3r hp.imm _ q_6b).mono ?_)
                      rintro _ w_6c ⟨I_6d, v_6e, hv, hq, r_6f⟩
                      replace hv := hv.symm
                      subst hv
                      have hs := hq.st
                      have hp := hp.join0 hq
                      replace hz := hz.trans hs
                      replace a_e := a_e.step hs
                      replace r_1i := r_1i.step hs
                      replace r_1j := r_1j.step hs
                      replace r_5c := r_5c.step hs
                      replace r_1w := r_1w.step hs
                      replace r_1x := r_1x.step hs
                      replace tb := tb.step hs
                      refine ⟨SK (Stp I_6d w_6c I_6d) [] [], ⟨Stp.refl _ _, kp_nil⟩, fun L x h => ⟨hz.held h.1, h.2⟩, ?_⟩
                      have hz := Stp.refl I_6d w_6c
                      refine ⟨?_, trivial⟩
                      obtain ⟨x_6g, q_6h, q_3b⟩ := bind_some q_3b
                      refine ev_call rfl rfl C28 (((rational_New_ok n) _ _  x_6a v_6e r_6f (Int_2.mk false [1]) (.slice A_5d m_5e m_5f) r_5c hp.imm _ q_6h).mono ?_)
                      rintro _ w_6i ⟨I_6j, v_6k, v_6l, hv, hq, r_6m, r_6n⟩
                      replace hv := hv.symm
                      subst hv
                      have hs := hq.st
                      have hp := hp.join0 hq
                      replace hz := hz.trans hs
                      replace a_e := a_e.step hs
                      replace r_1i := r_1i.step hs
                      replace r_1j := r_1j.step hs
                      replace r_1w := r_1w.step hs
                      replace r_1x := r_1x.step hs
                      replace tb := tb.step hs
                      refine ⟨SK (Stp I_6j w_6i I_6j) [] [], ⟨Stp.refl _ _, kp_nil⟩, fun L x h => ⟨hz.held h.1, h.2⟩, ?_⟩
                      have hz := Stp.refl I_6j w_6i
                      refine ⟨?_, trivial⟩
                      refine ev_storeA hp (i := 0) (off := 0) (vs := [(.bool x_6g.Num.Neg), v_6k, (.bool x_6g.Den.Neg), v_6l]) rfl rfl rfl rfl T26 rfl (Nat.le_of_ble_eq_true rfl) (ones_cons rfl (ones_cons r_6m.one (ones_cons rfl (ones_cons r_6n.one ones_nil)))) ?_
                      intro w_6o hp hs
                      replace hz := hz.trans hs
                      replace a_e := a_e.step hs
                      replace r_1i := r_1i.step hs
                      replace r_1j := r_1j.step hs
                      replace r_6m := r_6m.step hs
                      replace r_6n := r_6n.step hs
                      replace r_1w := r_1w.step hs
                      replace r_1x := r_1x.step hs
                      replace tb := tb.step hs
                      refine ⟨SK (Stp I_6j w_6o I_6j) [] [], ⟨Stp.refl _ _, kp_nil⟩, fun L x h => ⟨hz.held h.1, h.2⟩, ?_⟩
                      have hz := Stp.refl I_6j w_6o
                      obtain rfl := Option.some.inj q_3b
                      have hp := hp.sel [0] (by decide)
                      exact ⟨(x_6g.Num.Neg, x_6g.Num.Mag, x_6g.Den.Neg, x_6g.Den.Mag, g_68, v_6k, v_6l, I_6j), (.c rfl (.c rfl (.c rfl .n))), rfl, hp, r_1i, r_1j, a_e, r_6m, r_6n, tb⟩
                    refine ⟨?_, trivial⟩
                    refine ev_alloc hp rfl T26 ?_
                    intro g_6p w_6q hp hs
                    replace hz := hz.trans hs
                    replace a_e := a_e.step hs
                    replace r_1i := r_1i.step hs
                    replace r_1j := r_1j.step hs
                    replace r_3q := r_3q.step hs
                    replace r_3r := r_3r.step hs
                    replace r_1w := r_1w.step hs
                    replace r_1x := r_1x.step hs
                    replace tb := tb.step hs
                    refine ⟨SK (Stp I_3n w_6q I_3n) [] [], ⟨Stp.refl _ _, kp_nil⟩, fun L x h => ⟨hz.held h.1, h.2⟩, ?_⟩
                    have hz := Stp.refl I_3n w_6q
                    refine ⟨?_, ?_⟩
                    ·
                      obtain ⟨x_6r, q_6s, q_3b⟩ := bind_some q_3b
                      refine ev_call rfl rfl C18 (((rational_Floor_ok n) _ _  x_3k v_3o r_3q v_3p r_3r hp.imm _ q_6s).mono ?_)
                      rintro _ w_6t ⟨I_6u, v_6v, hv, hq, r_6w⟩
                      replace hv := hv.symm
                      subst hv
                      have hs := hq.st
                      have hp := hp.join0 hq
                      replace hz := hz.trans hs
                      replace a_e := a_e.step hs
                      replace r_1i := r_1i.step hs
                      replace r_1j := r_1j.step hs
                      replace r_1w := r_1w.step hs
                      replace r_1x := r_1x.step hs
                      replace tb := tb.step hs
                      refine ⟨SK (Stp I_6u w_6t I_6u) [] [], ⟨Stp.refl _ _, kp_nil⟩, fun L x h => ⟨hz.held h.1, h.2⟩, ?_⟩
                      have hz := Stp.refl I_6u w_6t
                      refine ⟨?_, trivial⟩
                      refine ev_litN (d := (dI .u32)) (xs := [1]) (cs := [(.int .u32 1)]) hp rfl rfl Tryz.underlying22 T46 (by decide) rfl rfl (Elems.cons (d := (dI .u32)) (xs := _) rfl (Elems.nil _ _ _ _)) ?_
                      intro v_6x I_6y w_6z hp hs r_70
                      replace hz := hz.trans hs
                      replace a_e := a_e.step hs
                      replace r_1i := r_1i.step hs
                      replace r_1j := r_1j.step hs
                      replace r_6w := r_6w.step hs
                      replace r_1w := r_1w.step hs
                      replace r_1x := r_1x.step hs
                      replace tb := tb.step hs
                      refine ⟨SK (Stp I_6y w_6z I_6y) [] [], ⟨Stp.refl _ _, kp_nil⟩, fun L x h => ⟨hz.held h.1, h.2⟩, ?_⟩
                      have hz := Stp.refl I_6y w_6z
                      refine ⟨SK.same (by kernel_rfl), ?_⟩
                      obtain ⟨A_71, m_72, m_73, rfl⟩ := r_70.isSl
                      refine evh0 (fun w => rn_build (cs := [(.bool false), (.slice A_71 m_72 m_73)]) rfl rfl T24 PL24 rfl) ?_
                      refine ⟨?_, trivial⟩
                      obtain ⟨x_74, q_75, q_3b⟩ := bind_some q_3b
                      refine ev_call rfl rfl C28 (((rational_New_ok n) _ _  x_6r v_6v r_6w (Int_2.mk false [1]) (.slice A_71 m_72 m_73) r_70 hp.imm _ q_75).mono ?_)
                      rintro _ w_76 ⟨I_77, v_78, v_79, hv, hq, r_7a, r_7b⟩
                      replace hv := hv.symm
                      subst hv
                      have hs := hq.st
                      have hp := hp.join0 hq
                      replace hz := hz.trans hs
                      replace a_e := a_e.step hs
                      replace r_1i := r_1i.step hs
                      replace r_1j := r_1j.step hs
                      replace r_1w := r_1w.step hs
                      replace r_1x := r_1x.step hs
                      replace tb := tb.step hs
                      refine ⟨SK (Stp I_77 w_76 I_77) [] [], ⟨Stp.refl _ _, kp_nil⟩, fun L x h => ⟨hz.held h.1, h.2⟩, ?_⟩
                      have hz := Stp.refl I_77 w_76
                      refine ⟨?_, trivial⟩
                      refine ev_storeA hp (i := 0) (off := 0) (vs := [(.bool x_74.Num.Neg), v_78, (.bool x_74.Den.Neg), v_79]) rfl rfl rfl rfl T26 rfl (Nat.le_of_ble_eq_true rfl) (ones_cons rfl (ones_cons r_7a.one (ones_cons rfl (ones_cons r_7b.one ones_nil)))) ?_
                      intro w_7c hp hs
                      replace hz := hz.trans hs
                      replace a_e := a_e.step hs
                      replace r_1i := r_1i.step hs
                      replace r_1j := r_1j.step hs
                      replace r_7a := r_7a.step hs
                      replace r_7b := r_7b.step hs
                      replace r_1w := r_1w.step hs
                      replace r_1x := r_1x.step hs
                      replace tb := tb.step hs
                      refine ⟨SK (Stp I_77 w_7c I_77) [] [], ⟨Stp.refl _ _, kp_nil⟩, fun L x h => ⟨hz.held h.1, h.2⟩, ?_⟩
                      have hz := Stp.refl I_77 w_7c
                      obtain rfl := Option.some.inj q_3b
                      have hp := hp.sel [0] (by decide)
                      exact ⟨(x_74.Num.Neg, x_74.Num.Mag, x_74.Den.Neg, x_74.Den.Mag, g_6p, v_78, v_79, I_77), (.c rfl (.c rfl (.c rfl .n))), rfl, hp, r_1i, r_1j, a_e, r_7a, r_7b, tb⟩
                    refine ⟨?_, trivial⟩
                    refine ev_litN (d := (dI .u32)) (xs := [1]) (cs := [(.int .u32 1)]) hp rfl rfl Tryz.underlying22 T46 (by decide) rfl rfl (Elems.cons (d := (dI .u32)) (xs := _) rfl (Elems.nil _ _ _ _)) ?_
                    intro v_7d I_7e w_7f hp hs r_7g
                    replace hz := hz.trans hs
                    replace a_e := a_e.step hs
                    replace r_1i := r_1i.step hs
                    replace r_1j := r_1j.step hs
                    replace r_3q := r_3q.step hs
                    replace r_3r := r_3r.step hs
                    replace r_1w := r_1w.step hs
                    replace r_1x := r_1x.step hs
                    replace tb := tb.step hs
                    refine ⟨SK (Stp I_7e w_7f I_7e) [] [], ⟨Stp.refl _ _, kp_nil⟩, fun L x h => ⟨hz.held h.1, h.2⟩, ?_⟩
                    have hz := Stp.refl I_7e w_7f
                    refine ⟨SK.same (by kernel_rfl), ?_⟩
                    obtain ⟨A_7h, m_7i, m_7j, rfl⟩ := r_7g.isSl
                    refine evh0 (fun w => rn_build (cs := [(.bool false), (.slice A_7h m_7i m_7j)]) rfl rfl T24 PL24 rfl) ?_
                    refine ⟨?_, trivial⟩
                    obtain ⟨x_7k, q_7l, q_3b⟩ := bind_some q_3b
                    refine ev_call rfl rfl C18 (((rational_Floor_ok n) _ _  x_3k v_3o r_3q v_3p r_3r hp.imm _ q_7l).mono ?_)
                    rintro _ w_7m ⟨I_7n, v_7o, hv, hq, r_7p⟩
                    replace hv := hv.symm
                    subst hv
                    have hs := hq.st
                    have hp := hp.join0 hq
                    replace hz := hz.trans hs
                    replace a_e := a_e.step hs
                    replace r_1i := r_1i.step hs
                    replace r_1j := r_1j.step hs
                    replace r_7g := r_7g.step hs
                    replace r_1w := r_1w.step hs
                    replace r_1x := r_1x.step hs
                    replace tb := tb.step hs
                    refine ⟨SK (Stp I_7n w_7m I_7n) [] [], ⟨Stp.refl _ _, kp_nil⟩, fun L x h => ⟨hz.held h.1, h.2⟩, ?_⟩
                    have hz := Stp.refl I_7n w_7m
                    refine ⟨?_, trivial⟩
                    obtain ⟨x_7q, q_7r, q_3b⟩ := bind_some q_3b
                    refine ev_call rfl rfl C28 (((rational_New_ok n) _ _  x_7k v_7o r_7p (Int_2.mk false [1]) (.slice A_7h m_7i m_7j) r_7g hp.imm _ q_7r).mono ?_)
                    rintro _ w_7s ⟨I_7t, v_7u, v_7v, hv, hq, r_7w, r_7x⟩
                    replace hv := hv.symm
                    subst hv
                    have hs := hq.st
                    have hp := hp.join0 hq
                    replace hz := hz.trans hs
                    replace a_e := a_e.step hs
                    replace r_1i := r_1i.step hs
                    replace r_1j := r_1j.step hs
                    replace r_1w := r_1w.step hs
                    replace r_1x := r_1x.step hs
                    replace tb := tb.step hs
                    refine ⟨SK (Stp I_7t w_7s I_7t) [] [], ⟨Stp.refl _ _, kp_nil⟩, fun L x h => ⟨hz.held h.1, h.2⟩, ?_⟩
                    have hz := Stp.refl I_7t w_7s
                    refine ⟨?_, trivial⟩
                    refine ev_storeA hp (i := 0) (off := 0) (vs := [(.bool x_7q.Num.Neg), v_7u, (.bool x_7q.Den.Neg), v_7v]) rfl rfl rfl rfl T26 rfl (Nat.le_of_ble_eq_true rfl) (ones_cons rfl (ones_cons r_7w.one (ones_cons rfl (ones_cons r_7x.one ones_nil)))) ?_
                    intro w_7y hp hs
                    replace hz := hz.trans hs
                    replace a_e := a_e.step hs
                    replace r_1i := r_1i.step hs
                    replace r_1j := r_1j.step hs
                    replace r_7w := r_7w.step hs
                    replace r_7x := r_7x.step hs
                    replace r_1w := r_1w.step hs
                    replace r_1x := r_1x.step hs
                    replace tb := tb.step hs
                    refine ⟨SK (Stp I_7t w_7y I_7t) [] [], ⟨Stp.refl _ _, kp_nil⟩, fun L x h => ⟨hz.held h.1, h.2⟩, ?_⟩
                    have hz := Stp.refl I_7t w_7y
                    obtain rfl := Option.some.inj q_3b
                    have hp := hp.sel [0] (by decide)
                    exact ⟨(x_7q.Num.Neg, x_7q.Num.Mag, x_7q.Den.Neg, x_7q.Den.Mag, g_6p, v_7u, v_7v, I_7t), (.c rfl (.c rfl (.c rfl .n))), rfl, hp, r_1i, r_1j, a_e, r_7w, r_7x, tb⟩
                  refine ⟨?_, ?_⟩
                  ·
                    refine ev_litN (d := (dI .u32)) (xs := [1]) (cs := [(.int .u32 1)]) hp rfl rfl Tryz.underlying22 T46 (by decide) rfl rfl (Elems.cons (d := (dI .u32)) (xs := _) rfl (Elems.nil _ _ _ _)) ?_
                    intro v_7z I_80 w_81 hp hs r_82
                    replace hz := hz.trans hs
                    replace a_e := a_e.step hs
                    replace r_1i := r_1i.step hs
                    replace r_1j := r_1j.step hs
                    replace r_1k := r_1k.step hs
                    replace r_1l := r_1l.step hs
                    replace r_3i := r_3i.step hs
                    replace r_3j := r_3j.step hs
                    replace r_1w := r_1w.step hs
                    replace r_1x := r_1x.step hs
                    replace tb := tb.step hs
                    refine ⟨SK (Stp I_80 w_81 I_80) [] [], ⟨Stp.refl _ _, kp_nil⟩, fun L x h => ⟨hz.held h.1, h.2⟩, ?_⟩
                    have hz := Stp.refl I_80 w_81
                    refine ⟨SK.same (by kernel_rfl), ?_⟩
                    obtain ⟨A_83, m_84, m_85, rfl⟩ := r_82.isSl
                    refine evh0 (fun w => rn_build (cs := [(.bool false), (.slice A_83 m_84 m_85)]) rfl rfl T24 PL24 rfl) ?_
                    refine ⟨?_, ?_⟩
                    ·
                      obtain ⟨x_86, q_87, q_3b⟩ := bind_some q_3b
                      refine ev_call rfl rfl C30 (((rational_Mul_ok n) _ _  (Rational.mk (Int_2.mk x_5.Num.Neg x_19) (Int_2.mk x_5.Den.Neg x_1a)) v_1e r_1k v_1f r_1l x_3c v_3g r_3i v_3h r_3j hp.imm _ q_87).mono ?_)
                      rintro _ w_88 ⟨I_89, v_8a, v_8b, hv, hq, r_8c, r_8d⟩
                      replace hv := hv.symm
                      subst hv
                      have hs := hq.st
                      have hp := hp.join0 hq
                      replace hz := hz.trans hs
                      replace a_e := a_e.step hs
                      replace r_1i := r_1i.step hs
                      replace r_1j := r_1j.step hs
                      replace r_82 := r_82.step hs
                      replace r_1w := r_1w.step hs
                      replace r_1x := r_1x.step hs
                      replace tb := tb.step hs
                      refine ⟨SK (Stp I_89 w_88 I_89) [] [], ⟨Stp.refl _ _, kp_nil⟩, fun L x h => ⟨hz.held h.1, h.2⟩, ?_⟩
                      have hz := Stp.refl I_89 w_88
                      refine ⟨?_, ?_⟩
                      ·
                        obtain ⟨x_8e, q_8f, q_3b⟩ := bind_some q_3b
                        refine ev_call rfl rfl C18 (((rational_Floor_ok n) _ _  x_86 v_8a r_8c v_8b r_8d hp.imm _ q_8f).mono ?_)
                        rintro _ w_8g ⟨I_8h, v_8i, hv, hq, r_8j⟩
                        replace hv := hv.symm
                        subst hv
                        have hs := hq.st
                        have hp := hp.join0 hq
                        replace hz := hz.trans hs
                        replace a_e := a_e.step hs
                        replace r_1i := r_1i.step hs
                        replace r_1j := r_1j.step hs
                        replace r_82 := r_82.step hs
                        replace r_1w := r_1w.step hs
                        replace r_1x := r_1x.step hs
                        replace tb := tb.step hs
                        refine ⟨SK (Stp I_8h w_8g I_8h) [] [], ⟨Stp.refl _ _, kp_nil⟩, fun L x h => ⟨hz.held h.1, h.2⟩, ?_⟩
                        have hz := Stp.refl I_8h w_8g
                        refine ⟨?_, ?_⟩
                        ·
                          obtain ⟨x_8k, q_8l, q_3b⟩ := bind_some q_3b
                          refine ev_call rfl rfl C28 (((rational_New_ok n) _ _  x_8e v_8i r_8j (Int_2.mk false [1]) (.slice A_83 m_84 m_85) r_82 hp.imm _ q_8l).mono ?_)
                          rintro _ w_8m ⟨I_8n, v_8o, v_8p, hv, hq, r_8q, r_8r⟩
                          replace hv := hv.symm
                          subst hv
                          have hs := hq.st
                          have hp := hp.join0 hq
                          replace hz := hz.trans hs
                          replace a_e := a_e.step hs
                          replace r_1i := r_1i.step hs
                          replace r_1j := r_1j.step hs
                          replace r_1w := r_1w.step hs
                          replace r_1x := r_1x.step hs
                          replace tb := tb.step hs
                          refine ⟨SK (Stp I_8n w_8m I_8n) [] [], ⟨Stp.refl _ _, kp_nil⟩, fun L x h => ⟨hz.held h.1, h.2⟩, ?_⟩
                          have hz := Stp.refl I_8n w_8m
                          refine ⟨?_, trivial⟩
                          refine ev_alloc hp rfl T26 ?_
                          intro g_8s w_8t hp hs
                          replace hz := hz.trans hs
                          replace a_e := a_e.step hs
                          replace r_1i := r_1i.step hs
                          replace r_1j := r_1j.step hs
                          replace r_8q := r_8q.step hs
                          replace r_8r := r_8r.step hs
                          replace r_1w := r_1w.step hs
                          replace r_1x := r_1x.step hs
                          replace tb := tb.step hs
                          refine ⟨SK (Stp I_8n w_8t I_8n) [] [], ⟨Stp.refl _ _, kp_nil⟩, fun L x h => ⟨hz.held h.1, h.2⟩, ?_⟩
                          have hz := Stp.refl I_8n w_8t
                          refine ⟨?_, trivial⟩
                          refine ev_storeA hp (i := 0) (off := 0) (vs := [(.bool x_8k.Num.Neg), v_8o, (.bool x_8k.Den.Neg), v_8p]) rfl rfl rfl rfl T26 rfl (Nat.le_of_ble_eq_true rfl) (ones_cons rfl (ones_cons r_8q.one (ones_cons rfl (ones_cons r_8r.one ones_nil)))) ?_
                          intro w_8u hp hs
                          replace hz := hz.trans hs
                          replace a_e := a_e.step hs
                          replace r_1i := r_1i.step hs
                          replace r_1j := r_1j.step hs
                          replace r_8q := r_8q.step hs
                          replace r_8r := r_8r.step hs
                          replace r_1w := r_1w.step hs
                          replace r_1x := r_1x.step hs
                          replace tb := tb.step hs
                          refine ⟨SK (Stp I_8n w_8u I_8n) [] [], ⟨Stp.refl _ _, kp_nil⟩, fun L x h => ⟨hz.held h.1, h.2⟩, ?_⟩
                          have hz := Stp.refl I_8n w_8u
                          obtain rfl := Option.some.inj q_3b
                          have hp := hp.sel [0] (by decide)
                          exact ⟨(x_8k.Num.Neg, x_8k.Num.Mag, x_8k.Den.Neg, x_8k.Den.Mag, g_8s, v_8o, v_8p, I_8n), (.c rfl (.c rfl (.c rfl .n))), rfl, hp, r_1i, r_1j, a_e, r_8q, r_8r, tb⟩
                        refine ⟨?_, trivial⟩
                        refine ev_alloc hp rfl T26 ?_
                        intro g_8v w_8w hp hs
                        replace hz := hz.trans hs
                        replace a_e := a_e.step hs
                        replace r_1i := r_1i.step hs
                        replace r_1j := r_1j.step hs
                        replace r_82 := r_82.step hs
                        replace r_8j := r_8j.step hs
                        replace r_1w := r_1w.step hs
                        replace r_1x := r_1x.step hs
                        replace tb := tb.step hs
                        refine ⟨SK (Stp I_8h w_8w I_8h) [] [], ⟨Stp.refl _ _, kp_nil⟩, fun L x h => ⟨hz.held h.1, h.2⟩, ?_⟩
                        have hz := Stp.refl I_8h w_8w
                        refine ⟨?_, trivial⟩
                        obtain ⟨x_8x, q_8y, q_3b⟩ := bind_some q_3b
                        refine ev_call rfl rfl C28 (((rational_New_ok n) _ _  x_8e v_8i r_8j (Int_2.mk false [1]) (.slice A_83 m_84 m_85) r_82 hp.imm _ q_8y).mono ?_)
                        rintro _ w_8z ⟨I_90, v_91, v_92, hv, hq, r_93, r_94⟩
                        replace hv := hv.symm
                        subst hv
                        have hs := hq.st
                        have hp := hp.join0 hq
                        replace hz := hz.trans hs
                        replace a_e := a_e.step hs
                        replace r_1i := r_1i.step hs
                        replace r_1j := r_1j.step hs
                        replace r_1w := r_1w.step hs
                        replace r_1x := r_1x.step hs
                        replace tb := tb.step hs
                        refine ⟨SK (Stp I_90 w_8z I_90) [] [], ⟨Stp.refl _ _, kp_nil⟩, fun L x h => ⟨hz.held h.1, h.2⟩, ?_⟩
                        have hz := Stp.refl I_90 w_8z
                        refine ⟨?_, trivial⟩
                        refine ev_storeA hp (i := 0) (off := 0) (vs := [(.bool x_8x.Num.Neg), v_91, (.bool x_8x.Den.Neg), v_92]) rfl rfl rfl rfl T26 rfl (Nat.le_of_ble_eq_true rfl) (ones_cons rfl (ones_cons r_93.one (ones_cons rfl (ones_cons r_94.one ones_nil)))) ?_
                        intro w_95 hp hs
                        replace hz := hz.trans hs
                        replace a_e := a_e.step hs
                        replace r_1i := r_1i.step hs
                        replace r_1j := r_1j.step hs
                        replace r_93 := r_93.step hs
                        replace r_94 := r_94.step hs
                        replace r_1w := r_1w.step hs
                        replace r_1x := r_1x.step hs
                        replace tb := tb.step hs
                        refine ⟨SK (Stp I_90 w_95 I_90) [] [], ⟨Stp.refl _ _, kp_nil⟩, fun L x h => ⟨hz.held h.1, h.2⟩, ?_⟩
                        have hz := Stp.refl I_90 w_95
                        obtain rfl := Option.some.inj q_3b
                        have hp := hp.sel [0] (by decide)
                        exact ⟨(x_8x.Num.Neg, x_8x.Num.Mag, x_8x.Den.Neg, x_8x.Den.Mag, g_8v, v_91, v_92, I_90), (.c rfl (.c rfl (.c rfl .n))), rfl, hp, r_1i, r_1j, a_e, r_93, r_94, tb⟩
                      refine ⟨?_, trivial⟩
                      refine ev_alloc hp rfl T26 ?_
                      intro g_96 w_97 hp hs
                      replace hz := hz.trans hs
                      replace a_e := a_e.step hs
                      replace r_1i := r_1i.step hs
                      replace r_1j := r_1j.step hs
                      replace r_82 := r_82.step hs
                      replace r_8c := r_8c.step hs
                      replace r_8d := r_8d.step hs
                      replace r_1w := r_1w.step hs
                      replace r_1x := r_1x.step hs
                      replace tb := tb.step hs
                      refine ⟨SK (Stp I_89 w_97 I_89) [] [], ⟨Stp.refl _ _, kp_nil⟩, fun L x h => ⟨hz.held h.1, h.2⟩, ?_⟩
                      have hz := Stp.refl I_89 w_97
                      refine ⟨?_, trivial⟩
                      obtain ⟨x_98, q_99, q_3b⟩ := bind_some q_3b
                      refine ev_call rfl rfl C18 (((rational_Floor_ok n) _ _  x_86 v_8a r_8c v_8b r_8d hp.imm _ q_99).mono ?_)
                      rintro _ w_9a ⟨I_9b, v_9c, hv, hq, r_9d⟩
                      replace hv := hv.symm
                      subst hv
                      have hs := hq.st
                      have hp := hp.join0 hq
                      replace hz := hz.trans hs
                      replace a_e := a_e.step hs
                      replace r_1i := r_1i.step hs
                      replace r_1j := r_1j.step hs
                      replace r_82 := r_82.step hs
                      replace r_1w := r_1w.step hs
                      replace r_1x := r_1x.step hs
                      replace tb := tb.step hs
                      refine ⟨SK (Stp I_9b w_9a I_9b) [] [], ⟨Stp.refl _ _, kp_nil⟩, fun L x h => ⟨hz.held h.1, h.2⟩, ?_⟩
                      have hz := Stp.refl I_9b w_9a
                      refine ⟨?_, trivial⟩
                      obtain ⟨x_9e, q_9f, q_3b⟩ := bind_some q_3b
                      refine ev_call rfl rfl C28 (((rational_New_ok n) _ _  x_98 v_9c r_9d (Int_2.mk false [1]) (.slice A_83 m_84 m_85) r_82 hp.imm _ q_9f).mono ?_)
                      rintro _ w_9g ⟨I_9h, v_9i, v_9j, hv, hq, r_9k, r_9l⟩
                      replace hv := hv.symm
                      subst hv
                      have hs := hq.st
                      have hp := hp.join0 hq
                      replace hz := hz.trans hs
                      replace a_e := a_e.step hs
                      replace r_1i := r_1i.step hs
                      replace r_1j := r_1j.step hs
                      replace r_1w := r_1w.step hs
                      replace r_1x := r_1x.step hs
                      replace tb := tb.step hs
                      refine ⟨SK (Stp I_9h w_9g I_9h) [] [], ⟨Stp.refl _ _, kp_nil⟩, fun L x h => ⟨hz.held h.1, h.2⟩, ?_⟩
                      have hz := Stp.refl I_9h w_9g
                      refine ⟨?_, trivial⟩
                      refine ev_storeA hp (i := 0) (off := 0) (vs := [(.bool x_9e.Num.Neg), v_9i, (.bool x_9e.Den.Neg), v_9j]) rfl rfl rfl rfl T26 rfl (Nat.le_of_ble_eq_true rfl) (ones_cons rfl (ones_cons r_9k.one (ones_cons rfl (ones_cons r_9l.one ones_nil)))) ?_
                      intro w_9m hp hs
                      replace hz := hz.trans hs
                      replace a_e := a_e.step hs
                      replace r_1i := r_1i.step hs
                      replace r_1j := r_1j.step hs
                      replace r_9k := r_9k.step hs
                      replace r_9l := r_9l.step hs
                      replace r_1w := r_1w.step hs
                      replace r_1x := r_1x.step hs
                      replace tb := tb.step hs
                      refine ⟨SK (Stp I_9h w_9m I_9h) [] [], ⟨Stp.refl _ _, kp_nil⟩, fun L x h => ⟨hz.held h.1, h.2⟩, ?_⟩
                      have hz := Stp.refl I_9h w_9m
                      obtain rfl := Option.some.inj q_3b
                      have hp := hp.sel [0] (by decide)
                      exact ⟨(x_9e.Num.Neg, x_9e.Num.Mag, x_9e.Den.Neg, x_9e.Den.Mag, g_96, v_9i, v_9j, I_9h), (.c rfl (.c rfl (.c rfl .n))), rfl, hp, r_1i, r_1j, a_e, r_9k, r_9l, tb⟩
                    refine ⟨?_, trivial⟩
                    refine ev_alloc hp rfl T26 ?_
                    intro g_9n w_9o hp hs
                    replace hz := hz.trans hs
                    replace a_e := a_e.step hs
                    replace r_1i := r_1i.step hs
                    replace r_1j := r_1j.step hs
                    replace r_1k := r_1k.step hs
                    replace r_1l := r_1l.step hs
                    replace r_3i := r_3i.step hs
                    replace r_3j := r_3j.step hs
                    replace r_82 := r_82.step hs
                    replace r_1w := r_1w.step hs
                    replace r_1x := r_1x.step hs
                    replace tb := tb.step hs
                    refine ⟨SK (Stp I_80 w_9o I_80) [] [], ⟨Stp.refl _ _, kp_nil⟩, fun L x h => ⟨hz.held h.1, h.2⟩, ?_⟩
                    have hz := Stp.refl I_80 w_9o
                    refine ⟨?_, trivial⟩
                    obtain ⟨x_9p, q_9q, q_3b⟩ := bind_some q_3b
                    refine ev_call rfl rfl C30 (((rational_Mul_ok n) _ _  (Rational.mk (Int_2.mk x_5.Num.Neg x_19) (Int_2.mk x_5.Den.Neg x_1a)) v_1e r_1k v_1f r_1l x_3c v_3g r_3i v_3h r_3j hp.imm _ q_9q).mono ?_)
                    rintro _ w_9r ⟨I_9s, v_9t, v_9u, hv, hq, r_9v, r_9w⟩
                    replace hv := hv.symm
                    subst hv
                    have hs := hq.st
                    have hp := hp.join0 hq
                    replace hz := hz.trans hs
                    replace a_e := a_e.step hs
                    replace r_1i := r_1i.step hs
                    replace r_1j := r_1j.step hs
                    replace r_82 := r_82.step hs
                    replace r_1w := r_1w.step hs
                    replace r_1x := r_1x.step hs
                    replace tb := tb.step hs
                    refine ⟨SK (Stp I_9s w_9r I_9s) [] [], ⟨Stp.refl _ _, kp_nil⟩, fun L x h => ⟨hz.held h.1, h.2⟩, ?_⟩
                    have hz := Stp.refl I_9s w_9r
                    refine ⟨?_, trivial⟩
                    obtain ⟨x_9x, q_9y, q_3b⟩ := bind_some q_3b
                    refine ev_call rfl rfl C18 (((rational_Floor_ok n) _ _  x_9p v_9t r_9v v_9u r_9w hp.imm _ q_9y).mono ?_)
                    rintro _ w_9z ⟨I_a0, v_a1, hv, hq, r_a2⟩
                    replace hv := hv.symm
                    subst hv
                    have hs := hq.st
                    have hp := hp.join0 hq
                    replace hz := hz.trans hs
                    replace a_e := a_e.step hs
                    replace r_1i := r_1i.step hs
                    replace r_1j := r_1j.step hs
                    replace r_82 := r_82.step hs
                    replace r_1w := r_1w.step hs
                    replace r_1x := r_1x.step hs
                    replace tb := tb.step hs
                    refine ⟨SK (Stp I_a0 w_9z I_a0) [] [], ⟨Stp.refl _ _, kp_nil⟩, fun L x h => ⟨hz.held h.1, h.2⟩, ?_⟩
                    have hz := Stp.refl I_a0 w_9z
                    refine ⟨?_, trivial⟩
                    obtain ⟨x_a3, q_a4, q_3b⟩ := bind_some q_3b
                    refine ev_call rfl rfl C28 (((rational_New_ok n) _ _  x_9x v_a1 r_a2 (Int_2.mk false [1]) (.slice A_83 m_84 m_85) r_82 hp.imm _ q_a4).mono ?_)
                    rintro _ w_a5 ⟨I_a6, v_a7, v_a8, hv, hq, r_a9, r_aa⟩
                    replace hv := hv.symm
                    subst hv
                    have hs := hq.st
                    have hp := hp.join0 hq
                    replace hz := hz.trans hs
                    replace a_e := a_e.step hs
                    replace r_1i := r_1i.step hs
                    replace r_1j := r_1j.step hs
                    replace r_1w := r_1w.step hs
                    replace r_1x := r_1x.step hs
                    replace tb := tb.step hs
                    refine ⟨SK (Stp I_a6 w_a5 I_a6) [] [], ⟨Stp.refl _ _, kp_nil⟩, fun L x h => ⟨hz.held h.1, h.2⟩, ?_⟩
                    have hz := Stp.refl I_a6 w_a5
                    refine ⟨?_, trivial⟩
                    refine ev_storeA hp (i := 0) (off := 0) (vs := [(.bool x_a3.Num.Neg), v_a7, (.bool x_a3.Den.Neg), v_a8]) rfl rfl rfl rfl T26 rfl (Nat.le_of_ble_eq_true rfl) (ones_cons rfl (ones_cons r_a9.one (ones_cons rfl (ones_cons r_aa.one ones_nil)))) ?_
                    intro w_ab hp hs
                    replace hz := hz.trans hs
                    replace a_e := a_e.step hs
                    replace r_1i := r_1i.step hs
                    replace r_1j := r_1j.step hs
                    replace r_a9 := r_a9.step hs
                    replace r_aa := r_aa.step hs
                    replace r_1w := r_1w.step hs
                    replace r_1x := r_1x.step hs
                    replace tb := tb.step hs
                    refine ⟨SK (Stp I_a6 w_ab I_a6) [] [], ⟨Stp.refl _ _, kp_nil⟩, fun L x h => ⟨hz.held h.1, h.2⟩, ?_⟩
                    have hz := Stp.refl I_a6 w_ab
                    obtain rfl := Option.some.inj q_3b
                    have hp := hp.sel [0] (by decide)
                    exact ⟨(x_a3.Num.Neg, x_a3.Num.Mag, x_a3.Den.Neg, x_a3.Den.Mag, g_9n, v_a7, v_a8, I_a6), (.c rfl (.c rfl (.c rfl .n))), rfl, hp, r_1i, r_1j, a_e, r_a9, r_aa, tb⟩
                  refine ⟨?_, trivial⟩
                  refine ev_alloc hp rfl T26 ?_
                  intro g_ac w_ad hp hs
                  replace hz := hz.trans hs
                  replace a_e := a_e.step hs
                  replace r_1i := r_1i.step hs
                  replace r_1j := r_1j.step hs
                  replace r_1k := r_1k.step hs
                  replace r_1l := r_1l.step hs
                  replace r_3i := r_3i.step hs
                  replace r_3j := r_3j.step hs
                  replace r_1w := r_1w.step hs
                  replace r_1x := r_1x.step hs
                  replace tb := tb.step hs
                  refine ⟨SK (Stp I_3f w_ad I_3f) [] [], ⟨Stp.refl _ _, kp_nil⟩, fun L x h => ⟨hz.held h.1, h.2⟩, ?_⟩
                  have hz := Stp.refl I_3f w_ad
                  refine ⟨?_, ?_⟩
                  ·
                    obtain ⟨x_ae, q_af, q_3b⟩ := bind_some q_3b
                    refine ev_call rfl rfl C30 (((rational_Mul_ok n) _ _  (Rational.mk (Int_2.mk x_5.Num.Neg x_19) (Int_2.mk x_5.Den.Neg x_1a)) v_1e r_1k v_1f r_1l x_3c v_3g r_3i v_3h r_3j hp.imm _ q_af).mono ?_)
                    rintro _ w_ag ⟨I_ah, v_ai, v_aj, hv, hq, r_ak, r_al⟩
                    replace hv := hv.symm
                    subst hv
                    have hs := hq.st
                    have hp := hp.join0 hq
                    replace hz := hz.trans hs
                    replace a_e := a_e.step hs
                    replace r_1i := r_1i.step hs
                    replace r_1j := r_1j.step hs
                    replace r_1w := r_1w.step hs
                    replace r_1x := r_1x.step hs
                    replace tb := tb.step hs
                    refine ⟨SK (Stp I_ah w_ag I_ah) [] [], ⟨Stp.refl _ _, kp_nil⟩, fun L x h => ⟨hz.held h.1, h.2⟩, ?_⟩
                    have hz := Stp.refl I_ah w_ag
                    refine ⟨?_, ?_⟩
                    ·
                      obtain ⟨x_am, q_an, q_3b⟩ := bind_some q_3b
                      refine ev_call rfl rfl C18 (((rational_Floor_ok n) _ _  x_ae v_ai r_ak v_aj r_al hp.imm _ q_an).mono ?_)
                      rintro _ w_ao ⟨I_ap, v_aq, hv, hq, r_ar⟩
                      replace hv := hv.symm
                      subst hv
                      have hs := hq.st
                      have hp := hp.join0 hq
                      replace hz := hz.trans hs
                      replace a_e := a_e.step hs
                      replace r_1i := r_1i.step hs
                      replace r_1j := r_1j.step hs
                      replace r_1w := r_1w.step hs
                      replace r_1x := r_1x.step hs
                      replace tb := tb.step hs
                      refine ⟨SK (Stp I_ap w_ao I_ap) [] [], ⟨Stp.refl _ _, kp_nil⟩, fun L x h => ⟨hz.held h.1, h.2⟩, ?_⟩
                      have hz := Stp.refl I_ap w_ao
                      refine ⟨?_, trivial⟩
                      refine ev_litN (d := (dI .u32)) (xs := [1]) (cs := [(.int .u32 1)]) hp rfl rfl Tryz.underlying22 T46 (by decide) rfl rfl (Elems.cons (d := (dI .u32)) (xs := _) rfl (Elems.nil _ _ _ _)) ?_
                      intro v_as I_at w_au hp hs r_av
                      replace hz := hz.trans hs
                      replace a_e := a_e.step hs
                      replace r_1i := r_1i.step hs
                      replace r_1j := r_1j.step hs
                      replace r_ar := r_ar.step hs
                      replace r_1w := r_1w.step hs
                      replace r_1x := r_1x.step hs
                      replace tb := tb.step hs
                      refine ⟨SK (Stp I_at w_au I_at) [] [], ⟨Stp.refl _ _, kp_nil⟩, fun L x h => ⟨hz.held h.1, h.2⟩, ?_⟩
                      have hz := Stp.refl I_at w_au
                      refine ⟨SK.same (by kernel_rfl), ?_⟩
                      obtain ⟨A_aw, m_ax, m_ay, rfl⟩ := r_av.isSl
                      refine evh0 (fun w => rn_build (cs := [(.bool false), (.slice A_aw m_ax m_ay)]) rfl rfl T24 PL24 rfl) ?_
                      refine ⟨?_, trivial⟩
                      obtain ⟨x_az, q_b0, q_3b⟩ := bind_some q_3b
                      refine ev_call rfl rfl C28 (((rational_New_ok n) _ _  x_am v_aq r_ar (Int_2.mk false [1]) (.slice A_aw m_ax m_ay) r_av hp.imm _ q_b0).mono ?_)
                      rintro _ w_b1 ⟨I_b2, v_b3, v_b4, hv, hq, r_b5, r_b6⟩
                      replace hv := hv.symm
                      subst hv
                      have hs := hq.st
                      have hp := hp.join0 hq
                      replace hz := hz.trans hs
                      replace a_e := a_e.step hs
                      replace r_1i := r_1i.step hs
                      replace r_1j := r_1j.step hs
                      replace r_1w := r_1w.step hs
                      replace r_1x := r_1x.step hs
                      replace tb := tb.step hs
                      refine ⟨SK (Stp I_b2 w_b1 I_b2) [] [], ⟨Stp.refl _ _, kp_nil⟩, fun L x h => ⟨hz.held h.1, h.2⟩, ?_⟩
                      have hz := Stp.refl I_b2 w_b1
                      refine ⟨?_, trivial⟩
                      refine ev_storeA hp (i := 0) (off := 0) (vs := [(.bool x_az.Num.Neg), v_b3, (.bool x_az.Den.Neg), v_b4]) rfl rfl rfl rfl T26 rfl (Nat.le_of_ble_eq_true rfl) (ones_cons rfl (ones_cons r_b5.one (ones_cons rfl (ones_cons r_b6.one ones_nil)))) ?_
                      intro w_b7 hp hs
                      replace hz := hz.trans hs
                      replace a_e := a_e.step hs
                      replace r_1i := r_1i.step hs
                      replace r_1j := r_1j.step hs
                      replace r_b5 := r_b5.step hs
                      replace r_b6 := r_b6.step hs
                      replace r_1w := r_1w.step hs
                      replace r_1x := r_1x.step hs
                      replace tb := tb.step hs
                      refine ⟨SK (Stp I_b2 w_b7 I_b2) [] [], ⟨Stp.refl _ _, kp_nil⟩, fun L x h => ⟨hz.held h.1, h.2⟩, ?_⟩
                      have hz := Stp.refl I_b2 w_b7
                      obtain rfl := Option.some.inj q_3b
                      have hp := hp.sel [0] (by decide)
                      exact ⟨(x_az.Num.Neg, x_az.Num.Mag, x_az.Den.Neg, x_az.Den.Mag, g_ac, v_b3, v_b4, I_b2), (.c rfl (.c rfl (.c rfl .n))), rfl, hp, r_1i, r_1j, a_e, r_b5, r_b6, tb⟩
                    refine ⟨?_, trivial⟩
                    refine ev_litN (d := (dI .u32)) (xs := [1]) (cs := [(.int .u32 1)]) hp rfl rfl Tryz.underlying22 T46 (by decide) rfl rfl (Elems.cons (d := (dI .u32)) (xs := _) rfl (Elems.nil _ _ _ _)) ?_
                    intro v_b8 I_b9 w_ba hp hs r_bb
                    replace hz := hz.trans hs
                    replace a_e := a_e.step hs
                    replace r_1i := r_1i.step hs
                    replace r_1j := r_1j.step hs
                    replace r_ak := r_ak.step hs
                    replace r_al := r_al.step hs
                    replace r_1w := r_1w.step hs
                    replace r_1x := r_1x.step hs
                    replace tb := tb.step hs
                    refine ⟨SK (Stp I_b9 w_ba I_b9) [] [], ⟨Stp.refl _ _, kp_nil⟩, fun L x h => ⟨hz.held h.1, h.2⟩, ?_⟩
                    have hz := Stp.refl I_b9 w_ba
                    refine ⟨SK.same (by kernel_rfl), ?_⟩
                    obtain ⟨A_bc, m_bd, m_be, rfl⟩ := r_bb.isSl
                    refine evh0 (fun w => rn_build (cs := [(.bool false), (.slice A_bc m_bd m_be)]) rfl rfl T24 PL24 rfl) ?_
                    refine ⟨?_, trivial⟩
                    obtain ⟨x_bf, q_bg, q_3b⟩ := bind_some q_3b
                    refine ev_call rfl rfl C18 (((rational_Floor_ok n) _ _  x_ae v_ai r_ak v_aj r_al hp.imm _ q_bg).mono ?_)
                    rintro _ w_bh ⟨I_bi, v_bj, hv, hq, r_bk⟩
                    replace hv := hv.symm
                    subst hv
                    have hs := hq.st
                    have hp := hp.join0 hq
                    replace hz := hz.trans hs
                    replace a_e := a_e.step hs
                    replace r_1i := r_1i.step hs
                    replace r_1j := r_1j.step hs
                    replace r_bb := r_bb.step hs
                    replace r_1w := r_1w.step hs
                    replace r_1x := r_1x.step hs
                    replace tb := tb.step hs
                    refine ⟨SK (Stp I_bi w_bh I_bi) [] [], ⟨Stp.refl _ _, kp_nil⟩, fun L x h => ⟨hz.held h.1, h.2⟩, ?_⟩
                    have hz := Stp.refl I_bi w_bh
                    refine ⟨?_, trivial⟩
                    obtain ⟨x_bl, q_bm, q_3b⟩ := bind_some q_3b
                    refine ev_call rfl rfl C28 (((rational_New_ok n) _ _  x_bf v_bj r_bk (Int_2.mk false [1]) (.slice A_bc m_bd m_be) r_bb hp.imm _ q_bm).mono ?_)
                    rintro _ w_bn ⟨I_bo, v_bp, v_bq, hv, hq, r_br, r_bs⟩
                    replace hv := hv.symm
                    subst hv
                    have hs := hq.st
                    have hp := hp.join0 hq
                    replace hz := hz.trans hs
                    replace a_e := a_e.step hs
                    replace r_1i := r_1i.step hs
                    replace r_1j := r_1j.step hs
                    replace r_1w := r_1w.step hs
                    replace r_1x := r_1x.step hs
                    replace tb := tb.step hs
                    refine ⟨SK (Stp I_bo w_bn I_bo) [] [], ⟨Stp.refl _ _, kp_nil⟩, fun L x h => ⟨hz.held h.1, h.2⟩, ?_⟩
                    have hz := Stp.refl I_bo w_bn
                    refine ⟨?_, trivial⟩
                    refine ev_storeA hp (i := 0) (off := 0) (vs := [(.bool x_bl.Num.Neg), v_bp, (.bool x_bl.Den.Neg), v_bq]) rfl rfl rfl rfl T26 rfl (Nat.le_of_ble_eq_true rfl) (ones_cons rfl (ones_cons r_br.one (ones_cons rfl (ones_cons r_bs.one ones_nil)))) ?_
                    intro w_bt hp hs
                    replace hz := hz.trans hs
                    replace a_e := a_e.step hs
                    replace r_1i := r_1i.step hs
                    replace r_1j := r_1j.step hs
                    replace r_br := r_br.step hs
                    replace r_bs := r_bs.step hs
                    replace r_1w := r_1w.step hs
                    replace r_1x := r_1x.step hs
                    replace tb := tb.step hs
                    refine ⟨SK (Stp I_bo w_bt I_bo) [] [], ⟨Stp.refl _ _, kp_nil⟩, fun L x h => ⟨hz.held h.1, h.2⟩, ?_⟩
                    have hz := Stp.refl I_bo w_bt
                    obtain rfl := Option.some.inj q_3b
                    have hp := hp.sel [0] (by decide)
                    exact ⟨(x_bl.Num.Neg, x_bl.Num.Mag, x_bl.Den.Neg, x_bl.Den.Mag, g_ac, v_bp, v_bq, I_bo), (.c rfl (.c rfl (.c rfl .n))), rfl, hp, r_1i, r_1j, a_e, r_br, r_bs, tb⟩
                  refine ⟨?_, trivial⟩
                  refine ev_litN (d := (dI .u32)) (xs := [1]) (cs := [(.int .u32 1)]) hp rfl rfl Tryz.underlying22 T46 (by decide) rfl rfl (Elems.cons (d := (dI .u32)) (xs := _) rfl (Elems.nil _ _ _ _)) ?_
                  intro v_bu I_bv w_bw hp hs r_bx
                  replace hz := hz.trans hs
                  replace a_e := a_e.step hs
                  replace r_1i := r_1i.step hs
                  replace r_1j := r_1j.step hs
                  replace r_1k := r_1k.step hs
                  replace r_1l := r_1l.step hs
                  replace r_3i := r_3i.step hs
                  replace r_3j := r_3j.step hs
                  replace r_1w := r_1w.step hs
                  replace r_1x := r_1x.step hs
                  replace tb := tb.step hs
                  refine ⟨SK (Stp I_bv w_bw I_bv) [] [], ⟨Stp.refl _ _, kp_nil⟩, fun L x h => ⟨hz.held h.1, h.2⟩, ?_⟩
                  have hz := Stp.refl I_bv w_bw
                  refine ⟨SK.same (by kernel_rfl), ?_⟩
                  obtain ⟨A_by, m_bz, m_c0, rfl⟩ := r_bx.isSl
                  refine evh0 (fun w => rn_build (cs := [(.bool false), (.slice A_by m_bz m_c0)]) rfl rfl T24 PL24 rfl) ?_
                  refine ⟨?_, trivial⟩
                  obtain ⟨x_c1, q_c2, q_3b⟩ := bind_some q_3b
                  refine ev_call rfl rfl C30 (((rational_Mul_ok n) _ _  (Rational.mk (Int_2.mk x_5.Num.Neg x_19) (Int_2.mk x_5.Den.Neg x_1a)) v_1e r_1k v_1f r_1l x_3c v_3g r_3i v_3h r_3j hp.imm _ q_c2).mono ?_)
                  rintro _ w_c3 ⟨I_c4, v_c5, v_c6, hv, hq, r_c7, r_c8⟩
                  replace hv := hv.symm
                  subst hv
                  have hs := hq.st
                  have hp := hp.join0 hq
                  replace hz := hz.trans hs
                  replace a_e := a_e.step hs
                  replace r_1i := r_1i.step hs
                  replace r_1j := r_1j.step hs
                  replace r_bx := r_bx.step hs
                  replace r_1w := r_1w.step hs
                  replace r_1x := r_1x.step hs
                  replace tb := tb.step hs
                  refine ⟨SK (Stp I_c4 w_c3 I_c4) [] [], ⟨Stp.refl _ _, kp_nil⟩, fun L x h => ⟨hz.held h.1, h.2⟩, ?_⟩
                  have hz := Stp.refl I_c4 w_c3
                  refine ⟨?_, trivial⟩
                  obtain ⟨x_c9, q_ca, q_3b⟩ := bind_some q_3b
                  refine ev_call rfl rfl C18 (((rational_Floor_ok n) _ _  x_c1 v_c5 r_c7 v_c6 r_c8 hp.imm _ q_ca).mono ?_)
                  rintro _ w_cb ⟨I_cc, v_cd, hv, hq, r_ce⟩
                  replace hv := hv.symm
                  subst hv
                  have hs := hq.st
                  have hp := hp.join0 hq
                  replace hz := hz.trans hs
                  replace a_e := a_e.step hs
                  replace r_1i := r_1i.step hs
                  replace r_1j := r_1j.step hs
                  replace r_bx := r_bx.step hs
                  replace r_1w := r_1w.step hs
                  replace r_1x := r_1x.step hs
                  replace tb := tb.step hs
                  refine ⟨SK (Stp I_cc w_cb I_cc) [] [], ⟨Stp.refl _ _, kp_nil⟩, fun L x h => ⟨hz.held h.1, h.2⟩, ?_⟩
                  have hz := Stp.refl I_cc w_cb
                  refine ⟨?_, trivial⟩
                  obtain ⟨x_cf, q_cg, q_3b⟩ := bind_some q_3b
                  refine ev_call rfl rfl C28 (((rational_New_ok n) _ _  x_c9 v_cd r_ce (Int_2.mk false [1]) (.slice A_by m_bz m_c0) r_bx hp.imm _ q_cg).mono ?_)
                  rintro _ w_ch ⟨I_ci, v_cj, v_ck, hv, hq, r_cl, r_cm⟩
                  replace hv := hv.symm
                  subst hv
                  have hs := hq.st
                  have hp := hp.join0 hq
                  replace hz := hz.trans hs
                  replace a_e := a_e.step hs
                  replace r_1i := r_1i.step hs
                  replace r_1j := r_1j.step hs
                  replace r_1w := r_1w.step hs
                  replace r_1x := r_1x.step hs
                  replace tb := tb.step hs
                  refine ⟨SK (Stp I_ci w_ch I_ci) [] [], ⟨Stp.refl _ _, kp_nil⟩, fun L x h => ⟨hz.held h.1, h.2⟩, ?_⟩
                  have hz := Stp.refl I_ci w_ch
                  refine ⟨?_, trivial⟩
                  refine ev_storeA hp (i := 0) (off := 0) (vs := [(.bool x_cf.Num.Neg), v_cj, (.bool x_cf.Den.Neg), v_ck]) rfl rfl rfl rfl T26 rfl (Nat.le_of_ble_eq_true rfl) (ones_cons rfl (ones_cons r_cl.one (ones_cons rfl (ones_cons r_cm.one ones_nil)))) ?_
                  intro w_cn hp hs
                  replace hz := hz.trans hs
                  replace a_e := a_e.step hs
                  replace r_1i := r_1i.step hs
                  replace r_1j := r_1j.step hs
                  replace r_cl := r_cl.step hs
                  replace r_cm := r_cm.step hs
                  replace r_1w := r_1w.step hs
                  replace r_1x := r_1x.step hs
                  replace tb := tb.step hs
                  refine ⟨SK (Stp I_ci w_cn I_ci) [] [], ⟨Stp.refl _ _, kp_nil⟩, fun L x h => ⟨hz.held h.1, h.2⟩, ?_⟩
                  have hz := Stp.refl I_ci w_cn
                  obtain rfl := Option.some.inj q_3b
                  have hp := hp.sel [0] (by decide)
                  exact ⟨(x_cf.Num.Neg, x_cf.Num.Mag, x_cf.Den.Neg, x_cf.Den.Mag, g_ac, v_cj, v_ck, I_ci), (.c rfl (.c rfl (.c rfl .n))), rfl, hp, r_1i, r_1j, a_e, r_cl, r_cm, tb⟩
                refine ⟨?_, ?_⟩
                ·
                  refine ev_litN (d := (dI .u32)) (xs := [1]) (cs := [(.int .u32 1)]) hp rfl rfl Tryz.underlying22 T46 (by decide) rfl rfl (Elems.cons (d := (dI .u32)) (xs := _) rfl (Elems.nil _ _ _ _)) ?_
                  intro v_co I_cp w_cq hp hs r_cr
                  replace hz := hz.trans hs
                  replace a_e := a_e.step hs
                  replace r_1i := r_1i.step hs
                  replace r_1j := r_1j.step hs
                  replace r_1k := r_1k.step hs
                  replace r_1l := r_1l.step hs
                  replace r_1w := r_1w.step hs
                  replace r_1x := r_1x.step hs
                  replace tb := tb.step hs
                  refine ⟨SK (Stp I_cp w_cq I_cp) [] [], ⟨Stp.refl _ _, kp_nil⟩, fun L x h => ⟨hz.held h.1, h.2⟩, ?_⟩
                  have hz := Stp.refl I_cp w_cq
                  refine ⟨SK.same (by kernel_rfl), ?_⟩
                  obtain ⟨A_cs, m_ct, m_cu, rfl⟩ := r_cr.isSl
                  refine evh0 (fun w => rn_build (cs := [(.bool false), (.slice A_cs m_ct m_cu)]) rfl rfl T24 PL24 rfl) ?_
                  refine ⟨?_, ?_⟩
                  ·
                    obtain ⟨x_cv, q_cw, q_3b⟩ := bind_some q_3b
                    refine ev_call rfl rfl C29 (((rational_Of_ok n) _ _  (IntKind.i64.wrap (1 + ((IntKind.i64.wrap x_a).tmod 40))) 1 hp.imm _ q_cw).mono ?_)
                    rintro _ w_cx ⟨I_cy, v_cz, v_d0, hv, hq, r_d1, r_d2⟩
                    replace hv := hv.symm
                    subst hv
                    have hs := hq.st
                    have hp := hp.join0 hq
                    replace hz := hz.trans hs
                    replace a_e := a_e.step hs
                    replace r_1i := r_1i.step hs
                    replace r_1j := r_1j.step hs
                    replace r_1k := r_1k.step hs
                    replace r_1l := r_1l.step hs
                    replace r_cr := r_cr.step hs
                    replace r_1w := r_1w.step hs
                    replace r_1x := r_1x.step hs
                    replace tb := tb.step hs
                    refine ⟨SK (Stp I_cy w_cx I_cy) [] [], ⟨Stp.refl _ _, kp_nil⟩, fun L x h => ⟨hz.held h.1, h.2⟩, ?_⟩
                    have hz := Stp.refl I_cy w_cx
                    refine ⟨?_, ?_⟩
                    ·
                      obtain ⟨x_d3, q_d4, q_3b⟩ := bind_some q_3b
                      refine ev_call rfl rfl C30 (((rational_Mul_ok n) _ _  (Rational.mk (Int_2.mk x_5.Num.Neg x_19) (Int_2.mk x_5.Den.Neg x_1a)) v_1e r_1k v_1f r_1l x_cv v_cz r_d1 v_d0 r_d2 hp.imm _ q_d4).mono ?_)
                      rintro _ w_d5 ⟨I_d6, v_d7, v_d8, hv, hq, r_d9, r_da⟩
                      replace hv := hv.symm
                      subst hv
                      have hs := hq.st
                      have hp := hp.join0 hq
                      replace hz := hz.trans hs
                      replace a_e := a_e.step hs
                      replace r_1i := r_1i.step hs
                      replace r_1j := r_1j.step hs
                      replace r_cr := r_cr.step hs
                      replace r_1w := r_1w.step hs
                      replace r_1x := r_1x.step hs
                      replace tb := tb.step hs
                      refine ⟨SK (Stp I_d6 w_d5 I_d6) [] [], ⟨Stp.refl _ _, kp_nil⟩, fun L x h => ⟨hz.held h.1, h.2⟩, ?_⟩
                      have hz := Stp.refl I_d6 w_d5
                      refine ⟨?_, ?_⟩
                      ·
                        obtain ⟨x_db, q_dc, q_3b⟩ := bind_some q_3b
                        refine ev_call rfl rfl C18 (((rational_Floor_ok n) _ _  x_d3 v_d7 r_d9 v_d8 r_da hp.imm _ q_dc).mono ?_)
                        rintro _ w_dd ⟨I_de, v_df, hv, hq, r_dg⟩
                        replace hv := hv.symm
                        subst hv
                        have hs := hq.st
                        have hp := hp.join0 hq
                        replace hz := hz.trans hs
                        replace a_e := a_e.step hs
                        replace r_1i := r_1i.step hs
                        replace r_1j := r_1j.step hs
                        replace r_cr := r_cr.step hs
                        replace r_1w := r_1w.step hs
                        replace r_1x := r_1x.step hs
                        replace tb := tb.step hs
                        refine ⟨SK (Stp I_de w_dd I_de) [] [], ⟨Stp.refl _ _, kp_nil⟩, fun L x h => ⟨hz.held h.1, h.2⟩, ?_⟩
                        have hz := Stp.refl I_de w_dd
                        refine ⟨?_, ?_⟩
                        ·
                          obtain ⟨x_dh, q_di, q_3b⟩ := bind_some q_3b
                          refine ev_call rfl rfl C28 (((rational_New_ok n) _ _  x_db v_df r_dg (Int_2.mk false [1]) (.slice A_cs m_ct m_cu) r_cr hp.imm _ q_di).mono ?_)
                          rintro _ w_dj ⟨I_dk, v_dl, v_dm, hv, hq, r_dn, r_do⟩
                          replace hv := hv.symm
                          subst hv
                          have hs := hq.st
                          have hp := hp.join0 hq
                          replace hz := hz.trans hs
                          replace a_e := a_e.step hs
                          replace r_1i := r_1i.step hs
                          replace r_1j := r_1j.step hs
                          replace r_1w := r_1w.step hs
                          replace r_1x := r_1x.step hs
                          replace tb := tb.step hs
                          refine ⟨SK (Stp I_dk w_dj I_dk) [] [], ⟨Stp.refl _ _, kp_nil⟩, fun L x h => ⟨hz.held h.1, h.2⟩, ?_⟩
                          have hz := Stp.refl I_dk w_dj
                          refine ⟨?_, trivial⟩
                          refine ev_alloc hp rfl T26 ?_
                          intro g_dp w_dq hp hs
                          replace hz := hz.trans hs
                          replace a_e := a_e.step hs
                          replace r_1i := r_1i.step hs
                          replace r_1j := r_1j.step hs
                          replace r_dn := r_dn.step hs
                          replace r_do := r_do.step hs
                          replace r_1w := r_1w.step hs
                          replace r_1x := r_1x.step hs
                          replace tb := tb.step hs
                          refine ⟨SK (Stp I_dk w_dq I_dk) [] [], ⟨Stp.refl _ _, kp_nil⟩, fun L x h => ⟨hz.held h.1, h.2⟩, ?_⟩
                          have hz := Stp.refl I_dk w_dq
                          refine ⟨?_, trivial⟩
                          refine ev_storeA hp (i := 0) (off := 0) (vs := [(.bool x_dh.Num.Neg), v_dl, (.bool x_dh.Den.Neg), v_dm]) rfl rfl rfl rfl T26 rfl (Nat.le_of_ble_eq_true rfl) (ones_cons rfl (ones_cons r_dn.one (ones_cons rfl (ones_cons r_do.one ones_nil)))) ?_
                          intro w_dr hp hs
                          replace hz := hz.trans hs
                          replace a_e := a_e.step hs
                          replace r_1i := r_1i.step hs
                          replace r_1j := r_1j.step hs
                          replace r_dn := r_dn.step hs
                          replace r_do := r_do.step hs
                          replace r_1w := r_1w.step hs
                          replace r_1x := r_1x.step hs
                          replace tb := tb.step hs
                          refine ⟨SK (Stp I_dk w_dr I_dk) [] [], ⟨Stp.refl _ _, kp_nil⟩, fun L x h => ⟨hz.held h.1, h.2⟩, ?_⟩
                          have hz := Stp.refl I_dk w_dr
                          obtain rfl := Option.some.inj q_3b
                          have hp := hp.sel [0] (by decide)
                          exact ⟨(x_dh.Num.Neg, x_dh.Num.Mag, x_dh.Den.Neg, x_dh.Den.Mag, g_dp, v_dl, v_dm, I_dk), (.c rfl (.c rfl (.c rfl .n))), rfl, hp, r_1i, r_1j, a_e, r_dn, r_do, tb⟩
                        refine ⟨?_, trivial⟩
                        refine ev_alloc hp rfl T26 ?_
                        intro g_ds w_dt hp hs
                        replace hz := hz.trans hs
                        replace a_e := a_e.step hs
                        replace r_1i := r_1i.step hs
                        replace r_1j := r_1j.step hs
                        replace r_cr := r_cr.step hs
                        replace r_dg := r_dg.step hs
                        replace r_1w := r_1w.step hs
                        replace r_1x := r_1x.step hs
                        replace tb := tb.step hs
                        refine ⟨SK (Stp I_de w_dt I_de) [] [], ⟨Stp.refl _ _, kp_nil⟩, fun L x h => ⟨hz.held h.1, h.2⟩, ?_⟩
                        have hz := Stp.refl I_de w_dt
                        refine ⟨?_, trivial⟩
                        obtain ⟨x_du, q_dv, q_3b⟩ := bind_some q_3b
                        refine ev_call rfl rfl C28 (((rational_New_ok n) _ _  x_db v_df r_dg (Int_2.mk false [1]) (.slice A_cs m_ct m_cu) r_cr hp.imm _ q_dv).mono ?_)
                        rintro _ w_dw ⟨I_dx, v_dy, v_dz, hv, hq, r_e0, r_e1⟩
                        replace hv := hv.symm
                        subst hv
                        have hs := hq.st
                        have hp := hp.join0 hq
                        replace hz := hz.trans hs
                        replace a_e := a_e.step hs
                        replace r_1i := r_1i.step hs
                        replace r_1j := r_1j.step hs
                        replace r_1w := r_1w.step hs
                        replace r_1x := r_1x.step hs
                        replace tb := tb.step hs
                        refine ⟨SK (Stp I_dx w_dw I_dx) [] [], ⟨Stp.refl _ _, kp_nil⟩, fun L x h => ⟨hz.held h.1, h.2⟩, ?_⟩
                        have hz := Stp.refl I_dx w_dw
                        refine ⟨?_, trivial⟩
                        refine ev_storeA hp (i := 0) (off := 0) (vs := [(.bool x_du.Num.Neg), v_dy, (.bool x_du.Den.Neg), v_dz]) rfl rfl rfl rfl T26 rfl (Nat.le_of_ble_eq_true rfl) (ones_cons rfl (ones_cons r_e0.one (ones_cons rfl (ones_cons r_e1.one ones_nil)))) ?_
                        intro w_e2 hp hs
                        replace hz := hz.trans hs
                        replace a_e := a_e.step hs
                        replace r_1i := r_1i.step hs
                        replace r_1j := r_1j.step hs
                        replace r_e0 := r_e0.step hs
                        replace r_e1 := r_e1.step hs
                        replace r_1w := r_1w.step hs
                        replace r_1x := r_1x.step hs
                        replace tb := tb.step hs
                        refine ⟨SK (Stp I_dx w_e2 I_dx) [] [], ⟨Stp.refl _ _, kp_nil⟩, fun L x h => ⟨hz.held h.1, h.2⟩, ?_⟩
                        have hz := Stp.refl I_dx w_e2
                        obtain rfl := Option.some.inj q_3b
                        have hp := hp.sel [0] (by decide)
                        exact ⟨(x_du.Num.Neg, x_du.Num.Mag, x_du.Den.Neg, x_du.Den.Mag, g_ds, v_dy, v_dz, I_dx), (.c rfl (.c rfl (.c rfl .n))), rfl, hp, r_1i, r_1j, a_e, r_e0, r_e1, tb⟩
                      refine ⟨?_, trivial⟩
                      refine ev_alloc hp rfl T26 ?_
                      intro g_e3 w_e4 hp hs
                      replace hz := hz.trans hs
                      replace a_e := a_e.step hs
                      replace r_1i := r_1i.step hs
                      replace r_1j := r_1j.step hs
                      replace r_cr := r_cr.step hs
                      replace r_d9 := r_d9.step hs
                      replace r_da := r_da.step hs
                      replace r_1w := r_1w.step hs
                      replace r_1x := r_1x.step hs
                      replace tb := tb.step hs
                      refine ⟨SK (Stp I_d6 w_e4 I_d6) [] [], ⟨Stp.refl _ _, kp_nil⟩, fun L x h => ⟨hz.held h.1, h.2⟩, ?_⟩
                      have hz := Stp.refl I_d6 w_e4
                      refine ⟨?_, trivial⟩
                      obtain ⟨x_e5, q_e6, q_3b⟩ := bind_some q_3b
                      refine ev_call rfl rfl C18 (((rational_Floor_ok n) _ _  x_d3 v_d7 r_d9 v_d8 r_da hp.imm _ q_e6).mono ?_)
                      rintro _ w_e7 ⟨I_e8, v_e9, hv, hq, r_ea⟩
                      replace hv := hv.symm
                      subst hv
                      have hs := hq.st
                      have hp := hp.join0 hq
                      replace hz := hz.trans hs
                      replace a_e := a_e.step hs
                      replace r_1i := r_1i.step hs
                      replace r_1j := r_1j.step hs
                      replace r_cr := r_cr.step hs
                      replace r_1w := r_1w.step hs
                      replace r_1x := r_1x.step hs
                      replace tb := tb.step hs
                      refine ⟨SK (Stp I_e8 w_e7 I_e8) [] [], ⟨Stp.refl _ _, kp_nil⟩, fun L x h => ⟨hz.held h.1, h.2⟩, ?_⟩
                      have hz := Stp.refl I_e8 w_e7
                      refine ⟨?_, trivial⟩
                      obtain ⟨x_eb, q_ec, q_3b⟩ := bind_some q_3b
                      refine ev_call rfl rfl C28 (((rational_New_ok n) _ _  x_e5 v_e9 r_ea (Int_2.mk false [1]) (.slice A_cs m_ct m_cu) r_cr hp.imm _ q_ec).mono ?_)
                      rintro _ w_ed ⟨I_ee, v_ef, v_eg, hv, hq, r_eh, r_ei⟩
                      replace hv := hv.symm
                      subst hv
                      have hs := hq.st
                      have hp := hp.join0 hq
                      replace hz := hz.trans hs
                      replace a_e := a_e.step hs
                      replace r_1i := r_1i.step hs
                      replace r_1j := r_1j.step hs
                      replace r_1w := r_1w.step hs
                      replace r_1x := r_1x.step hs
                      replace tb := tb.step hs
                      refine ⟨SK (Stp I_ee w_ed I_ee) [] [], ⟨Stp.refl _ _, kp_nil⟩, fun L x h => ⟨hz.held h.1, h.2⟩, ?_⟩
                      have hz := Stp.refl I_ee w_ed
                      refine ⟨?_, trivial⟩
                      refine ev_storeA hp (i := 0) (off := 0) (vs := [(.bool x_eb.Num.Neg), v_ef, (.bool x_eb.Den.Neg), v_eg]) rfl rfl rfl rfl T26 rfl (Nat.le_of_ble_eq_true rfl) (ones_cons rfl (ones_cons r_eh.one (ones_cons rfl (ones_cons r_ei.one ones_nil)))) ?_
                      intro w_ej hp hs
                      replace hz := hz.trans hs
                      replace a_e := a_e.step hs
                      replace r_1i := r_1i.step hs
                      replace r_1j := r_1j.step hs
                      replace r_eh := r_eh.step hs
                      replace r_ei := r_ei.step hs
                      replace r_1w := r_1w.step hs
                      replace r_1x := r_1x.step hs
                      replace tb := tb.step hs
                      refine ⟨SK (Stp I_ee w_ej I_ee) [] [], ⟨Stp.refl _ _, kp_nil⟩, fun L x h => ⟨hz.held h.1, h.2⟩, ?_⟩
                      have hz := Stp.refl I_ee w_ej
                      obtain rfl := Option.some.inj q_3b
                      have hp := hp.sel [0] (by decide)
                      exact ⟨(x_eb.Num.Neg, x_eb.Num.Mag, x_eb.Den.Neg, x_eb.Den.Mag, g_e3, v_ef, v_eg, I_ee), (.c rfl (.c rfl (.c rfl .n))), rfl, hp, r_1i, r_1j, a_e, r_eh, r_ei, tb⟩
                    refine ⟨?_, trivial⟩
                    refine ev_alloc hp rfl T26 ?_
                    intro g_ek w_el hp hs
                    replace hz := hz.trans hs
                    replace a_e := a_e.step hs
                    replace r_1i := r_1i.step hs
                    replace r_1j := r_1j.step hs
                    replace r_1k := r_1k.step hs
                    replace r_1l := r_1l.step hs
                    replace r_cr := r_cr.step hs
                    replace r_d1 := r_d1.step hs
                    replace r_d2 := r_d2.step hs
                    replace r_1w := r_1w.step hs
                    replace r_1x := r_1x.step hs
                    replace tb := tb.step hs
                    refine ⟨SK (Stp I_cy w_el I_cy) [] [], ⟨Stp.refl _ _, kp_nil⟩, fun L x h => ⟨hz.held h.1, h.2⟩, ?_⟩
                    have hz := Stp.refl I_cy w_el
                    refine ⟨?_, trivial⟩
                    obtain ⟨x_em, q_en, q_3b⟩ := bind_some q_3b
                    refine ev_call rfl rfl C30 (((rational_Mul_ok n) _ _  (Rational.mk (Int_2.mk x_5.Num.Neg x_19) (Int_2.mk x_5.Den.Neg x_1a)) v_1e r_1k v_1f r_1l x_cv v_cz r_d1 v_d0 r_d2 hp.imm _ q_en).mono ?_)
                    rintro _ w_eo ⟨I_ep, v_eq, v_er, hv, hq, r_es, r_et⟩
                    replace hv := hv.symm
                    subst hv
                    have hs := hq.st
                    have hp := hp.join0 hq
                    replace hz := hz.trans hs
                    replace a_e := a_e.step hs
                    replace r_1i := r_1i.step hs
                    replace r_1j := r_1j.step hs
                    replace r_cr := r_cr.step hs
                    replace r_1w := r_1w.step hs
                    replace r_1x := r_1x.step hs
                    replace tb := tb.step hs
                    refine ⟨SK (Stp I_ep w_eo I_ep) [] [], ⟨Stp.refl _ _, kp_nil⟩, fun L x h => ⟨hz.held h.1, h.2⟩, ?_⟩
                    have hz := Stp.refl I_ep w_eo
                    refine ⟨?_, trivial⟩
                    obtain ⟨x_eu, q_ev, q_3b⟩ := bind_some q_3b
                    refine ev_call rfl rfl C18 (((rational_Floor_ok n) _ _  x_em v_eq r_es v_er r_et hp.imm _ q_ev).mono ?_)
                    rintro _ w_ew ⟨I_ex, v_ey, hv, hq, r_ez⟩
                    replace hv := hv.symm
                    subst hv
                    have hs := hq.st
                    have hp := hp.join0 hq
                    replace hz := hz.trans hs
                    replace a_e := a_e.step hs
                    replace r_1i := r_1i.step hs
                    replace r_1j := r_1j.step hs
                    replace r_cr := r_cr.step hs
                    replace r_1w := r_1w.step hs
                    replace r_1x := r_1x.step hs
                    replace tb := tb.step hs
                    refine ⟨SK (Stp I_ex w_ew I_ex) [] [], ⟨Stp.refl _ _, kp_nil⟩, fun L x h => ⟨hz.held h.1, h.2⟩, ?_⟩
                    have hz := Stp.refl I_ex w_ew
                    refine ⟨?_, trivial⟩
                    obtain ⟨x_f0, q_f1, q_3b⟩ := bind_some q_3b
                    refine ev_call rfl rfl C28 (((rational_New_ok n) _ _  x_eu v_ey r_ez (Int_2.mk false [1]) (.slice A_cs m_ct m_cu) r_cr hp.imm _ q_f1).mono ?_)
                    rintro _ w_f2 ⟨I_f3, v_f4, v_f5, hv, hq, r_f6, r_f7⟩
                    replace hv := hv.symm
                    subst hv
                    have hs := hq.st
                    have hp := hp.join0 hq
                    replace hz := hz.trans hs
                    replace a_e := a_e.step hs
                    replace r_1i := r_1i.step hs
                    replace r_1j := r_1j.step hs
                    replace r_1w := r_1w.step hs
                    replace r_1x := r_1x.step hs
                    replace tb := tb.step hs
                    refine ⟨SK (Stp I_f3 w_f2 I_f3) [] [], ⟨Stp.refl _ _, kp_nil⟩, fun L x h => ⟨hz.held h.1, h.2⟩, ?_⟩
                    have hz := Stp.refl I_f3 w_f2
                    refine ⟨?_, trivial⟩
                    refine ev_storeA hp (i := 0) (off := 0) (vs := [(.bool x_f0.Num.Neg), v_f4, (.bool x_f0.Den.Neg), v_f5]) rfl rfl rfl rfl T26 rfl (Nat.le_of_ble_eq_true rfl) (ones_cons rfl (ones_cons r_f6.one (ones_cons rfl (ones_cons r_f7.one ones_nil)))) ?_
                    intro w_f8 hp hs
                    replace hz := hz.trans hs
                    replace a_e := a_e.step hs
                    replace r_1i := r_1i.step hs
                    replace r_1j := r_1j.step hs
                    replace r_f6 := r_f6.step hs
                    replace r_f7 := r_f7.step hs
                    replace r_1w := r_1w.step hs
                    replace r_1x := r_1x.step hs
                    replace tb := tb.step hs
                    refine ⟨SK (Stp I_f3 w_f8 I_f3) [] [], ⟨Stp.refl _ _, kp_nil⟩, fun L x h => ⟨hz.held h.1, h.2⟩, ?_⟩
                    have hz := Stp.refl I_f3 w_f8
                    obtain rfl := Option.some.inj q_3b
                    have hp := hp.sel [0] (by decide)
                    exact ⟨(x_f0.Num.Neg, x_f0.Num.Mag, x_f0.Den.Neg, x_f0.Den.Mag, g_ek, v_f4, v_f5, I_f3), (.c rfl (.c rfl (.c rfl .n))), rfl, hp, r_1i, r_1j, a_e, r_f6, r_f7, tb⟩
                  refine ⟨?_, trivial⟩
                  refine ev_alloc hp rfl T26 ?_
                  intro g_f9 w_fa hp hs
                  replace hz := hz.trans hs
                  replace a_e := a_e.step hs
                  replace r_1i := r_1i.step hs
                  replace r_1j := r_1j.step hs
                  replace r_1k := r_1k.step hs
                  replace r_1l := r_1l.step hs
                  replace r_cr := r_cr.step hs
                  replace r_1w := r_1w.step hs
                  replace r_1x := r_1x.step hs
                  replace tb := tb.step hs
                  refine ⟨SK (Stp I_cp w_fa I_cp) [] [], ⟨Stp.refl _ _, kp_nil⟩, fun L x h => ⟨hz.held h.1, h.2⟩, ?_⟩
                  have hz := Stp.refl I_cp w_fa
                  refine ⟨?_, trivial⟩
                  obtain ⟨x_fb, q_fc, q_3b⟩ := bind_some q_3b
                  refine ev_call rfl rfl C29 (((rational_Of_ok n) _ _  (IntKind.i64.wrap (1 + ((IntKind.i64.wrap x_a).tmod 40))) 1 hp.imm _ q_fc).mono ?_)
                  rintro _ w_fd ⟨I_fe, v_ff, v_fg, hv, hq, r_fh, r_fi⟩
                  replace hv := hv.symm
                  subst hv
                  have hs := hq.st
                  have hp := hp.join0 hq
                  replace hz := hz.trans hs
                  replace a_e := a_e.step hs
                  replace r_1i := r_1i.step hs
                  replace r_1j := r_1j.step hs
                  replace r_1k := r_1k.step hs
                  replace r_1l := r_1l.step hs
                  replace r_cr := r_cr.step hs
                  replace r_1w := r_1w.step hs
                  replace r_1x := r_1x.step hs
                  replace tb := tb.step hs
                  refine ⟨SK (Stp I_fe w_fd I_fe) [] [], ⟨Stp.refl _ _, kp_nil⟩, fun L x h => ⟨hz.held h.1, h.2⟩, ?_⟩
                  have hz := Stp.refl I_fe w_fd
                  refine ⟨?_, trivial⟩
                  obtain ⟨x_fj, q_fk, q_3b⟩ := bind_some q_3b
                  refine ev_call rfl rfl C30 (((rational_Mul_ok n) _ _  (Rational.mk (Int_2.mk x_5.Num.Neg x_19) (Int_2.mk x_5.Den.Neg x_1a)) v_1e r_1k v_1f r_1l x_fb v_ff r_fh v_fg r_fi hp.imm _ q_fk).mono ?_)
                  rintro _ w_fl ⟨I_fm, v_fn, v_fo, hv, hq, r_fp, r_fq⟩
                  replace hv := hv.symm
                  subst hv
                  have hs := hq.st
                  have hp := hp.join0 hq
                  replace hz := hz.trans hs
                  replace a_e := a_e.step hs
                  replace r_1i := r_1i.step hs
                  replace r_1j := r_1j.step hs
                  replace r_cr := r_cr.step hs
                  replace r_1w := r_1w.step hs
                  replace r_1x := r_1x.step hs
                  replace tb := tb.step hs
                  refine ⟨SK (Stp I_fm w_fl I_fm) [] [], ⟨Stp.refl _ _, kp_nil⟩, fun L x h => ⟨hz.held h.1, h.2⟩, ?_⟩
                  have hz := Stp.refl I_fm w_fl
                  refine ⟨?_, trivial⟩
                  obtain ⟨x_fr, q_fs, q_3b⟩ := bind_some q_3b
                  refine ev_call rfl rfl C18 (((rational_Floor_ok n) _ _  x_fj v_fn r_fp v_fo r_fq hp.imm _ q_fs).mono ?_)
                  rintro _ w_ft ⟨I_fu, v_fv, hv, hq, r_fw⟩
                  replace hv := hv.symm
                  subst hv
                  have hs := hq.st
                  have hp := hp.join0 hq
                  replace hz := hz.trans hs
                  replace a_e := a_e.step hs
                  replace r_1i := r_1i.step hs
                  replace r_1j := r_1j.step hs
                  replace r_cr := r_cr.step hs
                  replace r_1w := r_1w.step hs
                  replace r_1x := r_1x.step hs
                  replace tb := tb.step hs
                  refine ⟨SK (Stp I_fu w_ft I_fu) [] [], ⟨Stp.refl _ _, kp_nil⟩, fun L x h => ⟨hz.held h.1, h.2⟩, ?_⟩
                  have hz := Stp.refl I_fu w_ft
                  refine ⟨?_, trivial⟩
                  obtain ⟨x_fx, q_fy, q_3b⟩ := bind_some q_3b
                  refine ev_call rfl rfl C28 (((rational_New_ok n) _ _  x_fr v_fv r_fw (Int_2.mk false [1]) (.slice A_cs m_ct m_cu) r_cr hp.imm _ q_fy).mono ?_)
                  rintro _ w_fz ⟨I_g0, v_g1, v_g2, hv, hq, r_g3, r_g4⟩
                  replace hv := hv.symm
                  subst hv
                  have hs := hq.st
                  have hp := hp.join0 hq
                  replace hz := hz.trans hs
                  replace a_e := a_e.step hs
                  replace r_1i := r_1i.step hs
                  replace r_1j := r_1j.step hs
                  replace r_1w := r_1w.step hs
                  replace r_1x := r_1x.step hs
                  replace tb := tb.step hs
                  refine ⟨SK (Stp I_g0 w_fz I_g0) [] [], ⟨Stp.refl _ _, kp_nil⟩, fun L x h => ⟨hz.held h.1, h.2⟩, ?_⟩
                  have hz := Stp.refl I_g0 w_fz
                  refine ⟨?_, trivial⟩
                  refine ev_storeA hp (i := 0) (off := 0) (vs := [(.bool x_fx.Num.Neg), v_g1, (.bool x_fx.Den.Neg), v_g2]) rfl rfl rfl rfl T26 rfl (Nat.le_of_ble_eq_true rfl) (ones_cons rfl (ones_cons r_g3.one (ones_cons rfl (ones_cons r_g4.one ones_nil)))) ?_
                  intro w_g5 hp hs
                  replace hz := hz.trans hs
                  replace a_e := a_e.step hs
                  replace r_1i := r_1i.step hs
                  replace r_1j := r_1j.step hs
                  replace r_g3 := r_g3.step hs
                  replace r_g4 := r_g4.step hs
                  replace r_1w := r_1w.step hs
                  replace r_1x := r_1x.step hs
                  replace tb := tb.step hs
                  refine ⟨SK (Stp I_g0 w_g5 I_g0) [] [], ⟨Stp.refl _ _, kp_nil⟩, fun L x h => ⟨hz.held h.1, h.2⟩, ?_⟩
                  have hz := Stp.refl I_g0 w_g5
                  obtain rfl := Option.some.inj q_3b
                  have hp := hp.sel [0] (by decide)
                  exact ⟨(x_fx.Num.Neg, x_fx.Num.Mag, x_fx.Den.Neg, x_fx.Den.Mag, g_f9, v_g1, v_g2, I_g0), (.c rfl (.c rfl (.c rfl .n))), rfl, hp, r_1i, r_1j, a_e, r_g3, r_g4, tb⟩
                refine ⟨?_, trivial⟩
                refine ev_alloc hp rfl T26 ?_
                intro g_g6 w_g7 hp hs
                replace hz := hz.trans hs
                replace a_e := a_e.step hs
                replace r_1i := r_1i.step hs
                replace r_1j := r_1j.step hs
                replace r_1k := r_1k.step hs
                replace r_1l := r_1l.step hs
                replace r_1w := r_1w.step hs
                replace r_1x := r_1x.step hs
                replace tb := tb.step hs
                refine ⟨SK (Stp I_32 w_g7 I_32) [] [], ⟨Stp.refl _ _, kp_nil⟩, fun L x h => ⟨hz.held h.1, h.2⟩, ?_⟩
                have hz := Stp.refl I_32 w_g7
                refine ⟨?_, ?_⟩
                ·
                  obtain ⟨x_g8, q_g9, q_3b⟩ := bind_some q_3b
                  refine ev_call rfl rfl C29 (((rational_Of_ok n) _ _  (IntKind.i64.wrap (1 + ((IntKind.i64.wrap x_a).tmod 40))) 1 hp.imm _ q_g9).mono ?_)
                  rintro _ w_ga ⟨I_gb, v_gc, v_gd, hv, hq, r_ge, r_gf⟩
                  replace hv := hv.symm
                  subst hv
                  have hs := hq.st
                  have hp := hp.join0 hq
                  replace hz := hz.trans hs
                  replace a_e := a_e.step hs
                  replace r_1i := r_1i.step hs
                  replace r_1j := r_1j.step hs
                  replace r_1k := r_1k.step hs
                  replace r_1l := r_1l.step hs
                  replace r_1w := r_1w.step hs
                  replace r_1x := r_1x.step hs
                  replace tb := tb.step hs
                  refine ⟨SK (Stp I_gb w_ga I_gb) [] [], ⟨Stp.refl _ _, kp_nil⟩, fun L x h => ⟨hz.held h.1, h.2⟩, ?_⟩
                  have hz := Stp.refl I_gb w_ga
                  refine ⟨?_, ?_⟩
                  ·
                    obtain ⟨x_gg, q_gh, q_3b⟩ := bind_some q_3b
                    refine ev_call rfl rfl C30 (((rational_Mul_ok n) _ _  (Rational.mk (Int_2.mk x_5.Num.Neg x_19) (Int_2.mk x_5.Den.Neg x_1a)) v_1e r_1k v_1f r_1l x_g8 v_gc r_ge v_gd r_gf hp.imm _ q_gh).mono ?_)
                    rintro _ w_gi ⟨I_gj, v_gk, v_gl, hv, hq, r_gm, r_gn⟩
                    replace hv := hv.symm
                    subst hv
                    have hs := hq.st
                    have hp := hp.join0 hq
                    replace hz := hz.trans hs
                    replace a_e := a_e.step hs
                    replace r_1i := r_1i.step hs
                    replace r_1j := r_1j.step hs
                    replace r_1w := r_1w.step hs
                    replace r_1x := r_1x.step hs
                    replace tb := tb.step hs
                    refine ⟨SK (Stp I_gj w_gi I_gj) [] [], ⟨Stp.refl _ _, kp_nil⟩, fun L x h => ⟨hz.held h.1, h.2⟩, ?_⟩
                    have hz := Stp.refl I_gj w_gi
                    refine ⟨?_, ?_⟩
                    ·
                      obtain ⟨x_go, q_gp, q_3b⟩ := bind_some q_3b
                      refine ev_call rfl rfl C18 (((rational_Floor_ok n) _ _  x_gg v_gk r_gm v_gl r_gn hp.imm _ q_gp).mono ?_)
                      rintro _ w_gq ⟨I_gr, v_gs, hv, hq, r_gt⟩
                      replace hv := hv.symm
                      subst hv
                      have hs := hq.st
                      have hp := hp.join0 hq
                      replace hz := hz.trans hs
                      replace a_e := a_e.step hs
                      replace r_1i := r_1i.step hs
                      replace r_1j := r_1j.step hs
                      replace r_1w := r_1w.step hs
                      replace r_1x := r_1x.step hs
                      replace tb := tb.step hs
                      refine ⟨SK (Stp I_gr w_gq I_gr) [] [], ⟨Stp.refl _ _, kp_nil⟩, fun L x h => ⟨hz.held h.1, h.2⟩, ?_⟩
                      have hz := Stp.refl I_gr w_gq
                      refine ⟨?_, trivial⟩
                      refine ev_litN (d := (dI .u32)) (xs := [1]) (cs := [(.int .u32 1)]) hp rfl rfl Tryz.underlying22 T46 (by decide) rfl rfl (Elems.cons (d := (dI .u32)) (xs := _) rfl (Elems.nil _ _ _ _)) ?_
                      intro v_gu I_gv w_gw hp hs r_gx
                      replace hz := hz.trans hs
                      replace a_e := a_e.step hs
                      replace r_1i := r_1i.step hs
                      replace r_1j := r_1j.step hs
                      replace r_gt := r_gt.step hs
                      replace r_1w := r_1w.step hs
                      replace r_1x := r_1x.step hs
                      replace tb := tb.step hs
                      refine ⟨SK (Stp I_gv w_gw I_gv) [] [], ⟨Stp.refl _ _, kp_nil⟩, fun L x h => ⟨hz.held h.1, h.2⟩, ?_⟩
                      have hz := Stp.refl I_gv w_gw
                      refine ⟨SK.same (by kernel_rfl), ?_⟩
                      obtain ⟨A_gy, m_gz, m_h0, rfl⟩ := r_gx.isSl
                      refine evh0 (fun w => rn_build (cs := [(.bool false), (.slice A_gy m_gz m_h0)]) rfl rfl T24 PL24 rfl) ?_
                      refine ⟨?_, trivial⟩
                      obtain ⟨x_h1, q_h2, q_3b⟩ := bind_some q_3b
                      refine ev_call rfl rfl C28 (((rational_New_ok n) _ _  x_go v_gs r_gt (Int_2.mk false [1]) (.slice A_gy m_gz m_h0) r_gx hp.imm _ q_h2).mono ?_)
                      rintro _ w_h3 ⟨I_h4, v_h5, v_h6, hv, hq, r_h7, r_h8⟩
                      replace hv := hv.symm
                      subst hv
                      have hs := hq.st
                      have hp := hp.join0 hq
                      replace hz := hz.trans hs
                      replace a_e := a_e.step hs
                      replace r_1i := r_1i.step hs
                      replace r_1j := r_1j.step hs
                      replace r_1w := r_1w.step hs
                      replace r_1x := r_1x.step hs
                      replace tb := tb.step hs
                      refine ⟨SK (Stp I_h4 w_h3 I_h4) [] [], ⟨Stp.refl _ _, kp_nil⟩, fun L x h => ⟨hz.held h.1, h.2⟩, ?_⟩
                      have hz := Stp.refl I_h4 w_h3
                      refine ⟨?_, trivial⟩
                      refine ev_storeA hp (i := 0) (off := 0) (vs := [(.bool x_h1.Num.Neg), v_h5, (.bool x_h1.Den.Neg), v_h6]) rfl rfl rfl rfl T26 rfl (Nat.le_of_ble_eq_true rfl) (ones_cons rfl (ones_cons r_h7.one (ones_cons rfl (ones_cons r_h8.one ones_nil)))) ?_
                      intro w_h9 hp hs
                      replace hz := hz.trans hs
                      replace a_e := a_e.step hs
                      replace r_1i := r_1i.step hs
                      replace r_1j := r_1j.step hs
                      replace r_h7 := r_h7.step hs
                      replace r_h8 := r_h8.step hs
                      replace r_1w := r_1w.step hs
                      replace r_1x := r_1x.step hs
                      replace tb := tb.step hs
                      refine ⟨SK (Stp I_h4 w_h9 I_h4) [] [], ⟨Stp.refl _ _, kp_nil⟩, fun L x h => ⟨hz.held h.1, h.2⟩, ?_⟩
                      have hz := Stp.refl I_h4 w_h9
                      obtain rfl := Option.some.inj q_3b
                      have hp := hp.sel [0] (by decide)
                      exact ⟨(x_h1.Num.Neg, x_h1.Num.Mag, x_h1.Den.Neg, x_h1.Den.Mag, g_g6, v_h5, v_h6, I_h4), (.c rfl (.c rfl (.c rfl .n))), rfl, hp, r_1i, r_1j, a_e, r_h7, r_h8, tb⟩
                    refine ⟨?_, trivial⟩
                    refine ev_litN (d := (dI .u32)) (xs := [1]) (cs := [(.int .u32 1)]) hp rfl rfl Tryz.underlying22 T46 (by decide) rfl rfl (Elems.cons (d := (dI .u32)) (xs := _) rfl (Elems.nil _ _ _ _)) ?_
                    intro v_ha I_hb w_hc hp hs r_hd
                    replace hz := hz.trans hs
                    replace a_e := a_e.step hs
                    replace r_1i := r_1i.step hs
                    replace r_1j := r_1j.step hs
                    replace r_gm := r_gm.step hs
                    replace r_gn := r_gn.step hs
                    replace r_1w := r_1w.step hs
                    replace r_1x := r_1x.step hs
                    replace tb := tb.step hs
                    refine ⟨SK (Stp I_hb w_hc I_hb) [] [], ⟨Stp.refl _ _, kp_nil⟩, fun L x h => ⟨hz.held h.1, h.2⟩, ?_⟩
                    have hz := Stp.refl I_hb w_hc
                    refine ⟨SK.same (by kernel_rfl), ?_⟩
                    obtain ⟨A_he, m_hf, m_hg, rfl⟩ := r_hd.isSl
                    refine evh0 (fun w => rn_build (cs := [(.bool false), (.slice A_he m_hf m_hg)]) rfl rfl T24 PL24 rfl) ?_
                    refine ⟨?_, trivial⟩
                    obtain ⟨x_hh, q_hi, q_3b⟩ := bind_some q_3b
                    refine ev_call rfl rfl C18 (((rational_Floor_ok n) _ _  x_gg v_gk r_gm v_gl r_gn hp.imm _ q_hi).mono ?_)
                    rintro _ w_hj ⟨I_hk, v_hl, hv, hq, r_hm⟩
                    replace hv := hv.symm
                    subst hv
                    have hs := hq.st
                    have hp := hp.join0 hq
                    replace hz := hz.trans hs
                    replace a_e := a_e.step hs
                    replace r_1i := r_1i.step hs
                    replace r_1j := r_1j.step hs
                    replace r_hd := r_hd.step hs
                    replace r_1w := r_1w.step hs
                    replace r_1x := r_1x.step hs
                    replace tb := tb.step hs
                    refine ⟨SK (Stp I_hk w_hj I_hk) [] [], ⟨Stp.refl _ _, kp_nil⟩, fun L x h => ⟨hz.held h.1, h.2⟩, ?_⟩
                    have hz := Stp.refl I_hk w_hj
                    refine ⟨?_, trivial⟩
                    obtain ⟨x_hn, q_ho, q_3b⟩ := bind_some q_3b
                    refine ev_call rfl rfl C28 (((rational_New_ok n) _ _  x_hh v_hl r_hm (Int_2.mk false [1]) (.slice A_he m_hf m_hg) r_hd hp.imm _ q_ho).mono ?_)
                    rintro _ w_hp ⟨I_hq, v_hr, v_hs, hv, hq, r_ht, r_hu⟩
                    replace hv := hv.symm
                    subst hv
                    have hs := hq.st
                    have hp := hp.join0 hq
                    replace hz := hz.trans hs
                    replace a_e := a_e.step hs
                    replace r_1i := r_1i.step hs
                    replace r_1j := r_1j.step hs
                    replace r_1w := r_1w.step hs
                    replace r_1x := r_1x.step hs
                    replace tb := tb.step hs
                    refine ⟨SK (Stp I_hq w_hp I_hq) [] [], ⟨Stp.refl _ _, kp_nil⟩, fun L x h => ⟨hz.held h.1, h.2⟩, ?_⟩
                    have hz := Stp.refl I_hq w_hp
                    refine ⟨?_, trivial⟩
                    refine ev_storeA hp (i := 0) (off := 0) (vs := [(.bool x_hn.Num.Neg), v_hr, (.bool x_hn.Den.Neg), v_hs]) rfl rfl rfl rfl T26 rfl (Nat.le_of_ble_eq_true rfl) (ones_cons rfl (ones_cons r_ht.one (ones_cons rfl (ones_cons r_hu.one ones_nil)))) ?_
                    intro w_hv hp hs
                    replace hz := hz.trans hs
                    replace a_e := a_e.step hs
                    replace r_1i := r_1i.step hs
                    replace r_1j := r_1j.step hs
                    replace r_ht := r_ht.step hs
                    replace r_hu := r_hu.step hs
                    replace r_1w := r_1w.step hs
                    replace r_1x := r_1x.step hs
                    replace tb := tb.step hs
                    refine ⟨SK (Stp I_hq w_hv I_hq) [] [], ⟨Stp.refl _ _, kp_nil⟩, fun L x h => ⟨hz.held h.1, h.2⟩, ?_⟩
                    have hz := Stp.refl I_hq w_hv
                    obtain rfl := Option.some.inj q_3b
                    have hp := hp.sel [0] (by decide)
                    exact ⟨(x_hn.Num.Neg, x_hn.Num.Mag, x_hn.Den.Neg, x_hn.Den.Mag, g_g6, v_hr, v_hs, I_hq), (.c rfl (.c rfl (.c rfl .n))), rfl, hp, r_1i, r_1j, a_e, r_ht, r_hu, tb⟩
                  refine ⟨?_, trivial⟩
                  refine ev_litN (d := (dI .u32)) (xs := [1]) (cs := [(.int .u32 1)]) hp rfl rfl Tryz.underlying22 T46 (by decide) rfl rfl (Elems.cons (d := (dI .u32)) (xs := _) rfl (Elems.nil _ _ _ _)) ?_
                  intro v_hw I_hx w_hy hp hs r_hz
                  replace hz := hz.trans hs
                  replace a_e := a_e.step hs
                  replace r_1i := r_1i.step hs
                  replace r_1j := r_1j.step hs
                  replace r_1k := r_1k.step hs
                  replace r_1l := r_1l.step hs
                  replace r_ge := r_ge.step hs
                  replace r_gf := r_gf.step hs
                  replace r_1w := r_1w.step hs
                  replace r_1x := r_1x.step hs
                  replace tb := tb.step hs
                  refine ⟨SK (Stp I_hx w_hy I_hx) [] [], ⟨Stp.refl _ _, kp_nil⟩, fun L x h => ⟨hz.held h.1, h.2⟩, ?_⟩
                  have hz := Stp.refl I_hx w_hy
                  refine ⟨SK.same (by kernel_rfl), ?_⟩
                  obtain ⟨A_i0, m_i1, m_i2, rfl⟩ := r_hz.isSl
                  refine evh0 (fun w => rn_build (cs := [(.bool false), (.slice A_i0 m_i1 m_i2)]) rfl rfl T24 PL24 rfl) ?_
                  refine ⟨?_, trivial⟩
                  obtain ⟨x_i3, q_i4, q_3b⟩ := bind_some q_3b
                  refine ev_call rfl rfl C30 (((rational_Mul_ok n) _ _  (Rational.mk (Int_2.mk x_5.Num.Neg x_19) (Int_2.mk x_5.Den.Neg x_1a)) v_1e r_1k v_1f r_1l x_g8 v_gc r_ge v_gd r_gf hp.imm _ q_i4).mono ?_)
                  rintro _ w_i5 ⟨I_i6, v_i7, v_i8, hv, hq, r_i9, r_ia⟩
                  replace hv := hv.symm
                  subst hv
                  have hs := hq.st
                  have hp := hp.join0 hq
                  replace hz := hz.trans hs
                  replace a_e := a_e.step hs
                  replace r_1i := r_1i.step hs
                  replace r_1j := r_1j.step hs
                  replace r_hz := r_hz.step hs
                  replace r_1w := r_1w.step hs
                  replace r_1x := r_1x.step hs
                  replace tb := tb.step hs
                  refine ⟨SK (Stp I_i6 w_i5 I_i6) [] [], ⟨Stp.refl _ _, kp_nil⟩, fun L x h => ⟨hz.held h.1, h.2⟩, ?_⟩
                  have hz := Stp.refl I_i6 w_i5
                  refine ⟨?_, trivial⟩
                  obtain ⟨x_ib, q_ic, q_3b⟩ := bind_some q_3b
                  refine ev_call rfl rfl C18 (((rational_Floor_ok n) _ _  x_i3 v_i7 r_i9 v_i8 r_ia hp.imm _ q_ic).mono ?_)
                  rintro _ w_id ⟨I_ie, v_if, hv, hq, r_ig⟩
                  replace hv := hv.symm
                  subst hv
                  have hs := hq.st
                  have hp := hp.join0 hq
                  replace hz := hz.trans hs
                  replace a_e := a_e.step hs
                  replace r_1i := r_1i.step hs
                  replace r_1j := r_1j.step hs
                  replace r_hz := r_hz.step hs
                  replace r_1w := r_1w.step hs
                  replace r_1x := r_1x.step hs
                  replace tb := tb.step hs
                  refine ⟨SK (Stp I_ie w_id I_ie) [] [], ⟨Stp.refl _ _, kp_nil⟩, fun L x h => ⟨hz.held h.1, h.2⟩, ?_⟩
                  have hz := Stp.refl I_ie w_id
                  refine ⟨?_, trivial⟩
                  obtain ⟨x_ih, q_ii, q_3b⟩ := bind_some q_3b
                  refine ev_call rfl rfl C28 (((rational_New_ok n) _ _  x_ib v_if r_ig (Int_2.mk false [1]) (.slice A_i0 m_i1 m_i2) r_hz hp.imm _ q_ii).mono ?_)
                  rintro _ w_ij ⟨I_ik, v_il, v_im, hv, hq, r_in, r_io⟩
                  replace hv := hv.symm
                  subst hv
                  have hs := hq.st
                  have hp := hp.join0 hq
                  replace hz := hz.trans hs
                  replace a_e := a_e.step hs
                  replace r_1i := r_1i.step hs
                  replace r_1j := r_1j.step hs
                  replace r_1w := r_1w.step hs
                  replace r_1x := r_1x.step hs
                  replace tb := tb.step hs
                  refine ⟨SK (Stp I_ik w_ij I_ik) [] [], ⟨Stp.refl _ _, kp_nil⟩, fun L x h => ⟨hz.held h.1, h.2⟩, ?_⟩
                  have hz := Stp.refl I_ik w_ij
                  refine ⟨?_, trivial⟩
                  refine ev_storeA hp (i := 0) (off := 0) (vs := [(.bool x_ih.Num.Neg), v_il, (.bool x_ih.Den.Neg), v_im]) rfl rfl rfl rfl T26 rfl (Nat.le_of_ble_eq_true rfl) (ones_cons rfl (ones_cons r_in.one (ones_cons rfl (ones_cons r_io.one ones_nil)))) ?_
                  intro w_ip hp hs
                  replace hz := hz.trans hs
                  replace a_e := a_e.step hs
                  replace r_1i := r_1i.step hs
                  replace r_1j := r_1j.step hs
                  replace r_in := r_in.step hs
                  replace r_io := r_io.step hs
                  replace r_1w := r_1w.step hs
                  replace r_1x := r_1x.step hs
                  replace tb := tb.step hs
                  refine ⟨SK (Stp I_ik w_ip I_ik) [] [], ⟨Stp.refl _ _, kp_nil⟩, fun L x h => ⟨hz.held h.1, h.2⟩, ?_⟩
                  have hz := Stp.refl I_ik w_ip
                  obtain rfl := Option.some.inj q_3b
                  have hp := hp.sel [0] (by decide)
                  exact ⟨(x_ih.Num.Neg, x_ih.Num.Mag, x_ih.Den.Neg, x_ih.Den.Mag, g_g6, v_il, v_im, I_ik), (.c rfl (.c rfl (.c rfl .n))), rfl, hp, r_1i, r_1j, a_e, r_in, r_io, tb⟩
                refine ⟨?_, trivial⟩
                refine ev_litN (d := (dI .u32)) (xs := [1]) (cs := [(.int .u32 1)]) hp rfl rfl Tryz.underlying22 T46 (by decide) rfl rfl (Elems.cons (d := (dI .u32)) (xs := _) rfl (Elems.nil _ _ _ _)) ?_
                intro v_iq I_ir w_is hp hs r_it
                replace hz := hz.trans hs
                replace a_e := a_e.step hs
                replace r_1i := r_1i.step hs
                replace r_1j := r_1j.step hs
                replace r_1k := r_1k.step hs
                replace r_1l := r_1l.step hs
                replace r_1w := r_1w.step hs
                replace r_1x := r_1x.step hs
                replace tb := tb.step hs
                refine ⟨SK (Stp I_ir w_is I_ir) [] [], ⟨Stp.refl _ _, kp_nil⟩, fun L x h => ⟨hz.held h.1, h.2⟩, ?_⟩
                have hz := Stp.refl I_ir w_is
                refine ⟨SK.same (by kernel_rfl), ?_⟩
                obtain ⟨A_iu, m_iv, m_iw, rfl⟩ := r_it.isSl
                refine evh0 (fun w => rn_build (cs := [(.bool false), (.slice A_iu m_iv m_iw)]) rfl rfl T24 PL24 rfl) ?_
                refine ⟨?_, trivial⟩
                obtain ⟨x_ix, q_iy, q_3b⟩ := bind_some q_3b
                refine ev_call rfl rfl C29 (((rational_Of_ok n) _ _  (IntKind.i64.wrap (1 + ((IntKind.i64.wrap x_a).tmod 40))) 1 hp.imm _ q_iy).mono ?_)
                rintro _ w_iz ⟨I_j0, v_j1, v_j2, hv, hq, r_j3, r_j4⟩
                replace hv := hv.symm
                subst hv
                have hs := hq.st
                have hp := hp.join0 hq
                replace hz := hz.trans hs
                replace a_e := a_e.step hs
                replace r_1i := r_1i.step hs
                replace r_1j := r_1j.step hs
                replace r_1k := r_1k.step hs
                replace r_1l := r_1l.step hs
                replace r_it := r_it.step hs
                replace r_1w := r_1w.step hs
                replace r_1x := r_1x.step hs
                replace tb := tb.step hs
                refine ⟨SK (Stp I_j0 w_iz I_j0) [] [], ⟨Stp.refl _ _, kp_nil⟩, fun L x h => ⟨hz.held h.1, h.2⟩, ?_⟩
                have hz := Stp.refl I_j0 w_iz
                refine ⟨?_, trivial⟩
                obtain ⟨x_j5, q_j6, q_3b⟩ := bind_some q_3b
                refine ev_call rfl rfl C30 (((rational_Mul_ok n) _ _  (Rational.mk (Int_2.mk x_5.Num.Neg x_19) (Int_2.mk x_5.Den.Neg x_1a)) v_1e r_1k v_1f r_1l x_ix v_j1 r_j3 v_j2 r_j4 hp.imm _ q_j6).mono ?_)
                rintro _ w_j7 ⟨I_j8, v_j9, v_ja, hv, hq, r_jb, r_jc⟩
                replace hv := hv.symm
                subst hv
                have hs := hq.st
                have hp := hp.join0 hq
                replace hz := hz.trans hs
                replace a_e := a_e.step hs
                replace r_1i := r_1i.step hs
                replace r_1j := r_1j.step hs
                replace r_it := r_it.step hs
                replace r_1w := r_1w.step hs
                replace r_1x := r_1x.step hs
                replace tb := tb.step hs
                refine ⟨SK (Stp I_j8 w_j7 I_j8) [] [], ⟨Stp.refl _ _, kp_nil⟩, fun L x h => ⟨hz.held h.1, h.2⟩, ?_⟩
                have hz := Stp.refl I_j8 w_j7
                refine ⟨?_, trivial⟩
                obtain ⟨x_jd, q_je, q_3b⟩ := bind_some q_3b
                refine ev_call rfl rfl C18 (((rational_Floor_ok n) _ _  x_j5 v_j9 r_jb v_ja r_jc hp.imm _ q_je).mono ?_)
                rintro _ w_jf ⟨I_jg, v_jh, hv, hq, r_ji⟩
                replace hv := hv.symm
                subst hv
                have hs := hq.st
                have hp := hp.join0 hq
                replace hz := hz.trans hs
                replace a_e := a_e.step hs
                replace r_1i := r_1i.step hs
                replace r_1j := r_1j.step hs
                replace r_it := r_it.step hs
                replace r_1w := r_1w.step hs
                replace r_1x := r_1x.step hs
                replace tb := tb.step hs
                refine ⟨SK (Stp I_jg w_jf I_jg) [] [], ⟨Stp.refl _ _, kp_nil⟩, fun L x h => ⟨hz.held h.1, h.2⟩, ?_⟩
                have hz := Stp.refl I_jg w_jf
                refine ⟨?_, trivial⟩
                obtain ⟨x_jj, q_jk, q_3b⟩ := bind_some q_3b
                refine ev_call rfl rfl C28 (((rational_New_ok n) _ _  x_jd v_jh r_ji (Int_2.mk false [1]) (.slice A_iu m_iv m_iw) r_it hp.imm _ q_jk).mono ?_)
                rintro _ w_jl ⟨I_jm, v_jn, v_jo, hv, hq, r_jp, r_jq⟩
                replace hv := hv.symm
                subst hv
                have hs := hq.st
                have hp := hp.join0 hq
                replace hz := hz.trans hs
                replace a_e := a_e.step hs
                replace r_1i := r_1i.step hs
                replace r_1j := r_1j.step hs
                replace r_1w := r_1w.step hs
                replace r_1x := r_1x.step hs
                replace tb := tb.step hs
                refine ⟨SK (Stp I_jm w_jl I_jm) [] [], ⟨Stp.refl _ _, kp_nil⟩, fun L x h => ⟨hz.held h.1, h.2⟩, ?_⟩
                have hz := Stp.refl I_jm w_jl
                refine ⟨?_, trivial⟩
                refine ev_storeA hp (i := 0) (off := 0) (vs := [(.bool x_jj.Num.Neg), v_jn, (.bool x_jj.Den.Neg), v_jo]) rfl rfl rfl rfl T26 rfl (Nat.le_of_ble_eq_true rfl) (ones_cons rfl (ones_cons r_jp.one (ones_cons rfl (ones_cons r_jq.one ones_nil)))) ?_
                intro w_jr hp hs
                replace hz := hz.trans hs
                replace a_e := a_e.step hs
                replace r_1i := r_1i.step hs
                replace r_1j := r_1j.step hs
                replace r_jp := r_jp.step hs
                replace r_jq := r_jq.step hs
                replace r_1w := r_1w.step hs
                replace r_1x := r_1x.step hs
                replace tb := tb.step hs
                refine ⟨SK (Stp I_jm w_jr I_jm) [] [], ⟨Stp.refl _ _, kp_nil⟩, fun L x h => ⟨hz.held h.1, h.2⟩, ?_⟩
                have hz := Stp.refl I_jm w_jr
                obtain rfl := Option.some.inj q_3b
                have hp := hp.sel [0] (by decide)
                exact ⟨(x_jj.Num.Neg, x_jj.Num.Mag, x_jj.Den.Neg, x_jj.Den.Mag, g_g6, v_jn, v_jo, I_jm), (.c rfl (.c rfl (.c rfl .n))), rfl, hp, r_1i, r_1j, a_e, r_jp, r_jq, tb⟩
              ·
                rintro ⟨x_js, x_jt, x_ju, x_jv, g_jw, v_jx, v_jy, I_jz⟩ w_k0 ⟨hy, hp, r_1i, r_1j, a_e, r_k1, r_k2, tb⟩
                replace hy := hy.symm
                subst hy
                obtain ⟨y_k3, q_k4, h⟩ := bind_some h
                refine W.cut (γ := (Bool × (List Int) × Bool × (List Int) × Int × Nat × Value × Value × (Nat → Prop))) (fun g => [(3, (.pointer (some (p_b)))), (13, (.pointer (some ⟨(g.2.2.2.2.2.1), 0, none⟩))), (14, (.int .i64 (g.2.2.2.2.1)))]) (fun g w' => y_k3 = ((g.1), (g.2.1), (g.2.2.1), (g.2.2.2.1), (g.2.2.2.2.1)) ∧ Hp ⟨w0, I0, []⟩ (g.2.2.2.2.2.2.2.2) [some ((g.2.2.2.2.2.1), [(.bool (g.1)), (g.2.2.2.2.2.2.1), (.bool (g.2.2.1)), (g.2.2.2.2.2.2.2.1)], 26)] w' ∧ RepS (dI .u32) w' (g.2.2.2.2.2.2.2.2) v_1c x_17 ∧ RepS (dI .u32) w' (g.2.2.2.2.2.2.2.2) v_1d x_18 ∧ At w' (g.2.2.2.2.2.2.2.2) p_b [(.bool x_0.Num.Neg), v_1c, (.bool x_0.Den.Neg), v_1d] ∧ RepS (dI .u32) w' (g.2.2.2.2.2.2.2.2) (g.2.2.2.2.2.2.1) (g.2.1) ∧ RepS (dI .u32) w' (g.2.2.2.2.2.2.2.2) (g.2.2.2.2.2.2.2.1) (g.2.2.2.1) ∧ Tb w' (g.2.2.2.2.2.2.2.2) 4 .u64 pow10) ?_ ?_
                ·
                  have hs := hp.stp (Ch.drew [] w_k0)
                  have hp := hp.drew
                  replace a_e := a_e.step hs
                  replace r_1i := r_1i.step hs
                  replace r_1j := r_1j.step hs
                  replace r_k1 := r_k1.step hs
                  replace r_k2 := r_k2.step hs
                  replace tb := tb.step hs
                  refine W.heldG (.q 0 (.q 1 (.l 2 (.l 3 (.q 4 (.q 5 (.q 6 (.l 7 (.l 8 (.q 9 .done) .no) .no)))) (.l 7 (.l 3 (.q 4 (.q 5 (.q 6 (.l 8 (.q 9 .done) .no)))) .no) .no)) (.l 7 (.l 2 (.l 3 (.q 4 (.q 5 (.q 6 (.l 8 (.q 9 .done) .no)))) .no) .no) .no)))) (SK (Stp I_jz w_k0.drew I_jz) [(g_jw, [(.bool x_js), v_jx, (.bool x_ju), v_jy], 26)] [[]]) MX (by kernel_rfl) ⟨Stp.refl _ _, (kp_cons (fun _ => (hp.own 0 _ _ _ rfl).1) kp_nil)⟩ ?_
                  have hz := Stp.refl I_jz w_k0.drew
                  refine ⟨SK.same (by kernel_rfl), ?_⟩
                  refine evh (fun w' hw => rn_load rfl rfl (run_loadVarA T26 rfl ((S0.keep (p := 0) hw rfl rfl (by kernel_rfl)).at_ (i := 0) rfl))) ?_
                  refine ⟨SK.same (by kernel_rfl), ?_⟩
                  refine ⟨?_, ?_⟩
                  ·
                    obtain ⟨x_k5, q_k6, q_k4⟩ := bind_some q_k4
                    refine ev_call rfl rfl C29 (((rational_Of_ok n) _ _  (IntKind.i64.wrap (1 + ((IntKind.i64.wrap x_a).tmod 40))) 1 hp.imm _ q_k6).mono ?_)
                    rintro _ w_k7 ⟨I_k8, v_k9, v_ka, hv, hq, r_kb, r_kc⟩
                    replace hv := hv.symm
                    subst hv
                    have hs := hq.st
                    have hp := hp.join0 hq
                    replace hz := hz.trans hs
                    replace a_e := a_e.step hs
                    replace r_1i := r_1i.step hs
                    replace r_1j := r_1j.step hs
                    replace r_k1 := r_k1.step hs
                    replace r_k2 := r_k2.step hs
                    replace tb := tb.step hs
                    refine ⟨SK (Stp I_k8 w_k7 I_k8) [(g_jw, [(.bool x_js), v_jx, (.bool x_ju), v_jy], 26)] [[]], ⟨Stp.refl _ _, (kp_cons (fun _ => (hp.own 0 _ _ _ rfl).1) kp_nil)⟩, fun L x h => ⟨hz.held h.1, h.2⟩, ?_⟩
                    have hz := Stp.refl I_k8 w_k7
                    refine ⟨?_, ?_⟩
                    ·
                      obtain ⟨⟨x_kd, x_ke⟩, q_kf, q_k4⟩ := bind_some q_k4
                      refine ev_call rfl rfl C10 (((rational_Div_ok n) _ _  (Rational.mk (Int_2.mk x_js x_jt) (Int_2.mk x_ju x_jv)) v_jx r_k1 v_jy r_k2 x_k5 v_k9 r_kb v_ka r_kc hp.imm _ q_kf).mono ?_)
                      rintro _ w_kg ⟨I_kh, v_ki, v_kj, hv, hq, r_kk, r_kl⟩
                      replace hv := hv.symm
                      subst hv
                      have hs := hq.st
                      have hp := hp.join0 hq
                      replace hz := hz.trans hs
                      replace a_e := a_e.step hs
                      replace r_1i := r_1i.step hs
                      replace r_1j := r_1j.step hs
                      replace r_k1 := r_k1.step hs
                      replace r_k2 := r_k2.step hs
                      replace tb := tb.step hs
                      refine ⟨SK (Stp I_kh w_kg I_kh) [(g_jw, [(.bool x_js), v_jx, (.bool x_ju), v_jy], 26)] [[]], ⟨Stp.refl _ _, (kp_cons (fun _ => (hp.own 0 _ _ _ rfl).1) kp_nil)⟩, fun L x h => ⟨hz.held h.1, h.2⟩, ?_⟩
                      have hz := Stp.refl I_kh w_kg
                      refine ⟨SK.same (by kernel_rfl), ?_⟩
                      refine ⟨SK.same (by kernel_rfl), ?_⟩
                      refine ⟨SK.same (by kernel_rfl), ?_⟩
                      refine ⟨?_, trivial⟩
                      refine ev_alloc hp rfl T26 ?_
                      intro g_km w_kn hp hs
                      replace hz := hz.trans hs
                      replace a_e := a_e.step hs
                      replace r_1i := r_1i.step hs
                      replace r_1j := r_1j.step hs
                      replace r_kk := r_kk.step hs
                      replace r_kl := r_kl.step hs
                      replace r_k1 := r_k1.step hs
                      replace r_k2 := r_k2.step hs
                      replace tb := tb.step hs
                      refine ⟨SK (Stp I_kh w_kn I_kh) [(g_jw, [(.bool x_js), v_jx, (.bool x_ju), v_jy], 26)] [[]], ⟨Stp.refl _ _, (kp_cons (fun _ => (hp.own 1 _ _ _ rfl).1) kp_nil)⟩, fun L x h => ⟨hz.held h.1, h.2⟩, ?_⟩
                      have hz := Stp.refl I_kh w_kn
                      refine ⟨?_, trivial⟩
                      refine ev_storeA hp (i := 0) (off := 0) (vs := [(.bool x_kd.Num.Neg), v_ki, (.bool x_kd.Den.Neg), v_kj]) rfl rfl rfl rfl T26 rfl (Nat.le_of_ble_eq_true rfl) (ones_cons rfl (ones_cons r_kk.one (ones_cons rfl (ones_cons r_kl.one ones_nil)))) ?_
                      intro w_ko hp hs
                      replace hz := hz.trans hs
                      replace a_e := a_e.step hs
                      replace r_1i := r_1i.step hs
                      replace r_1j := r_1j.step hs
                      replace r_kk := r_kk.step hs
                      replace r_kl := r_kl.step hs
                      replace r_k1 := r_k1.step hs
                      replace r_k2 := r_k2.step hs
                      replace tb := tb.step hs
                      refine ⟨SK (Stp I_kh w_ko I_kh) [(g_jw, [(.bool x_js), v_jx, (.bool x_ju), v_jy], 26)] [[]], ⟨Stp.refl _ _, (kp_cons (fun _ => (hp.own 1 _ _ _ rfl).1) kp_nil)⟩, fun L x h => ⟨hz.held h.1, h.2⟩, ?_⟩
                      have hz := Stp.refl I_kh w_ko
                      refine ⟨SK.same (by kernel_rfl), ?_⟩
                      obtain rfl := Option.some.inj q_k4
                      have hp := hp.sel [0] (by decide)
                      exact ⟨(x_kd.Num.Neg, x_kd.Num.Mag, x_kd.Den.Neg, x_kd.Den.Mag, x_ke, g_km, v_ki, v_kj, I_kh), (.c rfl (.c rfl (.c rfl .n))), rfl, hp, r_1i, r_1j, a_e, r_kk, r_kl, tb⟩
                    refine ⟨?_, trivial⟩
                    refine ev_alloc hp rfl T26 ?_
                    intro g_kp w_kq hp hs
                    replace hz := hz.trans hs
                    replace a_e := a_e.step hs
                    replace r_1i := r_1i.step hs
                    replace r_1j := r_1j.step hs
                    replace r_k1 := r_k1.step hs
                    replace r_k2 := r_k2.step hs
                    replace r_kb := r_kb.step hs
                    replace r_kc := r_kc.step hs
                    replace tb := tb.step hs
                    refine ⟨SK (Stp I_k8 w_kq I_k8) [(g_jw, [(.bool x_js), v_jx, (.bool x_ju), v_jy], 26)] [[]], ⟨Stp.refl _ _, (kp_cons (fun _ => (hp.own 1 _ _ _ rfl).1) kp_nil)⟩, fun L x h => ⟨hz.held h.1, h.2⟩, ?_⟩
                    have hz := Stp.refl I_k8 w_kq
                    refine ⟨?_, trivial⟩
                    obtain ⟨⟨x_kr, x_ks⟩, q_kt, q_k4⟩ := bind_some q_k4
                    refine ev_call rfl rfl C10 (((rational_Div_ok n) _ _  (Rational.mk (Int_2.mk x_js x_jt) (Int_2.mk x_ju x_jv)) v_jx r_k1 v_jy r_k2 x_k5 v_k9 r_kb v_ka r_kc hp.imm _ q_kt).mono ?_)
                    rintro _ w_ku ⟨I_kv, v_kw, v_kx, hv, hq, r_ky, r_kz⟩
                    replace hv := hv.symm
                    subst hv
                    have hs := hq.st
                    have hp := hp.join0 hq
                    replace hz := hz.trans hs
                    replace a_e := a_e.step hs
                    replace r_1i := r_1i.step hs
                    replace r_1j := r_1j.step hs
                    replace r_k1 := r_k1.step hs
                    replace r_k2 := r_k2.step hs
                    replace tb := tb.step hs
                    refine ⟨SK (Stp I_kv w_ku I_kv) [(g_jw, [(.bool x_js), v_jx, (.bool x_ju), v_jy], 26)] [[]], ⟨Stp.refl _ _, (kp_cons (fun _ => (hp.own 1 _ _ _ rfl).1) kp_nil)⟩, fun L x h => ⟨hz.held h.1, h.2⟩, ?_⟩
                    have hz := Stp.refl I_kv w_ku
                    refine ⟨SK.same (by kernel_rfl), ?_⟩
                    refine ⟨SK.same (by kernel_rfl), ?_⟩
                    refine ⟨SK.same (by kernel_rfl), ?_⟩
                    refine ⟨?_, trivial⟩
                    refine ev_storeA hp (i := 0) (off := 0) (vs := [(.bool x_kr.Num.Neg), v_kw, (.bool x_kr.Den.Neg), v_kx]) rfl rfl rfl rfl T26 rfl (Nat.le_of_ble_eq_true rfl) (ones_cons rfl (ones_cons r_ky.one (ones_cons rfl (ones_cons r_kz.one ones_nil)))) ?_
                    intro w_l0 hp hs
                    replace hz := hz.trans hs
                    replace a_e := a_e.step hs
                    replace r_1i := r_1i.step hs
                    replace r_1j := r_1j.step hs
                    replace r_ky := r_ky.step hs
                    replace r_kz := r_kz.step hs
                    replace r_k1 := r_k1.step hs
                    replace r_k2 := r_k2.step hs
                    replace tb := tb.step hs
                    refine ⟨SK (Stp I_kv w_l0 I_kv) [(g_jw, [(.bool x_js), v_jx, (.bool x_ju), v_jy], 26)] [[]], ⟨Stp.refl _ _, (kp_cons (fun _ => (hp.own 1 _ _ _ rfl).1) kp_nil)⟩, fun L x h => ⟨hz.held h.1, h.2⟩, ?_⟩
                    have hz := Stp.refl I_kv w_l0
                    refine ⟨SK.same (by kernel_rfl), ?_⟩
                    obtain rfl := Option.some.inj q_k4
                    have hp := hp.sel [0] (by decide)
                    exact ⟨(x_kr.Num.Neg, x_kr.Num.Mag, x_kr.Den.Neg, x_kr.Den.Mag, x_ks, g_kp, v_kw, v_kx, I_kv), (.c rfl (.c rfl (.c rfl .n))), rfl, hp, r_1i, r_1j, a_e, r_ky, r_kz, tb⟩
                  refine ⟨?_, trivial⟩
                  refine ev_alloc hp rfl T26 ?_
                  intro g_l1 w_l2 hp hs
                  replace hz := hz.trans hs
                  replace a_e := a_e.step hs
                  replace r_1i := r_1i.step hs
                  replace r_1j := r_1j.step hs
                  replace r_k1 := r_k1.step hs
                  replace r_k2 := r_k2.step hs
                  replace tb := tb.step hs
                  refine ⟨SK (Stp I_jz w_l2 I_jz) [(g_jw, [(.bool x_js), v_jx, (.bool x_ju), v_jy], 26)] [[]], ⟨Stp.refl _ _, (kp_cons (fun _ => (hp.own 1 _ _ _ rfl).1) kp_nil)⟩, fun L x h => ⟨hz.held h.1, h.2⟩, ?_⟩
                  have hz := Stp.refl I_jz w_l2
                  refine ⟨?_, trivial⟩
                  obtain ⟨x_l3, q_l4, q_k4⟩ := bind_some q_k4
                  refine ev_call rfl rfl C29 (((rational_Of_ok n) _ _  (IntKind.i64.wrap (1 + ((IntKind.i64.wrap x_a).tmod 40))) 1 hp.imm _ q_l4).mono ?_)
                  rintro _ w_l5 ⟨I_l6, v_l7, v_l8, hv, hq, r_l9, r_la⟩
                  replace hv := hv.symm
                  subst hv
                  have hs := hq.st
                  have hp := hp.join0 hq
                  replace hz := hz.trans hs
                  replace a_e := a_e.step hs
                  replace r_1i := r_1i.step hs
                  replace r_1j := r_1j.step hs
                  replace r_k1 := r_k1.step hs
                  replace r_k2 := r_k2.step hs
                  replace tb := tb.step hs
                  refine ⟨SK (Stp I_l6 w_l5 I_l6) [(g_jw, [(.bool x_js), v_jx, (.bool x_ju), v_jy], 26)] [[]], ⟨Stp.refl _ _, (kp_cons (fun _ => (hp.own 1 _ _ _ rfl).1) kp_nil)⟩, fun L x h => ⟨hz.held h.1, h.2⟩, ?_⟩
                  have hz := Stp.refl I_l6 w_l5
                  refine ⟨?_, trivial⟩
                  obtain ⟨⟨x_lb, x_lc⟩, q_ld, q_k4⟩ := bind_some q_k4
                  refine ev_call rfl rfl C10 (((rational_Div_ok n) _ _  (Rational.mk (Int_2.mk x_js x_jt) (Int_2.mk x_ju x_jv)) v_jx r_k1 v_jy r_k2 x_l3 v_l7 r_l9 v_l8 r_la hp.imm _ q_ld).mono ?_)
                  rintro _ w_le ⟨I_lf, v_lg, v_lh, hv, hq, r_li, r_lj⟩
                  replace hv := hv.symm
                  subst hv
                  have hs := hq.st
                  have hp := hp.join0 hq
                  replace hz := hz.trans hs
                  replace a_e := a_e.step hs
                  replace r_1i := r_1i.step hs
                  replace r_1j := r_1j.step hs
                  replace r_k1 := r_k1.step hs
                  replace r_k2 := r_k2.step hs
                  replace tb := tb.step hs
                  refine ⟨SK (Stp I_lf w_le I_lf) [(g_jw, [(.bool x_js), v_jx, (.bool x_ju), v_jy], 26)] [[]], ⟨Stp.refl _ _, (kp_cons (fun _ => (hp.own 1 _ _ _ rfl).1) kp_nil)⟩, fun L x h => ⟨hz.held h.1, h.2⟩, ?_⟩
                  have hz := Stp.refl I_lf w_le
                  refine ⟨SK.same (by kernel_rfl), ?_⟩
                  refine ⟨SK.same (by kernel_rfl), ?_⟩
                  refine ⟨SK.same (by kernel_rfl), ?_⟩
                  refine ⟨?_, trivial⟩
                  refine ev_storeA hp (i := 0) (off := 0) (vs := [(.bool x_lb.Num.Neg), v_lg, (.bool x_lb.Den.Neg), v_lh]) rfl rfl rfl rfl T26 rfl (Nat.le_of_ble_eq_true rfl) (ones_cons rfl (ones_cons r_li.one (ones_cons rfl (ones_cons r_lj.one ones_nil)))) ?_
                  intro w_lk hp hs
                  replace hz := hz.trans hs
                  replace a_e := a_e.step hs
                  replace r_1i := r_1i.step hs
                  replace r_1j := r_1j.step hs
                  replace r_li := r_li.step hs
                  replace r_lj := r_lj.step hs
                  replace r_k1 := r_k1.step hs
                  replace r_k2 := r_k2.step hs
                  replace tb := tb.step hs
                  refine ⟨SK (Stp I_lf w_lk I_lf) [(g_jw, [(.bool x_js), v_jx, (.bool x_ju), v_jy], 26)] [[]], ⟨Stp.refl _ _, (kp_cons (fun _ => (hp.own 1 _ _ _ rfl).1) kp_nil)⟩, fun L x h => ⟨hz.held h.1, h.2⟩, ?_⟩
                  have hz := Stp.refl I_lf w_lk
                  refine ⟨SK.same (by kernel_rfl), ?_⟩
                  obtain rfl := Option.some.inj q_k4
                  have hp := hp.sel [0] (by decide)
                  exact ⟨(x_lb.Num.Neg, x_lb.Num.Mag, x_lb.Den.Neg, x_lb.Den.Mag, x_lc, g_l1, v_lg, v_lh, I_lf), (.c rfl (.c rfl (.c rfl .n))), rfl, hp, r_1i, r_1j, a_e, r_li, r_lj, tb⟩
                ·
                  rintro ⟨x_ll, x_lm, x_ln, x_lo, x_lp, g_lq, v_lr, v_ls, I_lt⟩ w_lu ⟨hy, hp, r_1i, r_1j, a_e, r_lv, r_lw, tb⟩
                  replace hy := hy.symm
                  subst hy
                  obtain ⟨y_lx, q_ly, h⟩ := bind_some h
                  refine W.cut (γ := Bool) (fun g => [(6, (.bool (g)))]) (fun g w' => y_lx = (g) ∧ Hp ⟨w0, I0, []⟩ I_lt [] w' ∧ Tb w' I_lt 4 .u64 pow10) ?_ ?_
                  ·
                    apply go
                    refine sel_of (fun hc => ?_) (fun hc => ?_)
                    ·
                      have q_ly := cond_t q_ly hc
                      refine ev (rn_load rfl rfl (run_loadVarA T26 rfl (hp.at_ (i := 0) rfl))) ?_
                      refine ev (rn_load rfl rfl (run_loadVarA T26 rfl a_e)) ?_
                      obtain ⟨x_lz, q_m0, q_ly⟩ := bind_some q_ly
                      refine ev_call rfl rfl C15 (((rational_Cmp_ok n) _ _  (Rational.mk (Int_2.mk x_ll x_lm) (Int_2.mk x_ln x_lo)) v_lr r_lv v_ls r_lw (Rational.mk (Int_2.mk x_0.Num.Neg x_17) (Int_2.mk x_0.Den.Neg x_18)) v_1c r_1i v_1d r_1j hp.imm _ q_m0).mono ?_)
                      rintro _ w_m1 ⟨rfl, hc⟩
                      have hs := hp.stp hc
                      replace hp := hp.ext hc
                      replace r_lv := r_lv.step hs
                      replace r_lw := r_lw.step hs
                      replace tb := tb.step hs
                      obtain rfl := Option.some.inj q_ly
                      have hp := hp.sel [] (by decide)
                      exact ⟨(decide (x_lz < 0)), (.c rfl .n), rfl, hp, tb⟩
                    ·
                      have q_ly := cond_f q_ly hc
                      obtain rfl := Option.some.inj q_ly
                      have hp := hp.sel [] (by decide)
                      exact ⟨false, (.c rfl .n), rfl, hp, tb⟩
                  ·
                    rintro x_m2 w_m3 ⟨hy, hp, tb⟩
                    replace hy := hy.symm
                    subst hy
                    apply go
                    obtain rfl := Option.some.inj h
                    exact ⟨rfl, hp.ch⟩

end Go.Proofs.YtepadjfmcbjkmaaGreatDoor
