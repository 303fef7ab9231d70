/-
  Each function of the program computes the plain function of its name.
-/
import Derived.Test.YtepadjfmcbjkmaaGreatDoorFactsA
import Derived.Test.YtepadjfmcbjkmaaGreatDoorWalkA
import Derived.Test.YtepadjfmcbjkmaaGreatDoorCoreA
import Derived.Lib.AtoiErrMem
namespace Go.Proofs.YtepadjfmcbjkmaaGreatDoor
open Go Go.Proofs.YtepadjfmcbjkmaaGreatDoor.Gw Go.RowKit
set_option linter.unusedVariables false
attribute [local irreducible] Ev EvQ EvS EvH
def integer_Text_S (f : Int_2 → Option ByteArray) : Prop := ∀ (w0 : World) (I0 : Nat → Prop) (tb : Tb w0 I0 4 .u64 pow10) (x_0 : Int_2) (v_1 : Value) (r_2 : RepS (dI .u32) w0 I0 v_1 x_0.Mag) (hI : ∀ g, I0 g → g < w0.heap.size) (r : ByteArray), f x_0 = some r →
    Ret Tryz.prog 69 #[(.agg #[(.bool x_0.Neg), v_1])] w0 fun v w1 => v = (.string r) ∧ Ch [] w0 w1
theorem integer_Text_ok (n : Nat) : integer_Text_S (integer_Text n) := by
  intro w0 I0 tb x_0 v_1 r_2 hI r h
  unfold integer_Text at h
  refine enter Tryz.func69 rfl (Nat.le_of_ble_eq_true rfl) ?_
  have hp : Hp ⟨w0, I0, []⟩ I0 [] w0 := Hp.start hI
  apply go
  apply go
  refine ev_boxI hp rfl rfl ?_
  intro p_3 I_4 w_5 hp hs a_6
  replace r_2 := r_2.step hs
  replace tb := tb.step hs
  apply go
  apply go
  refine ev0 (rn_field rfl rfl FO24_1) ?_
  refine ev (rn_load rfl rfl (run_loadVar1 T22 (a_6.2 1 _ rfl))) ?_
  obtain ⟨x_7, q_8, h⟩ := bind_some h
  refine ev_call rfl rfl C72 (((integer_trim_ok n) _ _  x_0.Mag v_1 r_2 hp.imm _ q_8).mono ?_)
  rintro _ w_9 ⟨I_a, v_b, hv, hq, r_c⟩
  replace hv := hv.symm
  subst hv
  have hs := hq.st
  have hp := hp.join0 hq
  replace a_6 := a_6.step hs
  replace r_2 := r_2.step hs
  replace tb := tb.step hs
  obtain ⟨x_d, q_e, h⟩ := bind_some h
  refine ev_call rfl rfl C88 (((slices_Cloneuint32_uint32__ok n) _ _  x_7 v_b r_c hp.imm _ q_e).mono ?_)
  rintro _ w_f ⟨I_g, v_h, hv, hq, r_i⟩
  replace hv := hv.symm
  subst hv
  have hs := hq.st
  have hp := hp.join0 hq
  replace a_6 := a_6.step hs
  replace r_2 := r_2.step hs
  replace tb := tb.step hs
  apply go
  apply go
  apply go
  refine ev0 (rn_len rfl rfl Tryz.underlying22 r_i) ?_
  apply go
  refine sel_of (fun hc => ?_) (fun hc => ?_)
  ·
    have h := cond_t h hc
    apply go
    apply go
    apply go
    obtain rfl := Option.some.inj h
    exact ⟨rfl, hp.ch⟩
  ·
    have h := cond_f h hc
    apply go
    apply go
    apply go
    obtain ⟨y_j, q_k, h⟩ := bind_some h
    refine W.cut (γ := ((List ByteArray) × Value × Ent × (Nat → Prop))) (fun g => [(1, (.pointer (some (p_3)))), (4, (g.2.1))]) (fun g w' => y_j = (g.1) ∧ Hp ⟨w0, I0, []⟩ (g.2.2.2) [(g.2.2.1)] w' ∧ RepS (dI .u32) w' (g.2.2.2) v_1 x_0.Mag ∧ At w' (g.2.2.2) p_3 [(.bool x_0.Neg), v_1] ∧ OwnS dS 9 w' (g.2.2.2) (g.2.1) (g.2.2.1) (g.1) ∧ Tb w' (g.2.2.2) 4 .u64 pow10) ?_ ?_
    ·
      apply go
      have hp := hp.none_
      have o_l := OwnS.nil dS 9 w_f I_g
      refine W.loop q_k (γ := (Value × Value × Ent × (Nat → Prop))) (fun s g => [(1, (.pointer (some (p_3)))), (3, (g.1)), (4, (g.2.1))]) (fun s g w' => Hp ⟨w0, I0, []⟩ (g.2.2.2) [(g.2.2.1)] w' ∧ RepS (dI .u32) w' (g.2.2.2) v_1 x_0.Mag ∧ At w' (g.2.2.2) p_3 [(.bool x_0.Neg), v_1] ∧ RepS (dI .u32) w' (g.2.2.2) (g.1) (s.1) ∧ OwnS dS 9 w' (g.2.2.2) (g.2.1) (g.2.2.1) (s.2) ∧ Tb w' (g.2.2.2) 4 .u64 pow10) (v_h, (.slice none 0 0), none, I_g) (.c rfl (.c rfl (.c rfl .n))) ⟨hp, r_2, a_6, r_i, o_l, tb⟩ ?_
      rintro ⟨x_m, x_n⟩ ⟨v_o, v_p, e_q, I_r⟩ w_s y_t ⟨hp, r_2, a_6, r_u, o_v, tb⟩ q_w q_x
      unfold integer_Text_L1 at q_w
      apply go
      apply go
      apply go
      refine ev0 (rn_len rfl rfl Tryz.underlying22 r_u) ?_
      apply go
      refine sel_of (fun hc => ?_) (fun hc => ?_)
      ·
        have q_w := cond_t q_w hc
        apply go
        apply go
        apply go
        apply go
        apply go
        apply go
        obtain ⟨⟨x_y, x_z⟩, q_10, q_w⟩ := bind_some q_w
        refine ev_call rfl rfl C95 (((integer_short_ok n) _ _  x_m v_o r_u 1000000000 hp.imm _ q_10).mono ?_)
        rintro _ w_11 ⟨I_12, v_13, hv, hq, r_14⟩
        replace hv := hv.symm
        subst hv
        have hs := hq.st
        have hp := hp.join0 hq
        replace a_6 := a_6.step hs
        replace r_2 := r_2.step hs
        replace o_v := o_v.step hs
        replace tb := tb.step hs
        apply go
        apply go
        obtain ⟨x_15, q_16, q_w⟩ := bind_some q_w
        refine ev_call rfl rfl C72 (((integer_trim_ok n) _ _  x_y v_13 r_14 hp.imm _ q_16).mono ?_)
        rintro _ w_17 ⟨I_18, v_19, hv, hq, r_1a⟩
        replace hv := hv.symm
        subst hv
        have hs := hq.st
        have hp := hp.join0 hq
        replace a_6 := a_6.step hs
        replace r_2 := r_2.step hs
        replace o_v := o_v.step hs
        replace tb := tb.step hs
        apply go
        apply go
        refine ev0 (rn_conv rfl rfl U46 Tryz.underlying75) ?_
        obtain ⟨x_1b, q_1c, q_w⟩ := bind_some q_w
        refine ev_call rfl rfl C96 (((strconv_FormatUint_ok n) _ _ tb (IntKind.u64.wrap x_z) 10 hp.imm _ q_1c).mono ?_)
        rintro _ w_1d ⟨rfl, hc⟩
        have hs := hp.stp hc
        replace hp := hp.ext hc
        replace a_6 := a_6.step hs
        replace r_2 := r_2.step hs
        replace o_v := o_v.step hs
        replace r_1a := r_1a.step hs
        replace tb := tb.step hs
        obtain ⟨y_1e, q_1f, q_w⟩ := bind_some q_w
        refine W.cut (γ := ByteArray) (fun g => [(1, (.pointer (some (p_3)))), (3, v_19), (4, v_p), (6, (.string (g)))]) (fun g w' => y_1e = (g) ∧ Hp ⟨w0, I0, []⟩ I_18 [e_q] w' ∧ RepS (dI .u32) w' I_18 v_1 x_0.Mag ∧ At w' I_18 p_3 [(.bool x_0.Neg), v_1] ∧ RepS (dI .u32) w' I_18 v_19 x_15 ∧ OwnS dS 9 w' I_18 v_p e_q x_n ∧ Tb w' I_18 4 .u64 pow10) ?_ ?_
        ·
          apply go
          apply go
          refine ev0 (rn_len rfl rfl Tryz.underlying22 r_1a) ?_
          apply go
          refine sel_of (fun hc => ?_) (fun hc => ?_)
          ·
            have q_1f := cond_t q_1f hc
            apply go
            refine ev0 (rn_lenS rfl rfl Tryz.underlying9) ?_
            obtain ⟨x_1g, q_1h, q_1f⟩ := bind_some q_1f
            refine ev_call rfl rfl C97 (((strings_Repeat_ok n) _ _  (ByteArray.mk #[48]) (IntKind.i64.wrap (9 - (x_1b.size : Int))) hp.imm _ q_1h).mono ?_)
            rintro _ w_1i ⟨rfl, hc⟩
            have hs := hp.stp hc
            replace hp := hp.ext hc
            replace a_6 := a_6.step hs
            replace r_2 := r_2.step hs
            replace o_v := o_v.step hs
            replace r_1a := r_1a.step hs
            replace tb := tb.step hs
            obtain ⟨q_1j, _, q_1f⟩ := need_some q_1f
            refine ⟨q_1j, ?_⟩
            obtain rfl := Option.some.inj q_1f
            exact ⟨(x_1g ++ x_1b), (.c rfl (.c rfl (.c rfl (.c rfl .n)))), rfl, hp, r_2, a_6, r_1a, o_v, tb⟩
          ·
            have q_1f := cond_f q_1f hc
            apply go
            obtain rfl := Option.some.inj q_1f
            exact ⟨x_1b, (.c rfl (.c rfl (.c rfl (.c rfl .n)))), rfl, hp, r_2, a_6, r_1a, o_v, tb⟩
        ·
          rintro x_1k w_1l ⟨hy, hp, r_2, a_6, r_1a, o_v, tb⟩
          replace hy := hy.symm
          subst hy
          apply go
          refine ev_litN (d := dS) (xs := [x_1k]) (cs := [(.string x_1k)]) hp rfl rfl Tryz.underlying90 T9 (by decide) rfl rfl (Elems.cons (d := dS) (xs := _) rfl (Elems.nil _ _ _ _)) ?_
          intro v_1m I_1n w_1o hp hs r_1p
          replace a_6 := a_6.step hs
          replace r_2 := r_2.step hs
          replace r_1a := r_1a.step hs
          replace o_v := o_v.step hs
          replace tb := tb.step hs
          obtain ⟨x_1q, q_1r, q_w⟩ := bind_some q_w
          refine ev_append hp (i := 0) rfl rfl rfl rfl Tryz.underlying90 T9 rfl rfl o_v r_1p q_1r ?_
          rintro v_1s e_1t w_1u hp hs o_1v
          replace a_6 := a_6.step hs
          replace r_2 := r_2.step hs
          replace r_1a := r_1a.step hs
          replace tb := tb.step hs
          exact ⟨_, (Option.some.inj q_w).symm, (v_19, v_1s, e_1t, I_1n), (.c rfl (.c rfl (.c rfl .n))), ⟨hp, r_2, a_6, r_1a, o_1v, tb⟩⟩
      ·
        have q_w := cond_f q_w hc
        apply go
        have q_1w := congrArg some (q_x _ (Option.some.inj q_w).symm)
        obtain rfl := Option.some.inj q_1w
        exact ⟨(x_n, v_p, e_q, I_r), (.c rfl (.c rfl .n)), rfl, hp, r_2, a_6, o_v, tb⟩
    ·
      rintro ⟨x_1x, v_1y, e_1z, I_20⟩ w_21 ⟨hy, hp, r_2, a_6, o_22, tb⟩
      replace hy := hy.symm
      subst hy
      obtain ⟨y_23, q_24, h⟩ := bind_some h
      refine W.cut (γ := ((List ByteArray) × Value × Ent × (Nat → Prop))) (fun g => [(4, (g.2.1))]) (fun g w' => y_23 = (g.1) ∧ Hp ⟨w0, I0, []⟩ (g.2.2.2) [(g.2.2.1)] w' ∧ OwnS dS 9 w' (g.2.2.2) (g.2.1) (g.2.2.1) (g.1) ∧ Tb w' (g.2.2.2) 4 .u64 pow10) ?_ ?_
      ·
        apply go
        apply go
        refine ev0 (rn_field rfl rfl FO24_0) ?_
        refine ev (rn_load rfl rfl (run_loadVar1 T4 (a_6.2 0 _ rfl))) ?_
        apply go
        refine sel_of (fun hc => ?_) (fun hc => ?_)
        ·
          have q_24 := cond_t q_24 hc
          apply go
          refine ev_litN (d := dS) (xs := [(ByteArray.mk #[45])]) (cs := [(.string (ByteArray.mk #[45]))]) hp rfl rfl Tryz.underlying90 T9 (by decide) rfl rfl (Elems.cons (d := dS) (xs := _) rfl (Elems.nil _ _ _ _)) ?_
          intro v_25 I_26 w_27 hp hs r_28
          replace o_22 := o_22.step hs
          replace tb := tb.step hs
          obtain ⟨x_29, q_2a, q_24⟩ := bind_some q_24
          refine ev_append hp (i := 0) rfl rfl rfl rfl Tryz.underlying90 T9 rfl rfl o_22 r_28 q_2a ?_
          rintro v_2b e_2c w_2d hp hs o_2e
          replace tb := tb.step hs
          obtain rfl := Option.some.inj q_24
          exact ⟨(x_29, v_2b, e_2c, I_26), (.c rfl .n), rfl, hp, o_2e, tb⟩
        ·
          have q_24 := cond_f q_24 hc
          apply go
          obtain rfl := Option.some.inj q_24
          exact ⟨(x_1x, v_1y, e_1z, I_20), (.c rfl .n), rfl, hp, o_22, tb⟩
      ·
        rintro ⟨x_2f, v_2g, e_2h, I_2i⟩ w_2j ⟨hy, hp, o_2k, tb⟩
        replace hy := hy.symm
        subst hy
        apply go
        apply go
        obtain ⟨x_2l, q_2m, h⟩ := bind_some h
        refine ev_call rfl rfl C98 (((slices_Reversestring_string__ok n) _ _  x_2f v_2g e_2h o_2k (hp.lend (i := 0) rfl) _ q_2m).mono ?_)
        rintro _ w_2n ⟨I_2o, e_2p, hv, hq, o_2q, hsame⟩
        replace hv := hv.symm
        subst hv
        have hs := hq.st
        have hp := hp.backO (i := 0) rfl hq hsame
        replace tb := tb.step hs
        apply go
        apply go
        have r_2r := o_2q.frz hp (i := 0) rfl
        obtain ⟨hp, hs⟩ := freeze_hp hp (i := 0) rfl
        replace tb := tb.step hs
        have hp := hp.sel [] (by decide)
        obtain ⟨x_2s, q_2t, h⟩ := bind_some h
        refine ev_call rfl rfl C99 (((strings_Join_ok n) _ _  x_2l v_2g r_2r (ByteArray.mk #[]) hp.imm _ q_2t).mono ?_)
        rintro _ w_2u ⟨rfl, hc⟩
        have hs := hp.stp hc
        replace hp := hp.ext hc
        replace tb := tb.step hs
        apply go
        obtain rfl := Option.some.inj h
        exact ⟨rfl, hp.ch⟩

end Go.Proofs.YtepadjfmcbjkmaaGreatDoor

namespace Go.Proofs.YtepadjfmcbjkmaaGreatDoor
open Go Go.Proofs.YtepadjfmcbjkmaaGreatDoor.Gw Go.RowKit
set_option linter.unusedVariables false
attribute [local irreducible] Ev EvQ EvS EvH
def rational_Text_S (f : Rational → Option ByteArray) : Prop := ∀ (w0 : World) (I0 : Nat → Prop) (tb : Tb w0 I0 4 .u64 pow10) (x_0 : Rational) (v_1 : Value) (r_2 : RepS (dI .u32) w0 I0 v_1 x_0.Num.Mag) (v_3 : Value) (r_4 : RepS (dI .u32) w0 I0 v_3 x_0.Den.Mag) (hI : ∀ g, I0 g → g < w0.heap.size) (r : ByteArray), f x_0 = some r →
    Ret Tryz.prog 33 #[(.agg #[(.bool x_0.Num.Neg), v_1, (.bool x_0.Den.Neg), v_3])] w0 fun v w1 => v = (.string r) ∧ Ch [] w0 w1
theorem rational_Text_ok (n : Nat) : rational_Text_S (rational_Text n) := by
  intro w0 I0 tb x_0 v_1 r_2 v_3 r_4 hI r h
  unfold rational_Text at h
  refine enter Tryz.func33 rfl (Nat.le_of_ble_eq_true rfl) ?_
  have hp : Hp ⟨w0, I0, []⟩ I0 [] w0 := Hp.start hI
  apply go
  apply go
  refine ev_box hp rfl rfl ?_
  intro g_5 w_6 hp hs
  replace r_2 := r_2.step hs
  replace r_4 := r_4.step hs
  replace tb := tb.step hs
  apply go
  apply go
  refine ev (rn_load rfl rfl (run_loadVarA T26 rfl (hp.at_ (i := 0) rfl))) ?_
  obtain ⟨x_7, q_8, h⟩ := bind_some h
  refine ev_call rfl rfl C38 (((rational_Norm_ok n) _ _  (Rational.mk (Int_2.mk x_0.Num.Neg x_0.Num.Mag) (Int_2.mk x_0.Den.Neg x_0.Den.Mag)) v_1 r_2 v_3 r_4 hp.imm _ q_8).mono ?_)
  rintro _ w_9 ⟨I_a, v_b, v_c, hv, hq, r_d, r_e⟩
  replace hv := hv.symm
  subst hv
  have hs := hq.st
  have hp := hp.join0 hq
  replace r_2 := r_2.step hs
  replace r_4 := r_4.step hs
  replace tb := tb.step hs
  refine ev_storeA hp (i := 0) (off := 0) (vs := [(.bool x_7.Num.Neg), v_b, (.bool x_7.Den.Neg), v_c]) rfl rfl rfl rfl T26 rfl (Nat.le_of_ble_eq_true rfl) (ones_cons rfl (ones_cons r_d.one (ones_cons rfl (ones_cons r_e.one ones_nil)))) ?_
  intro w_f hp hs
  replace r_d := r_d.step hs
  replace r_e := r_e.step hs
  replace tb := tb.step hs
  apply go
  apply go
  apply go
  refine ev0 (rn_field rfl rfl FO26_1) ?_
  refine ev (rn_load rfl rfl (run_loadVarA T24 rfl (((hp.at_ (i := 0) rfl).drop 2).take 2))) ?_
  obtain ⟨x_g, q_h, h⟩ := bind_some h
  refine ev_call rfl rfl C43 (((rational_one_ok n) _ _  (Int_2.mk x_7.Den.Neg x_7.Den.Mag) v_c r_e hp.imm _ q_h).mono ?_)
  rintro _ w_i ⟨rfl, hc⟩
  have hs := hp.stp hc
  replace hp := hp.ext hc
  replace r_d := r_d.step hs
  replace r_e := r_e.step hs
  replace tb := tb.step hs
  apply go
  refine sel_of (fun hc => ?_) (fun hc => ?_)
  ·
    have h := cond_t h hc
    apply go
    apply go
    refine ev0 (rn_field rfl rfl FO26_0) ?_
    refine ev (rn_load rfl rfl (run_loadVarA T24 rfl (((hp.at_ (i := 0) rfl).drop 0).take 2))) ?_
    obtain ⟨x_j, q_k, h⟩ := bind_some h
    refine ev_call rfl rfl C69 (((integer_Text_ok n) _ _ tb (Int_2.mk x_7.Num.Neg x_7.Num.Mag) v_b r_d hp.imm _ q_k).mono ?_)
    rintro _ w_l ⟨rfl, hc⟩
    have hs := hp.stp hc
    replace hp := hp.ext hc
    replace r_d := r_d.step hs
    replace r_e := r_e.step hs
    replace tb := tb.step hs
    apply go
    obtain rfl := Option.some.inj h
    exact ⟨rfl, hp.ch⟩
  ·
    have h := cond_f h hc
    apply go
    apply go
    refine W.quiet (fun w' => Ch [] w_i w') MX (by kernel_rfl) (Ch.drew [] w_i) ?_
    refine evq0 (rn_field rfl rfl FO26_0) ?_
    refine evq (fun w' hw => rn_load rfl rfl (run_loadVarA T24 rfl ((((hp.ext hw).at_ (i := 0) rfl).drop 0).take 2))) ?_
    obtain ⟨x_m, q_n, h⟩ := bind_some h
    refine evq_call rfl rfl C69 (fun w' hw => ((integer_Text_ok n) _ _ (tb.step (hp.stp hw)) (Int_2.mk x_7.Num.Neg x_7.Num.Mag) v_b (r_d.step (hp.stp hw)) (hp.ext hw).imm _ q_n).mono fun _ _ ⟨e, hc⟩ => ⟨e, hw.trans hc⟩) ?_
    obtain ⟨q_o, _, h⟩ := need_some h
    refine ⟨q_o, ?_⟩
    refine evq0 (rn_field rfl rfl FO26_1) ?_
    refine evq (fun w' hw => rn_load rfl rfl (run_loadVarA T24 rfl ((((hp.ext hw).at_ (i := 0) rfl).drop 2).take 2))) ?_
    obtain ⟨x_p, q_q, h⟩ := bind_some h
    refine evq_call rfl rfl C69 (fun w' hw => ((integer_Text_ok n) _ _ (tb.step (hp.stp hw)) (Int_2.mk x_7.Den.Neg x_7.Den.Mag) v_c (r_e.step (hp.stp hw)) (hp.ext hw).imm _ q_q).mono fun _ _ ⟨e, hc⟩ => ⟨e, hw.trans hc⟩) ?_
    obtain ⟨q_r, _, h⟩ := need_some h
    refine ⟨q_r, ?_⟩
    intro w_s hc
    have hs := hp.stp hc
    replace hp := hp.ext hc
    replace r_d := r_d.step hs
    replace r_e := r_e.step hs
    replace tb := tb.step hs
    apply go
    obtain rfl := Option.some.inj h
    exact ⟨rfl, hp.ch⟩

end Go.Proofs.YtepadjfmcbjkmaaGreatDoor

namespace Go.Proofs.YtepadjfmcbjkmaaGreatDoor
open Go Go.Proofs.YtepadjfmcbjkmaaGreatDoor.Gw Go.RowKit
set_option linter.unusedVariables false
attribute [local irreducible] Ev EvQ EvS EvH
def integer_times_S (f : (List Int) → (List Int) → Option (List Int)) : Prop := ∀ (w0 : World) (I0 : Nat → Prop) (x_0 : (List Int)) (v_1 : Value) (r_2 : RepS (dI .u32) w0 I0 v_1 x_0) (x_3 : (List Int)) (v_4 : Value) (r_5 : RepS (dI .u32) w0 I0 v_4 x_3) (hI : ∀ g, I0 g → g < w0.heap.size) (r : (List Int)), f x_0 x_3 = some r →
    Ret Tryz.prog 81 #[v_1, v_4] w0 fun v w1 => ∃ (I1 : Nat → Prop) (u_6 : Value), v = u_6 ∧ Hp ⟨w0, I0, []⟩ I1 [] w1 ∧ RepS (dI .u32) w1 I1 u_6 r
theorem integer_times_ok (n : Nat) : integer_times_S (integer_times n) := by
  intro w0 I0 x_0 v_1 r_2 x_3 v_4 r_5 hI r h
  unfold integer_times at h
  refine enter Tryz.func81 rfl (Nat.le_of_ble_eq_true rfl) ?_
  have hp : Hp ⟨w0, I0, []⟩ I0 [] w0 := Hp.start hI
  apply go
  apply go
  apply go
  apply go
  refine ev0 (rn_len rfl rfl Tryz.underlying22 r_2) ?_
  refine ev0 (rn_len rfl rfl Tryz.underlying22 r_5) ?_
  obtain ⟨x_6, q_7, h⟩ := bind_some h
  refine ev_make (d := (dI .u32)) (x0 := 0) hp rfl rfl rfl Tryz.underlying22 T46 (fun _ _ => rfl) (Nat.le_of_ble_eq_true rfl) q_7 ?_
  intro v_8 e_9 w_a hp hs o_b
  replace r_2 := r_2.step hs
  replace r_5 := r_5.step hs
  obtain ⟨y_c, q_d, h⟩ := bind_some h
  refine W.cut (γ := ((List Int) × Ent)) (fun g => [(5, v_8)]) (fun g w' => y_c = (g.1) ∧ Hp ⟨w0, I0, []⟩ I0 [(g.2)] w' ∧ OwnS (dI .u32) 46 w' I0 v_8 (g.2) (g.1)) ?_ ?_
  ·
    apply go
    apply go
    refine ev0 (rn_len rfl rfl Tryz.underlying22 r_2) ?_
    apply go
    refine W.loop q_d (γ := Ent) (fun s g => [(1, v_4), (5, v_8), (18, v_1), (19, (.int .i64 (x_0.length : Int))), (20, (.int .i64 (s.2)))]) (fun s g w' => Hp ⟨w0, I0, []⟩ I0 [(g)] w' ∧ RepS (dI .u32) w' I0 v_4 x_3 ∧ OwnS (dI .u32) 46 w' I0 v_8 (g) (s.1) ∧ RepS (dI .u32) w' I0 v_1 x_0) e_9 (.c rfl (.c rfl (.c rfl (.c rfl (.c rfl .n))))) ⟨hp, r_5, o_b, r_2⟩ ?_
    rintro ⟨x_e, x_f⟩ e_g w_h y_i ⟨hp, r_5, o_j, r_2⟩ q_k q_l
    unfold integer_times_L21 at q_k
    apply go
    apply go
    apply go
    apply go
    refine sel_of (fun hc => ?_) (fun hc => ?_)
    ·
      have q_k := cond_t q_k hc
      apply go
      obtain ⟨y_m, q_n, q_k⟩ := bind_some q_k
      refine W.cut (γ := ((List Int) × Ent)) (fun g => [(1, v_4), (5, v_8), (18, v_1), (19, (.int .i64 (x_0.length : Int))), (20, (.int .i64 x_f))]) (fun g w' => y_m = (g.1) ∧ Hp ⟨w0, I0, []⟩ I0 [(g.2)] w' ∧ RepS (dI .u32) w' I0 v_4 x_3 ∧ OwnS (dI .u32) 46 w' I0 v_8 (g.2) (g.1) ∧ RepS (dI .u32) w' I0 v_1 x_0) ?_ ?_
      ·
        apply go
        apply go
        apply go
        obtain ⟨x_o, q_p, q_n⟩ := bind_some q_n
        refine ev_index rfl rfl rfl Tryz.underlying22 T46 r_2 q_p ?_
        intro p_q c_r d_s a_t
        obtain rfl : c_r = [(.int .u32 x_o)] := d_s
        refine ev (rn_load rfl rfl (run_loadVar1 T46 (a_t.2 0 _ rfl))) ?_
        apply go
        apply go
        obtain ⟨y_u, q_v, q_n⟩ := bind_some q_n
        refine W.cut (γ := ((List Int) × Int × Ent)) (fun g => [(1, v_4), (5, v_8), (6, (.int .i64 x_f)), (8, (.int .u64 (g.2.1))), (18, v_1), (19, (.int .i64 (x_0.length : Int))), (20, (.int .i64 x_f))]) (fun g w' => y_u = ((g.1), (g.2.1)) ∧ Hp ⟨w0, I0, []⟩ I0 [(g.2.2)] w' ∧ RepS (dI .u32) w' I0 v_4 x_3 ∧ OwnS (dI .u32) 46 w' I0 v_8 (g.2.2) (g.1) ∧ RepS (dI .u32) w' I0 v_1 x_0) ?_ ?_
        ·
          apply go
          apply go
          refine ev0 (rn_len rfl rfl Tryz.underlying22 r_5) ?_
          apply go
          refine W.loop q_v (γ := Ent) (fun s g => [(1, v_4), (5, v_8), (6, (.int .i64 x_f)), (7, (.int .u32 x_o)), (8, (.int .u64 (s.2.1))), (18, v_1), (19, (.int .i64 (x_0.length : Int))), (20, (.int .i64 x_f)), (25, v_4), (26, (.int .i64 (x_3.length : Int))), (27, (.int .i64 (s.2.2)))]) (fun s g w' => Hp ⟨w0, I0, []⟩ I0 [(g)] w' ∧ RepS (dI .u32) w' I0 v_4 x_3 ∧ OwnS (dI .u32) 46 w' I0 v_8 (g) (s.1) ∧ RepS (dI .u32) w' I0 v_1 x_0) e_g (.c rfl (.c rfl (.c rfl (.c rfl (.c rfl (.c rfl (.c rfl (.c rfl (.c rfl (.c rfl (.c rfl .n))))))))))) ⟨hp, r_5, o_j, r_2⟩ ?_
          rintro ⟨x_w, x_x, x_y⟩ e_z w_10 y_11 ⟨hp, r_5, o_12, r_2⟩ q_13 q_14
          unfold integer_times_L25 at q_13
          apply go
          apply go
          apply go
          apply go
          refine sel_of (fun hc => ?_) (fun hc => ?_)
          ·
            have q_13 := cond_t q_13 hc
            apply go
            apply go
            apply go
            apply go
            apply go
            obtain ⟨x_15, q_16, q_13⟩ := bind_some q_13
            refine ev_index rfl rfl rfl Tryz.underlying22 T46 r_5 q_16 ?_
            intro p_17 c_18 d_19 a_1a
            obtain rfl : c_18 = [(.int .u32 x_15)] := d_19
            refine ev (rn_load rfl rfl (run_loadVar1 T46 (a_1a.2 0 _ rfl))) ?_
            apply go
            apply go
            refine ev0 (rn_conv rfl rfl U46 Tryz.underlying75) ?_
            refine ev0 (rn_conv rfl rfl U46 Tryz.underlying75) ?_
            obtain ⟨x_1b, q_1c, q_13⟩ := bind_some q_13
            refine ev_indexO rfl rfl rfl Tryz.underlying22 T46 o_12 q_1c ?_
            intro g_1d c_1e h_1f d_1g l_1h
            refine ev (rn_load rfl rfl (run_loadVar1 T46 (hp.cellE (i := 0) rfl h_1f d_1g (j := 0) rfl))) ?_
            refine ev0 (rn_conv rfl rfl U46 Tryz.underlying75) ?_
            apply go
            apply go
            refine ev0 (rn_conv rfl rfl U75 Tryz.underlying46) ?_
            obtain ⟨x_1i, q_1j, q_13⟩ := bind_some q_13
            refine ev_indexO rfl rfl rfl Tryz.underlying22 T46 o_12 q_1j ?_
            intro g_1k c_1l h_1m d_1n l_1o
            refine ev_storeE hp (i := 0) rfl h_1m rfl rfl rfl T46 o_12 q_1j (x0 := (IntKind.u32.wrap (IntKind.u64.wrap ((IntKind.u64.wrap ((IntKind.u64.wrap ((IntKind.u64.wrap x_o) * (IntKind.u64.wrap x_15))) + (IntKind.u64.wrap x_1b))) + x_x)))) rfl ?_
            intro e_1p w_1q hp hs o_1r
            replace r_5 := r_5.step hs
            replace r_2 := r_2.step hs
            apply go
            refine ⟨by decide, ?_⟩
            apply go
            exact ⟨_, (Option.some.inj q_13).symm, e_1p, (.c rfl (.c rfl (.c rfl (.c rfl (.c rfl (.c rfl (.c rfl (.c rfl (.c rfl (.c rfl (.c rfl .n))))))))))), ⟨hp, r_5, o_1r, r_2⟩⟩
          ·
            have q_13 := cond_f q_13 hc
            apply go
            have q_1s := congrArg some (q_14 _ (Option.some.inj q_13).symm)
            obtain rfl := Option.some.inj q_1s
            exact ⟨(x_w, x_x, e_z), (.c rfl (.c rfl (.c rfl (.c rfl (.c rfl (.c rfl (.c rfl .n))))))), rfl, hp, r_5, o_12, r_2⟩
        ·
          rintro ⟨x_1t, x_1u, e_1v⟩ w_1w ⟨hy, hp, r_5, o_1x, r_2⟩
          replace hy := hy.symm
          subst hy
          apply go
          refine ev0 (rn_len rfl rfl Tryz.underlying22 r_5) ?_
          refine ev0 (rn_conv rfl rfl U75 Tryz.underlying46) ?_
          obtain ⟨x_1y, q_1z, q_n⟩ := bind_some q_n
          refine ev_indexO rfl rfl rfl Tryz.underlying22 T46 o_1x q_1z ?_
          intro g_20 c_21 h_22 d_23 l_24
          refine ev_storeE hp (i := 0) rfl h_22 rfl rfl rfl T46 o_1x q_1z (x0 := (IntKind.u32.wrap x_1u)) rfl ?_
          intro e_25 w_26 hp hs o_27
          replace r_5 := r_5.step hs
          replace r_2 := r_2.step hs
          obtain rfl := Option.some.inj q_n
          exact ⟨((upd x_1t (IntKind.i64.wrap (x_f + (x_3.length : Int))) (IntKind.u32.wrap x_1u)), e_25), (.c rfl (.c rfl (.c rfl (.c rfl (.c rfl .n))))), rfl, hp, r_5, o_27, r_2⟩
      ·
        rintro ⟨x_28, e_29⟩ w_2a ⟨hy, hp, r_5, o_2b, r_2⟩
        replace hy := hy.symm
        subst hy
        apply go
        exact ⟨_, (Option.some.inj q_k).symm, e_29, (.c rfl (.c rfl (.c rfl (.c rfl (.c rfl .n))))), ⟨hp, r_5, o_2b, r_2⟩⟩
    ·
      have q_k := cond_f q_k hc
      apply go
      have q_2c := congrArg some (q_l _ (Option.some.inj q_k).symm)
      obtain rfl := Option.some.inj q_2c
      exact ⟨(x_e, e_g), (.c rfl .n), rfl, hp, o_j⟩
  ·
    rintro ⟨x_2d, e_2e⟩ w_2f ⟨hy, hp, o_2g⟩
    replace hy := hy.symm
    subst hy
    apply go
    apply go
    apply go
    obtain rfl := Option.some.inj h
    have r_2h := o_2g.frz hp (i := 0) rfl
    obtain ⟨hp, hs⟩ := freeze_hp hp (i := 0) rfl
    have hp := hp.sel [] (by decide)
    exact ⟨(Ad I0 e_2e), v_8, rfl, hp, r_2h⟩

end Go.Proofs.YtepadjfmcbjkmaaGreatDoor

namespace Go.Proofs.YtepadjfmcbjkmaaGreatDoor
open Go Go.Proofs.YtepadjfmcbjkmaaGreatDoor.Gw Go.RowKit
set_option linter.unusedVariables false
attribute [local irreducible] Ev EvQ EvS EvH
def integer_Mul_S (f : Int_2 → Int_2 → Option Int_2) : Prop := ∀ (w0 : World) (I0 : Nat → Prop) (x_0 : Int_2) (v_1 : Value) (r_2 : RepS (dI .u32) w0 I0 v_1 x_0.Mag) (x_3 : Int_2) (v_4 : Value) (r_5 : RepS (dI .u32) w0 I0 v_4 x_3.Mag) (hI : ∀ g, I0 g → g < w0.heap.size) (r : Int_2), f x_0 x_3 = some r →
    Ret Tryz.prog 47 #[(.agg #[(.bool x_0.Neg), v_1]), (.agg #[(.bool x_3.Neg), v_4])] w0 fun v w1 => ∃ (I1 : Nat → Prop) (u_6 : Value), v = (.agg #[(.bool r.Neg), u_6]) ∧ Hp ⟨w0, I0, []⟩ I1 [] w1 ∧ RepS (dI .u32) w1 I1 u_6 r.Mag
theorem integer_Mul_ok (n : Nat) : integer_Mul_S (integer_Mul n) := by
  intro w0 I0 x_0 v_1 r_2 x_3 v_4 r_5 hI r h
  unfold integer_Mul at h
  refine enter Tryz.func47 rfl (Nat.le_of_ble_eq_true rfl) ?_
  have hp : Hp ⟨w0, I0, []⟩ I0 [] w0 := Hp.start hI
  apply go
  apply go
  refine ev_boxI hp rfl rfl ?_
  intro p_6 I_7 w_8 hp hs a_9
  replace r_5 := r_5.step hs
  replace r_2 := r_2.step hs
  refine ev_boxI hp rfl rfl ?_
  intro p_a I_b w_c hp hs a_d
  replace a_9 := a_9.step hs
  replace r_2 := r_2.step hs
  replace r_5 := r_5.step hs
  refine ev_alloc hp rfl T24 ?_
  intro g_e w_f hp hs
  replace a_9 := a_9.step hs
  replace r_2 := r_2.step hs
  replace a_d := a_d.step hs
  replace r_5 := r_5.step hs
  apply go
  have hs := hp.stp (Ch.drew [] w_f)
  have hp := hp.drew
  replace a_9 := a_9.step hs
  replace r_2 := r_2.step hs
  replace a_d := a_d.step hs
  replace r_5 := r_5.step hs
  refine W.held [(0, true), (1, true), (2, true), (3, true), (4, true), (5, true), (6, true), (8, true), (9, true), (7, false), (10, false), (11, false), (12, false), (13, false)] (Stp I_b w_f.drew I_b) MX (by kernel_rfl) (Stp.refl _ _) ?_
  have hz := Stp.refl I_b w_f.drew
  refine evh0 (rn_field rfl rfl FO24_0) ?_
  refine evh (fun w' hw => rn_load rfl rfl (run_loadVar1 T4 ((a_9.step hw).2 0 _ rfl))) ?_
  refine evh0 (rn_field rfl rfl FO24_0) ?_
  refine evh (fun w' hw => rn_load rfl rfl (run_loadVar1 T4 ((a_d.step hw).2 0 _ rfl))) ?_
  refine evh0 (rn_neB rfl rfl rfl Tryz.underlying4) ?_
  refine evh0 (rn_field rfl rfl FO24_1) ?_
  refine evh (fun w' hw => rn_load rfl rfl (run_loadVar1 T22 ((a_9.step hw).2 1 _ rfl))) ?_
  refine evh0 (rn_field rfl rfl FO24_1) ?_
  refine evh (fun w' hw => rn_load rfl rfl (run_loadVar1 T22 ((a_d.step hw).2 1 _ rfl))) ?_
  obtain ⟨x_g, q_h, h⟩ := bind_some h
  refine ev_call rfl rfl C72 (((integer_trim_ok n) _ _  x_0.Mag v_1 r_2 hp.imm _ q_h).mono ?_)
  rintro _ w_i ⟨I_j, v_k, hv, hq, r_l⟩
  replace hv := hv.symm
  subst hv
  have hs := hq.st
  have hp := hp.join0 hq
  replace hz := hz.trans hs
  replace r_5 := r_5.step hs
  refine ⟨Stp I_j w_i I_j, Stp.refl _ _, fun x hx => hz.held hx, ?_⟩
  have hz := Stp.refl I_j w_i
  obtain ⟨x_m, q_n, h⟩ := bind_some h
  refine ev_call rfl rfl C72 (((integer_trim_ok n) _ _  x_3.Mag v_4 r_5 hp.imm _ q_n).mono ?_)
  rintro _ w_o ⟨I_p, v_q, hv, hq, r_r⟩
  replace hv := hv.symm
  subst hv
  have hs := hq.st
  have hp := hp.join0 hq
  replace hz := hz.trans hs
  replace r_l := r_l.step hs
  refine ⟨Stp I_p w_o I_p, Stp.refl _ _, fun x hx => hz.held hx, ?_⟩
  have hz := Stp.refl I_p w_o
  obtain ⟨x_s, q_t, h⟩ := bind_some h
  refine ev_call rfl rfl C81 (((integer_times_ok n) _ _  x_g v_k r_l x_m v_q r_r hp.imm _ q_t).mono ?_)
  rintro _ w_u ⟨I_v, v_w, hv, hq, r_x⟩
  replace hv := hv.symm
  subst hv
  have hs := hq.st
  have hp := hp.join0 hq
  replace hz := hz.trans hs
  refine ⟨Stp I_v w_u I_v, Stp.refl _ _, fun x hx => hz.held hx, ?_⟩
  have hz := Stp.refl I_v w_u
  obtain ⟨x_y, q_z, h⟩ := bind_some h
  refine ev_call rfl rfl C80 (((integer_made_ok n) _ _  (!(x_0.Neg == x_3.Neg)) x_s v_w r_x hp.imm _ q_z).mono ?_)
  rintro _ w_10 ⟨I_11, v_12, hv, hq, r_13⟩
  replace hv := hv.symm
  subst hv
  have hs := hq.st
  have hp := hp.join0 hq
  replace hz := hz.trans hs
  refine ⟨Stp I_11 w_10 I_11, Stp.refl _ _, fun x hx => hz.held hx, ?_⟩
  have hz := Stp.refl I_11 w_10
  refine ev_storeA hp (i := 0) (off := 0) (vs := [(.bool x_y.Neg), v_12]) rfl rfl rfl rfl T24 rfl (Nat.le_of_ble_eq_true rfl) (ones_cons rfl (ones_cons r_13.one ones_nil)) ?_
  intro w_14 hp hs
  replace hz := hz.trans hs
  replace r_13 := r_13.step hs
  refine ⟨Stp I_11 w_14 I_11, Stp.refl _ _, fun x hx => hz.held hx, ?_⟩
  have hz := Stp.refl I_11 w_14
  apply go
  obtain rfl := Option.some.inj h
  refine ⟨_, run_loadVarA T24 rfl (hp.at_ (i := 0) rfl), ?_⟩
  have hp := hp.sel [] (by decide)
  exact ⟨I_11, v_12, rfl, hp, r_13⟩

end Go.Proofs.YtepadjfmcbjkmaaGreatDoor

namespace Go.Proofs.YtepadjfmcbjkmaaGreatDoor
open Go Go.Proofs.YtepadjfmcbjkmaaGreatDoor.Gw Go.RowKit
set_option linter.unusedVariables false
attribute [local irreducible] Ev EvQ EvS EvH vch
def rational_Add_S (f : Rational → Rational → Option Rational) : Prop := ∀ (w0 : World) (I0 : Nat → Prop) (x_0 : Rational) (v_1 : Value) (r_2 : RepS (dI .u32) w0 I0 v_1 x_0.Num.Mag) (v_3 : Value) (r_4 : RepS (dI .u32) w0 I0 v_3 x_0.Den.Mag) (x_5 : Rational) (v_6 : Value) (r_7 : RepS (dI .u32) w0 I0 v_6 x_5.Num.Mag) (v_8 : Value) (r_9 : RepS (dI .u32) w0 I0 v_8 x_5.Den.Mag) (hI : ∀ g, I0 g → g < w0.heap.size) (r : Rational), f x_0 x_5 = some r →
    Ret Tryz.prog 36 #[(.agg #[(.bool x_0.Num.Neg), v_1, (.bool x_0.Den.Neg), v_3]), (.agg #[(.bool x_5.Num.Neg), v_6, (.bool x_5.Den.Neg), v_8])] w0 fun v w1 => ∃ (I1 : Nat → Prop) (u_a : Value) (u_b : Value), v = (.agg #[(.bool r.Num.Neg), u_a, (.bool r.Den.Neg), u_b]) ∧ Hp ⟨w0, I0, []⟩ I1 [] w1 ∧ RepS (dI .u32) w1 I1 u_a r.Num.Mag ∧ RepS (dI .u32) w1 I1 u_b r.Den.Mag
theorem rational_Add_ok (n : Nat) : rational_Add_S (rational_Add n) := by
  intro w0 I0 x_0 v_1 r_2 v_3 r_4 x_5 v_6 r_7 v_8 r_9 hI r h
  unfold rational_Add at h
  refine enter Tryz.func36 rfl (Nat.le_of_ble_eq_true rfl) ?_
  have hp : Hp ⟨w0, I0, []⟩ I0 [] w0 := Hp.start hI
  apply go
  apply go
  refine ev_box hp rfl rfl ?_
  intro g_a w_b hp hs
  replace r_7 := r_7.step hs
  replace r_9 := r_9.step hs
  replace r_2 := r_2.step hs
  replace r_4 := r_4.step hs
  refine ev_box hp rfl rfl ?_
  intro g_c w_d hp hs
  replace r_7 := r_7.step hs
  replace r_9 := r_9.step hs
  replace r_2 := r_2.step hs
  replace r_4 := r_4.step hs
  refine ev_alloc hp rfl T26 ?_
  intro g_e w_f hp hs
  replace r_7 := r_7.step hs
  replace r_9 := r_9.step hs
  replace r_2 := r_2.step hs
  replace r_4 := r_4.step hs
  apply go
  have hs := hp.stp (Ch.drew [] w_f)
  have hp := hp.drew
  replace r_7 := r_7.step hs
  replace r_9 := r_9.step hs
  replace r_2 := r_2.step hs
  replace r_4 := r_4.step hs
  refine W.heldG (.q 0 (.q 2 (.l 1 (.l 3 (.l 4 (.l 5 .done .no) .no) .no) .no))) (SK (Stp I0 w_f.drew I0) [(g_a, [(.bool x_0.Num.Neg), v_1, (.bool x_0.Den.Neg), v_3], 26), (g_c, [(.bool x_5.Num.Neg), v_6, (.bool x_5.Den.Neg), v_8], 26)] [[4], [5]]) MX (by kernel_rfl) ⟨Stp.refl _ _, (kp_cons (fun _ => (hp.own 2 _ _ _ rfl).1) (kp_cons (fun _ => (hp.own 1 _ _ _ rfl).1) kp_nil))⟩ ?_
  have hz := Stp.refl I0 w_f.drew
  refine ⟨SK.same (by kernel_rfl), ?_⟩
  refine evh (fun w' hw => rn_load rfl rfl (run_loadVarA T26 rfl ((S0.keep (p := 0) hw rfl rfl (by kernel_rfl)).at_ (i := 0) rfl))) ?_
  refine ⟨SK.same (by kernel_rfl), ?_⟩
  refine evh (fun w' hw => rn_load rfl rfl (run_loadVarA T26 rfl ((S0.keep (p := 1) hw rfl rfl (by kernel_rfl)).at_ (i := 0) rfl))) ?_
  refine ⟨?_, trivial⟩
  obtain ⟨x_g, q_h, h⟩ := bind_some h
  refine ev_call rfl rfl C38 (((rational_Norm_ok n) _ _  (Rational.mk (Int_2.mk x_0.Num.Neg x_0.Num.Mag) (Int_2.mk x_0.Den.Neg x_0.Den.Mag)) v_1 r_2 v_3 r_4 hp.imm _ q_h).mono ?_)
  rintro _ w_i ⟨I_j, v_k, v_l, hv, hq, r_m, r_n⟩
  replace hv := hv.symm
  subst hv
  have hs := hq.st
  have hp := hp.join0 hq
  replace hz := hz.trans hs
  replace r_7 := r_7.step hs
  replace r_9 := r_9.step hs
  replace r_2 := r_2.step hs
  replace r_4 := r_4.step hs
  refine ⟨SK (Stp I_j w_i I_j) [(g_a, [(.bool x_0.Num.Neg), v_1, (.bool x_0.Den.Neg), v_3], 26), (g_c, [(.bool x_5.Num.Neg), v_6, (.bool x_5.Den.Neg), v_8], 26)] [[4], [5]], ⟨Stp.refl _ _, (kp_cons (fun _ => (hp.own 2 _ _ _ rfl).1) (kp_cons (fun _ => (hp.own 1 _ _ _ rfl).1) kp_nil))⟩, fun L x h => ⟨hz.held h.1, h.2⟩, ?_⟩
  have hz := Stp.refl I_j w_i
  refine ⟨?_, trivial⟩
  obtain ⟨x_o, q_p, h⟩ := bind_some h
  refine ev_call rfl rfl C38 (((rational_Norm_ok n) _ _  (Rational.mk (Int_2.mk x_5.Num.Neg x_5.Num.Mag) (Int_2.mk x_5.Den.Neg x_5.Den.Mag)) v_6 r_7 v_8 r_9 hp.imm _ q_p).mono ?_)
  rintro _ w_q ⟨I_r, v_s, v_t, hv, hq, r_u, r_v⟩
  replace hv := hv.symm
  subst hv
  have hs := hq.st
  have hp := hp.join0 hq
  replace hz := hz.trans hs
  replace r_m := r_m.step hs
  replace r_n := r_n.step hs
  replace r_7 := r_7.step hs
  replace r_9 := r_9.step hs
  replace r_2 := r_2.step hs
  replace r_4 := r_4.step hs
  refine ⟨SK (Stp I_r w_q I_r) [(g_a, [(.bool x_0.Num.Neg), v_1, (.bool x_0.Den.Neg), v_3], 26), (g_c, [(.bool x_5.Num.Neg), v_6, (.bool x_5.Den.Neg), v_8], 26)] [[4], [5]], ⟨Stp.refl _ _, (kp_cons (fun _ => (hp.own 2 _ _ _ rfl).1) (kp_cons (fun _ => (hp.own 1 _ _ _ rfl).1) kp_nil))⟩, fun L x h => ⟨hz.held h.1, h.2⟩, ?_⟩
  have hz := Stp.refl I_r w_q
  refine ⟨?_, trivial⟩
  refine ev_storeA hp (i := 2) (off := 0) (vs := [(.bool x_g.Num.Neg), v_k, (.bool x_g.Den.Neg), v_l]) rfl rfl rfl rfl T26 rfl (Nat.le_of_ble_eq_true rfl) (ones_cons rfl (ones_cons r_m.one (ones_cons rfl (ones_cons r_n.one ones_nil)))) ?_
  intro w_w hp hs
  replace hz := hz.trans hs
  replace r_u := r_u.step hs
  replace r_v := r_v.step hs
  replace r_7 := r_7.step hs
  replace r_9 := r_9.step hs
  replace r_m := r_m.step hs
  replace r_n := r_n.step hs
  refine ⟨SK (Stp I_r w_w I_r) [(g_a, [(.bool x_0.Num.Neg), v_1, (.bool x_0.Den.Neg), v_3], 26), (g_c, [(.bool x_5.Num.Neg), v_6, (.bool x_5.Den.Neg), v_8], 26)] [[4], [5]], ⟨Stp.refl _ _, (kp_cons (kp_off (by kernel_rfl)) (kp_cons (fun _ => (hp.own 1 _ _ _ rfl).1) kp_nil))⟩, fun L x h => ⟨hz.held h.1, h.2⟩, ?_⟩
  have hz := Stp.refl I_r w_w
  refine ⟨?_, trivial⟩
  refine ev_storeA hp (i := 1) (off := 0) (vs := [(.bool x_o.Num.Neg), v_s, (.bool x_o.Den.Neg), v_t]) rfl rfl rfl rfl T26 rfl (Nat.le_of_ble_eq_true rfl) (ones_cons rfl (ones_cons r_u.one (ones_cons rfl (ones_cons r_v.one ones_nil)))) ?_
  intro w_x hp hs
  replace hz := hz.trans hs
  replace r_u := r_u.step hs
  replace r_v := r_v.step hs
  replace r_m := r_m.step hs
  replace r_n := r_n.step hs
  refine ⟨SK (Stp I_r w_x I_r) [(g_a, [(.bool x_0.Num.Neg), v_1, (.bool x_0.Den.Neg), v_3], 26), (g_c, [(.bool x_5.Num.Neg), v_6, (.bool x_5.Den.Neg), v_8], 26)] [[4], [5]], ⟨Stp.refl _ _, (kp_cons (kp_off (by kernel_rfl)) (kp_cons (kp_off (by kernel_rfl)) kp_nil))⟩, fun L x h => ⟨hz.held h.1, h.2⟩, ?_⟩
  have hz := Stp.refl I_r w_x
  apply go
  have hs := hp.stp (Ch.drew [] w_x)
  have hp := hp.drew
  replace r_u := r_u.step hs
  replace r_v := r_v.step hs
  replace r_m := r_m.step hs
  replace r_n := r_n.step hs
  refine W.heldT [(0, true), (1, true), (2, true), (3, true), (5, true), (6, true), (7, true), (8, true), (11, true), (12, true), (13, true), (14, true), (4, false), (9, false), (10, false), (15, false), (16, false), (17, false)] (fun x => Stp I_r w_x.drew I_r x ∧ OwnK [(g_a, [(.bool x_g.Num.Neg), v_k, (.bool x_g.Den.Neg), v_l], 26), (g_c, [(.bool x_o.Num.Neg), v_s, (.bool x_o.Den.Neg), v_t], 26)] x) MX (by kernel_rfl) ⟨Stp.refl _ _, (OwnK.cons (hp.own 2 _ _ _ rfl).1 (OwnK.cons (hp.own 1 _ _ _ rfl).1 OwnK.nil))⟩ ?_
  have hz := Stp.refl I_r w_x.drew
  intro ops hops
  have e0 : nthO ops 0 = some _ := (hops 0).trans rfl
  have e1 : nthO ops 1 = some _ := (hops 1).trans rfl
  have e2 : nthO ops 2 = some _ := (hops 2).trans rfl
  have e3 : nthO ops 3 = some _ := (hops 3).trans rfl
  have e4 : nthO ops 4 = some _ := (hops 4).trans rfl
  have e5 : nthO ops 5 = some _ := (hops 5).trans rfl
  have e6 : nthO ops 6 = some _ := (hops 6).trans rfl
  have e7 : nthO ops 7 = some _ := (hops 7).trans rfl
  have e8 : nthO ops 8 = some _ := (hops 8).trans rfl
  have e9 : nthO ops 9 = some _ := (hops 9).trans rfl
  have e10 : nthO ops 10 = some _ := (hops 10).trans rfl
  have e11 : nthO ops 11 = some _ := (hops 11).trans rfl
  have e12 : nthO ops 12 = some _ := (hops 12).trans rfl
  have e13 : nthO ops 13 = some _ := (hops 13).trans rfl
  have e14 : nthO ops 14 = some _ := (hops 14).trans rfl
  have e15 : nthO ops 15 = some _ := (hops 15).trans rfl
  have e16 : nthO ops 16 = some _ := (hops 16).trans rfl
  have e17 : nthO ops 17 = some _ := (hops 17).trans rfl
  clear hops
  refine vch_q e0 rfl ?_
  refine evh0 (rn_field rfl rfl FO26_0) ?_
  refine vch_q e1 rfl ?_
  refine evh (fun w' hw => rn_load rfl rfl (run_loadVarA T24 rfl (((hw.2.at_ (i := 0) rfl).drop 0).take 2))) ?_
  refine vch_q e2 rfl ?_
  refine evh0 (rn_field rfl rfl FO26_1) ?_
  refine vch_q e3 rfl ?_
  refine evh (fun w' hw => rn_load rfl rfl (run_loadVarA T24 rfl (((hw.2.at_ (i := 1) rfl).drop 2).take 2))) ?_
  refine vch_q e5 rfl ?_
  refine evh0 (rn_field rfl rfl FO26_0) ?_
  refine vch_q e6 rfl ?_
  refine evh (fun w' hw => rn_load rfl rfl (run_loadVarA T24 rfl (((hw.2.at_ (i := 1) rfl).drop 0).take 2))) ?_
  refine vch_q e7 rfl ?_
  refine evh0 (rn_field rfl rfl FO26_1) ?_
  refine vch_q e8 rfl ?_
  refine evh (fun w' hw => rn_load rfl rfl (run_loadVarA T24 rfl (((hw.2.at_ (i := 0) rfl).drop 2).take 2))) ?_
  refine vch_q e11 rfl ?_
  refine evh0 (rn_field rfl rfl FO26_1) ?_
  refine vch_q e12 rfl ?_
  refine evh (fun w' hw => rn_load rfl rfl (run_loadVarA T24 rfl (((hw.2.at_ (i := 0) rfl).drop 2).take 2))) ?_
  refine vch_q e13 rfl ?_
  refine evh0 (rn_field rfl rfl FO26_1) ?_
  refine vch_q e14 rfl ?_
  refine evh (fun w' hw => rn_load rfl rfl (run_loadVarA T24 rfl (((hw.2.at_ (i := 1) rfl).drop 2).take 2))) ?_
  refine vch_l e4 rfl ?_
  obtain ⟨x_y, q_z, h⟩ := bind_some h
  refine ev_call rfl rfl C47 (((integer_Mul_ok n) _ _  (Int_2.mk x_g.Num.Neg x_g.Num.Mag) v_k r_m (Int_2.mk x_o.Den.Neg x_o.Den.Mag) v_t r_v hp.imm _ q_z).mono ?_)
  rintro _ w_10 ⟨I_11, v_12, hv, hq, r_13⟩
  replace hv := hv.symm
  subst hv
  have hs := hq.st
  have hp := hp.join0 hq
  replace hz := hz.trans hs
  replace r_u := r_u.step hs
  replace r_n := r_n.step hs
  replace r_v := r_v.step hs
  replace r_m := r_m.step hs
  refine ⟨fun x => Stp I_11 w_10 I_11 x ∧ OwnK [(g_a, [(.bool x_g.Num.Neg), v_k, (.bool x_g.Den.Neg), v_l], 26), (g_c, [(.bool x_o.Num.Neg), v_s, (.bool x_o.Den.Neg), v_t], 26)] x, ⟨Stp.refl _ _, (OwnK.cons (hp.own 2 _ _ _ rfl).1 (OwnK.cons (hp.own 1 _ _ _ rfl).1 OwnK.nil))⟩, fun x hx => ⟨hz.held hx.1, hx.2⟩, ?_⟩
  have hz := Stp.refl I_11 w_10
  refine vch_l e9 rfl ?_
  obtain ⟨x_14, q_15, h⟩ := bind_some h
  refine ev_call rfl rfl C47 (((integer_Mul_ok n) _ _  (Int_2.mk x_o.Num.Neg x_o.Num.Mag) v_s r_u (Int_2.mk x_g.Den.Neg x_g.Den.Mag) v_l r_n hp.imm _ q_15).mono ?_)
  rintro _ w_16 ⟨I_17, v_18, hv, hq, r_19⟩
  replace hv := hv.symm
  subst hv
  have hs := hq.st
  have hp := hp.join0 hq
  replace hz := hz.trans hs
  replace r_n := r_n.step hs
  replace r_v := r_v.step hs
  replace r_13 := r_13.step hs
  replace r_u := r_u.step hs
  replace r_m := r_m.step hs
  refine ⟨fun x => Stp I_17 w_16 I_17 x ∧ OwnK [(g_a, [(.bool x_g.Num.Neg), v_k, (.bool x_g.Den.Neg), v_l], 26), (g_c, [(.bool x_o.Num.Neg), v_s, (.bool x_o.Den.Neg), v_t], 26)] x, ⟨Stp.refl _ _, (OwnK.cons (hp.own 2 _ _ _ rfl).1 (OwnK.cons (hp.own 1 _ _ _ rfl).1 OwnK.nil))⟩, fun x hx => ⟨hz.held hx.1, hx.2⟩, ?_⟩
  have hz := Stp.refl I_17 w_16
  refine vch_l e10 rfl ?_
  obtain ⟨x_1a, q_1b, h⟩ := bind_some h
  refine ev_call rfl rfl C71 (((integer_Add_ok n) _ _  x_y v_12 r_13 x_14 v_18 r_19 hp.imm _ q_1b).mono ?_)
  rintro _ w_1c ⟨I_1d, v_1e, hv, hq, r_1f⟩
  replace hv := hv.symm
  subst hv
  have hs := hq.st
  have hp := hp.join0 hq
  replace hz := hz.trans hs
  replace r_n := r_n.step hs
  replace r_v := r_v.step hs
  replace r_u := r_u.step hs
  replace r_m := r_m.step hs
  refine ⟨fun x => Stp I_1d w_1c I_1d x ∧ OwnK [(g_a, [(.bool x_g.Num.Neg), v_k, (.bool x_g.Den.Neg), v_l], 26), (g_c, [(.bool x_o.Num.Neg), v_s, (.bool x_o.Den.Neg), v_t], 26)] x, ⟨Stp.refl _ _, (OwnK.cons (hp.own 2 _ _ _ rfl).1 (OwnK.cons (hp.own 1 _ _ _ rfl).1 OwnK.nil))⟩, fun x hx => ⟨hz.held hx.1, hx.2⟩, ?_⟩
  have hz := Stp.refl I_1d w_1c
  refine vch_l e15 rfl ?_
  obtain ⟨x_1g, q_1h, h⟩ := bind_some h
  refine ev_call rfl rfl C47 (((integer_Mul_ok n) _ _  (Int_2.mk x_g.Den.Neg x_g.Den.Mag) v_l r_n (Int_2.mk x_o.Den.Neg x_o.Den.Mag) v_t r_v hp.imm _ q_1h).mono ?_)
  rintro _ w_1i ⟨I_1j, v_1k, hv, hq, r_1l⟩
  replace hv := hv.symm
  subst hv
  have hs := hq.st
  have hp := hp.join0 hq
  replace hz := hz.trans hs
  replace r_1f := r_1f.step hs
  replace r_u := r_u.step hs
  replace r_v := r_v.step hs
  replace r_m := r_m.step hs
  replace r_n := r_n.step hs
  refine ⟨fun x => Stp I_1j w_1i I_1j x ∧ OwnK [(g_a, [(.bool x_g.Num.Neg), v_k, (.bool x_g.Den.Neg), v_l], 26), (g_c, [(.bool x_o.Num.Neg), v_s, (.bool x_o.Den.Neg), v_t], 26)] x, ⟨Stp.refl _ _, (OwnK.cons (hp.own 2 _ _ _ rfl).1 (OwnK.cons (hp.own 1 _ _ _ rfl).1 OwnK.nil))⟩, fun x hx => ⟨hz.held hx.1, hx.2⟩, ?_⟩
  have hz := Stp.refl I_1j w_1i
  refine vch_l e16 rfl ?_
  obtain ⟨x_1m, q_1n, h⟩ := bind_some h
  refine ev_call rfl rfl C28 (((rational_New_ok n) _ _  x_1a v_1e r_1f x_1g v_1k r_1l hp.imm _ q_1n).mono ?_)
  rintro _ w_1o ⟨I_1p, v_1q, v_1r, hv, hq, r_1s, r_1t⟩
  replace hv := hv.symm
  subst hv
  have hs := hq.st
  have hp := hp.join0 hq
  replace hz := hz.trans hs
  replace r_u := r_u.step hs
  replace r_v := r_v.step hs
  replace r_m := r_m.step hs
  replace r_n := r_n.step hs
  refine ⟨fun x => Stp I_1p w_1o I_1p x ∧ OwnK [(g_a, [(.bool x_g.Num.Neg), v_k, (.bool x_g.Den.Neg), v_l], 26), (g_c, [(.bool x_o.Num.Neg), v_s, (.bool x_o.Den.Neg), v_t], 26)] x, ⟨Stp.refl _ _, (OwnK.cons (hp.own 2 _ _ _ rfl).1 (OwnK.cons (hp.own 1 _ _ _ rfl).1 OwnK.nil))⟩, fun x hx => ⟨hz.held hx.1, hx.2⟩, ?_⟩
  have hz := Stp.refl I_1p w_1o
  refine vch_l e17 rfl ?_
  refine ev_storeA hp (i := 0) (off := 0) (vs := [(.bool x_1m.Num.Neg), v_1q, (.bool x_1m.Den.Neg), v_1r]) rfl rfl rfl rfl T26 rfl (Nat.le_of_ble_eq_true rfl) (ones_cons rfl (ones_cons r_1s.one (ones_cons rfl (ones_cons r_1t.one ones_nil)))) ?_
  intro w_1u hp hs
  replace hz := hz.trans hs
  replace r_1s := r_1s.step hs
  replace r_1t := r_1t.step hs
  replace r_u := r_u.step hs
  replace r_v := r_v.step hs
  replace r_m := r_m.step hs
  replace r_n := r_n.step hs
  refine ⟨fun x => Stp I_1p w_1u I_1p x ∧ OwnK [(g_a, [(.bool x_g.Num.Neg), v_k, (.bool x_g.Den.Neg), v_l], 26), (g_c, [(.bool x_o.Num.Neg), v_s, (.bool x_o.Den.Neg), v_t], 26)] x, ⟨Stp.refl _ _, (OwnK.cons (hp.own 2 _ _ _ rfl).1 (OwnK.cons (hp.own 1 _ _ _ rfl).1 OwnK.nil))⟩, fun x hx => ⟨hz.held hx.1, hx.2⟩, ?_⟩
  have hz := Stp.refl I_1p w_1u
  refine vch_end ?_
  apply go
  obtain rfl := Option.some.inj h
  refine ⟨_, run_loadVarA T26 rfl (hp.at_ (i := 0) rfl), ?_⟩
  have hp := hp.sel [] (by decide)
  exact ⟨I_1p, v_1q, v_1r, rfl, hp, r_1s, r_1t⟩

end Go.Proofs.YtepadjfmcbjkmaaGreatDoor

namespace Go.Proofs.YtepadjfmcbjkmaaGreatDoor
open Go Go.Proofs.YtepadjfmcbjkmaaGreatDoor.Gw Go.RowKit
set_option linter.unusedVariables false
attribute [local irreducible] Ev EvQ EvS EvH
def law02_awake_S (f : Option Bool) : Prop := ∀ (w0 : World) (I0 : Nat → Prop) (tb : Tb w0 I0 4 .u64 pow10)  (hI : ∀ g, I0 g → g < w0.heap.size) (r : Bool), f  = some r →
    Ret Tryz.prog 8 #[] w0 fun v w1 => v = (.bool r) ∧ Ch [] w0 w1
theorem law02_awake_ok (n : Nat) : law02_awake_S (law02_awake n) := by
  intro w0 I0 tb hI r h
  unfold law02_awake at h
  refine enter Tryz.func8 rfl (Nat.le_of_ble_eq_true rfl) ?_
  have hp : Hp ⟨w0, I0, []⟩ I0 [] w0 := Hp.start hI
  apply go
  apply go
  obtain ⟨y_0, q_1, h⟩ := bind_some h
  refine W.cut (γ := (Bool × (Nat → Prop))) (fun g => [(0, (.bool (g.1)))]) (fun g w' => y_0 = (g.1) ∧ Hp ⟨w0, I0, []⟩ (g.2) [] w' ∧ Tb w' (g.2) 4 .u64 pow10) ?_ ?_
  ·
    apply go
    obtain ⟨x_2, q_3, q_1⟩ := bind_some q_1
    refine ev_call rfl rfl C29 (((rational_Of_ok n) _ _  6 (-4) hp.imm _ q_3).mono ?_)
    rintro _ w_4 ⟨I_5, v_6, v_7, hv, hq, r_8, r_9⟩
    replace hv := hv.symm
    subst hv
    have hs := hq.st
    have hp := hp.join0 hq
    replace tb := tb.step hs
    obtain ⟨x_a, q_b, q_1⟩ := bind_some q_1
    refine ev_call rfl rfl C33 (((rational_Text_ok n) _ _ tb x_2 v_6 r_8 v_7 r_9 hp.imm _ q_b).mono ?_)
    rintro _ w_c ⟨rfl, hc⟩
    have hs := hp.stp hc
    replace hp := hp.ext hc
    replace tb := tb.step hs
    refine sel_of (fun hc => ?_) (fun hc => ?_)
    ·
      have q_1 := cond_t q_1 hc
      obtain ⟨x_d, q_e, q_1⟩ := bind_some q_1
      refine ev_call rfl rfl C29 (((rational_Of_ok n) _ _  1 2 hp.imm _ q_e).mono ?_)
      rintro _ w_f ⟨I_g, v_h, v_i, hv, hq, r_j, r_k⟩
      replace hv := hv.symm
      subst hv
      have hs := hq.st
      have hp := hp.join0 hq
      replace tb := tb.step hs
      obtain ⟨x_l, q_m, q_1⟩ := bind_some q_1
      refine ev_call rfl rfl C29 (((rational_Of_ok n) _ _  1 3 hp.imm _ q_m).mono ?_)
      rintro _ w_n ⟨I_o, v_p, v_q, hv, hq, r_r, r_s⟩
      replace hv := hv.symm
      subst hv
      have hs := hq.st
      have hp := hp.join0 hq
      replace r_j := r_j.step hs
      replace r_k := r_k.step hs
      replace tb := tb.step hs
      obtain ⟨x_t, q_u, q_1⟩ := bind_some q_1
      refine ev_call rfl rfl C36 (((rational_Add_ok n) _ _  x_d v_h r_j v_i r_k x_l v_p r_r v_q r_s hp.imm _ q_u).mono ?_)
      rintro _ w_v ⟨I_w, v_x, v_y, hv, hq, r_z, r_10⟩
      replace hv := hv.symm
      subst hv
      have hs := hq.st
      have hp := hp.join0 hq
      replace tb := tb.step hs
      obtain ⟨x_11, q_12, q_1⟩ := bind_some q_1
      refine ev_call rfl rfl C33 (((rational_Text_ok n) _ _ tb x_t v_x r_z v_y r_10 hp.imm _ q_12).mono ?_)
      rintro _ w_13 ⟨rfl, hc⟩
      have hs := hp.stp hc
      replace hp := hp.ext hc
      replace tb := tb.step hs
      obtain rfl := Option.some.inj q_1
      exact ⟨((x_11.toList == (ByteArray.mk #[53, 47, 54]).toList), I_w), (.c rfl .n), rfl, hp, tb⟩
    ·
      have q_1 := cond_f q_1 hc
      obtain rfl := Option.some.inj q_1
      exact ⟨(false, I_5), (.c rfl .n), rfl, hp, tb⟩
  ·
    rintro ⟨x_14, I_15⟩ w_16 ⟨hy, hp, tb⟩
    replace hy := hy.symm
    subst hy
    apply go
    obtain rfl := Option.some.inj h
    exact ⟨rfl, hp.ch⟩

end Go.Proofs.YtepadjfmcbjkmaaGreatDoor

namespace Go.Proofs.YtepadjfmcbjkmaaGreatDoor
open Go Go.Proofs.YtepadjfmcbjkmaaGreatDoor.Gw Go.RowKit
set_option linter.unusedVariables false
attribute [local irreducible] Ev EvQ EvS EvH
def ref02_Few_S (f : (List Rational) → Option Bool) : Prop := ∀ (w0 : World) (I0 : Nat → Prop) (x_0 : (List Rational)) (v_1 : Value) (r_2 : RepS dRational w0 I0 v_1 x_0) (hI : ∀ g, I0 g → g < w0.heap.size) (r : Bool), f x_0 = some r →
    Ret Tryz.prog 37 #[v_1] w0 fun v w1 => v = (.bool r) ∧ Ch [] w0 w1
theorem ref02_Few_ok (n : Nat) : ref02_Few_S (ref02_Few n) := by
  intro w0 I0 x_0 v_1 r_2 hI r h
  unfold ref02_Few at h
  refine enter Tryz.func37 rfl (Nat.le_of_ble_eq_true rfl) ?_
  have hp : Hp ⟨w0, I0, []⟩ I0 [] w0 := Hp.start hI
  apply go
  apply go
  apply go
  apply go
  obtain ⟨y_3, q_4, h⟩ := bind_some h
  refine W.cut (γ := Int) (fun g => [(0, v_1), (3, (.int .i64 (g)))]) (fun g w' => y_3 = (g) ∧ Hp ⟨w0, I0, []⟩ I0 [] w' ∧ RepS dRational w' I0 v_1 x_0) ?_ ?_
  ·
    apply go
    apply go
    apply go
    refine W.loop q_4 (γ := Unit) (fun s _ => [(0, v_1), (3, (.int .i64 (s.1))), (4, (.int .i64 (s.2)))]) (fun s _ w' => Hp ⟨w0, I0, []⟩ I0 [] w' ∧ RepS dRational w' I0 v_1 x_0) () (.c rfl (.c rfl (.c rfl .n))) ⟨hp, r_2⟩ ?_
    rintro ⟨x_5, x_6⟩ ⟨⟩ w_7 y_8 ⟨hp, r_2⟩ q_9 q_a
    unfold ref02_Few_L1 at q_9
    apply go
    obtain ⟨y_b, q_c, q_9⟩ := bind_some q_9
    refine W.cut (γ := Bool) (fun g => [(0, v_1), (3, (.int .i64 x_5)), (4, (.int .i64 x_6)), (12, (.bool (g)))]) (fun g w' => y_b = (g) ∧ w_7 = w') ?_ ?_
    ·
      apply go
      refine ev0 (rn_len rfl rfl Tryz.underlying56 r_2) ?_
      refine sel_of (fun hc => ?_) (fun hc => ?_)
      ·
        have q_c := cond_t q_c hc
        obtain rfl := Option.some.inj q_c
        exact ⟨(decide (x_6 < 50)), (.c rfl (.c rfl (.c rfl (.c rfl .n)))), rfl, rfl⟩
      ·
        have q_c := cond_f q_c hc
        obtain rfl := Option.some.inj q_c
        exact ⟨false, (.c rfl (.c rfl (.c rfl (.c rfl .n)))), rfl, rfl⟩
    ·
      rintro x_d _ ⟨hy, rfl⟩
      replace hy := hy.symm
      subst hy
      apply go
      refine sel_of (fun hc => ?_) (fun hc => ?_)
      ·
        have q_9 := cond_t q_9 hc
        apply go
        apply go
        apply go
        refine W.quiet (fun w' => Ch [] w_7 w') MX (by kernel_rfl) (Ch.drew [] w_7) ?_
        obtain ⟨x_e, q_f, q_9⟩ := bind_some q_9
        refine evq_index rfl rfl rfl Tryz.underlying56 T26 r_2 q_f ?_
        intro p_g c_h d_i a_j
        obtain ⟨v_k, v_l, rfl, r_m, r_n⟩ := dRational_o d_i
        refine evq0 (rn_field rfl rfl FO26_0) ?_
        refine evq0 (rn_field rfl rfl FO24_1) ?_
        refine evq (fun w' hw => rn_load rfl rfl (run_loadVar1 T22 ((a_j.step (hp.stp hw)).2 1 _ rfl))) ?_
        refine evq0 (rn_len rfl rfl Tryz.underlying22 r_m) ?_
        refine evq0 (rn_min rfl rfl rfl) ?_
        obtain ⟨x_o, q_p, q_9⟩ := bind_some q_9
        refine evq_index rfl rfl rfl Tryz.underlying56 T26 r_2 q_p ?_
        intro p_q c_r d_s a_t
        obtain ⟨v_u, v_v, rfl, r_w, r_x⟩ := dRational_o d_s
        refine evq0 (rn_field rfl rfl FO26_1) ?_
        refine evq0 (rn_fieldAt rfl rfl FO24_1) ?_
        refine evq (fun w' hw => rn_load rfl rfl (run_loadVar1 T22 ((a_t.step (hp.stp hw)).2 3 _ rfl))) ?_
        refine evq0 (rn_len rfl rfl Tryz.underlying22 r_x) ?_
        refine evq0 (rn_min rfl rfl rfl) ?_
        intro w_y hc
        have hs := hp.stp hc
        replace hp := hp.ext hc
        replace r_2 := r_2.step hs
        apply go
        exact ⟨_, (Option.some.inj q_9).symm, (), (.c rfl (.c rfl (.c rfl .n))), ⟨hp, r_2⟩⟩
      ·
        have q_9 := cond_f q_9 hc
        apply go
        have q_z := congrArg some (q_a _ (Option.some.inj q_9).symm)
        obtain rfl := Option.some.inj q_z
        exact ⟨x_5, (.c rfl (.c rfl .n)), rfl, hp, r_2⟩
  ·
    rintro x_10 w_11 ⟨hy, hp, r_2⟩
    replace hy := hy.symm
    subst hy
    obtain ⟨y_12, q_13, h⟩ := bind_some h
    refine W.cut (γ := Bool) (fun g => [(2, (.bool (g)))]) (fun g w' => y_12 = (g) ∧ w_11 = w') ?_ ?_
    ·
      apply go
      refine ev0 (rn_len rfl rfl Tryz.underlying56 r_2) ?_
      refine sel_of (fun hc => ?_) (fun hc => ?_)
      ·
        have q_13 := cond_t q_13 hc
        obtain rfl := Option.some.inj q_13
        exact ⟨(decide (x_10 ≤ 60)), (.c rfl .n), rfl, rfl⟩
      ·
        have q_13 := cond_f q_13 hc
        obtain rfl := Option.some.inj q_13
        exact ⟨false, (.c rfl .n), rfl, rfl⟩
    ·
      rintro x_14 _ ⟨hy, rfl⟩
      replace hy := hy.symm
      subst hy
      apply go
      obtain rfl := Option.some.inj h
      exact ⟨rfl, hp.ch⟩

end Go.Proofs.YtepadjfmcbjkmaaGreatDoor

namespace Go.Proofs.YtepadjfmcbjkmaaGreatDoor
open Go Go.Proofs.YtepadjfmcbjkmaaGreatDoor.Gw Go.RowKit
set_option linter.unusedVariables false
attribute [local irreducible] Ev EvQ EvS EvH
def law02_few_S (f : (List Rational) → Option Bool) : Prop := ∀ (w0 : World) (I0 : Nat → Prop) (x_0 : (List Rational)) (v_1 : Value) (r_2 : RepS dRational w0 I0 v_1 x_0) (hI : ∀ g, I0 g → g < w0.heap.size) (r : Bool), f x_0 = some r →
    Ret Tryz.prog 9 #[v_1] w0 fun v w1 => v = (.bool r) ∧ Ch [] w0 w1
theorem law02_few_ok (n : Nat) : law02_few_S (law02_few n) := by
  intro w0 I0 x_0 v_1 r_2 hI r h
  unfold law02_few at h
  refine enter Tryz.func9 rfl (Nat.le_of_ble_eq_true rfl) ?_
  have hp : Hp ⟨w0, I0, []⟩ I0 [] w0 := Hp.start hI
  apply go
  apply go
  apply go
  apply go
  obtain ⟨x_3, q_4, h⟩ := bind_some h
  refine ev_call rfl rfl C37 (((ref02_Few_ok n) _ _  x_0 v_1 r_2 hp.imm _ q_4).mono ?_)
  rintro _ w_5 ⟨rfl, hc⟩
  have hs := hp.stp hc
  replace hp := hp.ext hc
  apply go
  obtain rfl := Option.some.inj h
  exact ⟨rfl, hp.ch⟩

end Go.Proofs.YtepadjfmcbjkmaaGreatDoor

namespace Go.Proofs.YtepadjfmcbjkmaaGreatDoor
open Go Go.Proofs.YtepadjfmcbjkmaaGreatDoor.Gw Go.RowKit
set_option linter.unusedVariables false
attribute [local irreducible] Ev EvQ EvS EvH
def base_Int_S (f : Int_2 → Int_2 → Option Bool) : Prop := ∀ (w0 : World) (I0 : Nat → Prop) (x_0 : Int_2) (v_1 : Value) (r_2 : RepS (dI .u32) w0 I0 v_1 x_0.Mag) (x_3 : Int_2) (v_4 : Value) (r_5 : RepS (dI .u32) w0 I0 v_4 x_3.Mag) (hI : ∀ g, I0 g → g < w0.heap.size) (r : Bool), f x_0 x_3 = some r →
    Ret Tryz.prog 17 #[(.agg #[(.bool x_0.Neg), v_1]), (.agg #[(.bool x_3.Neg), v_4])] w0 fun v w1 => v = (.bool r) ∧ Ch [] w0 w1
theorem base_Int_ok (n : Nat) : base_Int_S (base_Int n) := by
  intro w0 I0 x_0 v_1 r_2 x_3 v_4 r_5 hI r h
  unfold base_Int at h
  refine enter Tryz.func17 rfl (Nat.le_of_ble_eq_true rfl) ?_
  have hp : Hp ⟨w0, I0, []⟩ I0 [] w0 := Hp.start hI
  apply go
  apply go
  refine ev_boxI hp rfl rfl ?_
  intro p_6 I_7 w_8 hp hs a_9
  replace r_5 := r_5.step hs
  replace r_2 := r_2.step hs
  refine ev_boxI hp rfl rfl ?_
  intro p_a I_b w_c hp hs a_d
  replace a_9 := a_9.step hs
  replace r_2 := r_2.step hs
  replace r_5 := r_5.step hs
  apply go
  obtain ⟨y_e, q_f, h⟩ := bind_some h
  refine W.cut (γ := Bool) (fun g => [(2, (.pointer (some (p_6)))), (3, (.pointer (some (p_a)))), (19, (.bool (g)))]) (fun g w' => y_e = (g) ∧ w_c = w') ?_ ?_
  ·
    apply go
    refine ev0 (rn_field rfl rfl FO24_0) ?_
    refine ev (rn_load rfl rfl (run_loadVar1 T4 (a_9.2 0 _ rfl))) ?_
    refine ev0 (rn_field rfl rfl FO24_0) ?_
    refine ev (rn_load rfl rfl (run_loadVar1 T4 (a_d.2 0 _ rfl))) ?_
    refine ev0 (rn_neB rfl rfl rfl Tryz.underlying4) ?_
    refine sel_of (fun hc => ?_) (fun hc => ?_)
    ·
      have q_f := cond_t q_f hc
      obtain rfl := Option.some.inj q_f
      exact ⟨true, (.c rfl (.c rfl (.c rfl .n))), rfl, rfl⟩
    ·
      have q_f := cond_f q_f hc
      refine ev0 (rn_field rfl rfl FO24_1) ?_
      refine ev (rn_load rfl rfl (run_loadVar1 T22 (a_9.2 1 _ rfl))) ?_
      refine ev0 (rn_len rfl rfl Tryz.underlying22 r_2) ?_
      refine ev0 (rn_field rfl rfl FO24_1) ?_
      refine ev (rn_load rfl rfl (run_loadVar1 T22 (a_d.2 1 _ rfl))) ?_
      refine ev0 (rn_len rfl rfl Tryz.underlying22 r_5) ?_
      obtain rfl := Option.some.inj q_f
      exact ⟨((x_0.Mag.length : Int) != (x_3.Mag.length : Int)), (.c rfl (.c rfl (.c rfl .n))), rfl, rfl⟩
  ·
    rintro x_g _ ⟨hy, rfl⟩
    replace hy := hy.symm
    subst hy
    apply go
    refine sel_of (fun hc => ?_) (fun hc => ?_)
    ·
      have h := cond_t h hc
      apply go
      apply go
      apply go
      obtain rfl := Option.some.inj h
      exact ⟨rfl, hp.ch⟩
    ·
      have h := cond_f h hc
      apply go
      obtain ⟨y_h, q_i, h⟩ := bind_some h
      refine W.cut (γ := Unit) (fun _ => []) (fun _ w' => y_h = .go () ∧ Hp ⟨w0, I0, []⟩ I_b [] w') ?_ ?_
      ·
        apply go
        apply go
        apply go
        refine W.loop q_i (γ := Unit) (fun s _ => [(2, (.pointer (some (p_6)))), (3, (.pointer (some (p_a)))), (5, (.int .i64 (s)))]) (fun s _ w' => Hp ⟨w0, I0, []⟩ I_b [] w' ∧ RepS (dI .u32) w' I_b v_1 x_0.Mag ∧ At w' I_b p_6 [(.bool x_0.Neg), v_1] ∧ RepS (dI .u32) w' I_b v_4 x_3.Mag ∧ At w' I_b p_a [(.bool x_3.Neg), v_4]) () (.c rfl (.c rfl (.c rfl .n))) ⟨hp, r_2, a_9, r_5, a_d⟩ ?_
        rintro x_j ⟨⟩ w_k y_l ⟨hp, r_2, a_9, r_5, a_d⟩ q_m q_n
        unfold base_Int_L1 at q_m
        apply go
        apply go
        apply go
        refine ev0 (rn_field rfl rfl FO24_1) ?_
        refine ev (rn_load rfl rfl (run_loadVar1 T22 (a_9.2 1 _ rfl))) ?_
        refine ev0 (rn_len rfl rfl Tryz.underlying22 r_2) ?_
        apply go
        refine sel_of (fun hc => ?_) (fun hc => ?_)
        ·
          have q_m := cond_t q_m hc
          apply go
          apply go
          apply go
          apply go
          refine W.quiet (fun w' => Ch [] w_k w') MX (by kernel_rfl) (Ch.drew [] w_k) ?_
          refine evq0 (rn_field rfl rfl FO24_1) ?_
          refine evq (fun w' hw => rn_load rfl rfl (run_loadVar1 T22 ((a_9.step (hp.stp hw)).2 1 _ rfl))) ?_
          obtain ⟨x_o, q_p, q_m⟩ := bind_some q_m
          refine evq_index rfl rfl rfl Tryz.underlying22 T46 r_2 q_p ?_
          intro p_q c_r d_s a_t
          obtain rfl : c_r = [(.int .u32 x_o)] := d_s
          refine evq (fun w' hw => rn_load rfl rfl (run_loadVar1 T46 ((a_t.step (hp.stp hw)).2 0 _ rfl))) ?_
          refine evq0 (rn_field rfl rfl FO24_1) ?_
          refine evq (fun w' hw => rn_load rfl rfl (run_loadVar1 T22 ((a_d.step (hp.stp hw)).2 1 _ rfl))) ?_
          obtain ⟨x_u, q_v, q_m⟩ := bind_some q_m
          refine evq_index rfl rfl rfl Tryz.underlying22 T46 r_5 q_v ?_
          intro p_w c_x d_y a_z
          obtain rfl : c_x = [(.int .u32 x_u)] := d_y
          refine evq (fun w' hw => rn_load rfl rfl (run_loadVar1 T46 ((a_z.step (hp.stp hw)).2 0 _ rfl))) ?_
          intro w_10 hc
          have hs := hp.stp hc
          replace hp := hp.ext hc
          replace a_9 := a_9.step hs
          replace r_2 := r_2.step hs
          replace a_d := a_d.step hs
          replace r_5 := r_5.step hs
          apply go
          refine sel_of (fun hc => ?_) (fun hc => ?_)
          ·
            have q_m := cond_t q_m hc
            apply go
            apply go
            apply go
            have q_11 := congrArg some (q_n _ (Option.some.inj q_m).symm)
            obtain rfl := Option.some.inj q_11
            obtain rfl := Option.some.inj h
            exact ⟨rfl, hp.ch⟩
          ·
            have q_m := cond_f q_m hc
            apply go
            apply go
            exact ⟨_, (Option.some.inj q_m).symm, (), (.c rfl (.c rfl (.c rfl .n))), ⟨hp, r_2, a_9, r_5, a_d⟩⟩
        ·
          have q_m := cond_f q_m hc
          apply go
          have q_12 := congrArg some (q_n _ (Option.some.inj q_m).symm)
          obtain rfl := Option.some.inj q_12
          exact ⟨(), .n, rfl, hp⟩
      ·
        rintro ⟨⟩ w_13 ⟨hy, hp⟩
        replace hy := hy.symm
        subst hy
        apply go
        apply go
        apply go
        obtain rfl := Option.some.inj h
        exact ⟨rfl, hp.ch⟩

end Go.Proofs.YtepadjfmcbjkmaaGreatDoor

namespace Go.Proofs.YtepadjfmcbjkmaaGreatDoor
open Go Go.Proofs.YtepadjfmcbjkmaaGreatDoor.Gw Go.RowKit
set_option linter.unusedVariables false
attribute [local irreducible] Ev EvQ EvS EvH
def base_Rational_S (f : Rational → Rational → Option Bool) : Prop := ∀ (w0 : World) (I0 : Nat → Prop) (x_0 : Rational) (v_1 : Value) (r_2 : RepS (dI .u32) w0 I0 v_1 x_0.Num.Mag) (v_3 : Value) (r_4 : RepS (dI .u32) w0 I0 v_3 x_0.Den.Mag) (x_5 : Rational) (v_6 : Value) (r_7 : RepS (dI .u32) w0 I0 v_6 x_5.Num.Mag) (v_8 : Value) (r_9 : RepS (dI .u32) w0 I0 v_8 x_5.Den.Mag) (hI : ∀ g, I0 g → g < w0.heap.size) (r : Bool), f x_0 x_5 = some r →
    Ret Tryz.prog 14 #[(.agg #[(.bool x_0.Num.Neg), v_1, (.bool x_0.Den.Neg), v_3]), (.agg #[(.bool x_5.Num.Neg), v_6, (.bool x_5.Den.Neg), v_8])] w0 fun v w1 => v = (.bool r) ∧ Ch [] w0 w1
theorem base_Rational_ok (n : Nat) : base_Rational_S (base_Rational n) := by
  intro w0 I0 x_0 v_1 r_2 v_3 r_4 x_5 v_6 r_7 v_8 r_9 hI r h
  unfold base_Rational at h
  refine enter Tryz.func14 rfl (Nat.le_of_ble_eq_true rfl) ?_
  have hp : Hp ⟨w0, I0, []⟩ I0 [] w0 := Hp.start hI
  apply go
  apply go
  refine ev_boxI hp rfl rfl ?_
  intro p_a I_b w_c hp hs a_d
  replace r_7 := r_7.step hs
  replace r_9 := r_9.step hs
  replace r_2 := r_2.step hs
  replace r_4 := r_4.step hs
  refine ev_boxI hp rfl rfl ?_
  intro p_e I_f w_g hp hs a_h
  replace a_d := a_d.step hs
  replace r_2 := r_2.step hs
  replace r_4 := r_4.step hs
  replace r_7 := r_7.step hs
  replace r_9 := r_9.step hs
  obtain ⟨y_i, q_j, h⟩ := bind_some h
  refine W.cut (γ := Bool) (fun g => [(4, (.bool (g)))]) (fun g w' => y_i = (g) ∧ Hp ⟨w0, I0, []⟩ I_f [] w') ?_ ?_
  ·
    apply go
    refine ev0 (rn_field rfl rfl FO26_0) ?_
    refine ev (rn_load rfl rfl (run_loadVarA T24 rfl ((a_d.drop 0).take 2))) ?_
    refine ev0 (rn_field rfl rfl FO26_0) ?_
    refine ev (rn_load rfl rfl (run_loadVarA T24 rfl ((a_h.drop 0).take 2))) ?_
    obtain ⟨x_k, q_l, q_j⟩ := bind_some q_j
    refine ev_call rfl rfl C17 (((base_Int_ok n) _ _  (Int_2.mk x_0.Num.Neg x_0.Num.Mag) v_1 r_2 (Int_2.mk x_5.Num.Neg x_5.Num.Mag) v_6 r_7 hp.imm _ q_l).mono ?_)
    rintro _ w_m ⟨rfl, hc⟩
    have hs := hp.stp hc
    replace hp := hp.ext hc
    replace a_d := a_d.step hs
    replace r_2 := r_2.step hs
    replace r_4 := r_4.step hs
    replace a_h := a_h.step hs
    replace r_7 := r_7.step hs
    replace r_9 := r_9.step hs
    refine sel_of (fun hc => ?_) (fun hc => ?_)
    ·
      have q_j := cond_t q_j hc
      refine ev0 (rn_field rfl rfl FO26_1) ?_
      refine ev (rn_load rfl rfl (run_loadVarA T24 rfl ((a_d.drop 2).take 2))) ?_
      refine ev0 (rn_field rfl rfl FO26_1) ?_
      refine ev (rn_load rfl rfl (run_loadVarA T24 rfl ((a_h.drop 2).take 2))) ?_
      obtain ⟨x_n, q_o, q_j⟩ := bind_some q_j
      refine ev_call rfl rfl C17 (((base_Int_ok n) _ _  (Int_2.mk x_0.Den.Neg x_0.Den.Mag) v_3 r_4 (Int_2.mk x_5.Den.Neg x_5.Den.Mag) v_8 r_9 hp.imm _ q_o).mono ?_)
      rintro _ w_p ⟨rfl, hc⟩
      have hs := hp.stp hc
      replace hp := hp.ext hc
      obtain rfl := Option.some.inj q_j
      exact ⟨x_n, (.c rfl .n), rfl, hp⟩
    ·
      have q_j := cond_f q_j hc
      obtain rfl := Option.some.inj q_j
      exact ⟨false, (.c rfl .n), rfl, hp⟩
  ·
    rintro x_q w_r ⟨hy, hp⟩
    replace hy := hy.symm
    subst hy
    apply go
    obtain rfl := Option.some.inj h
    exact ⟨rfl, hp.ch⟩

end Go.Proofs.YtepadjfmcbjkmaaGreatDoor

namespace Go.Proofs.YtepadjfmcbjkmaaGreatDoor
open Go Go.Proofs.YtepadjfmcbjkmaaGreatDoor.Gw Go.RowKit
set_option linter.unusedVariables false
attribute [local irreducible] Ev EvQ EvS EvH
def rational_Cmp_S (f : Rational → Rational → Option Int) : Prop := ∀ (w0 : World) (I0 : Nat → Prop) (x_0 : Rational) (v_1 : Value) (r_2 : RepS (dI .u32) w0 I0 v_1 x_0.Num.Mag) (v_3 : Value) (r_4 : RepS (dI .u32) w0 I0 v_3 x_0.Den.Mag) (x_5 : Rational) (v_6 : Value) (r_7 : RepS (dI .u32) w0 I0 v_6 x_5.Num.Mag) (v_8 : Value) (r_9 : RepS (dI .u32) w0 I0 v_8 x_5.Den.Mag) (hI : ∀ g, I0 g → g < w0.heap.size) (r : Int), f x_0 x_5 = some r →
    Ret Tryz.prog 15 #[(.agg #[(.bool x_0.Num.Neg), v_1, (.bool x_0.Den.Neg), v_3]), (.agg #[(.bool x_5.Num.Neg), v_6, (.bool x_5.Den.Neg), v_8])] w0 fun v w1 => v = (.int .i64 r) ∧ Ch [] w0 w1
theorem rational_Cmp_ok (n : Nat) : rational_Cmp_S (rational_Cmp n) := by
  intro w0 I0 x_0 v_1 r_2 v_3 r_4 x_5 v_6 r_7 v_8 r_9 hI r h
  unfold rational_Cmp at h
  refine enter Tryz.func15 rfl (Nat.le_of_ble_eq_true rfl) ?_
  have hp : Hp ⟨w0, I0, []⟩ I0 [] w0 := Hp.start hI
  apply go
  apply go
  refine ev_box hp rfl rfl ?_
  intro g_a w_b hp hs
  replace r_7 := r_7.step hs
  replace r_9 := r_9.step hs
  replace r_2 := r_2.step hs
  replace r_4 := r_4.step hs
  refine ev_box hp rfl rfl ?_
  intro g_c w_d hp hs
  replace r_7 := r_7.step hs
  replace r_9 := r_9.step hs
  replace r_2 := r_2.step hs
  replace r_4 := r_4.step hs
  apply go
  have hs := hp.stp (Ch.drew [] w_d)
  have hp := hp.drew
  replace r_7 := r_7.step hs
  replace r_9 := r_9.step hs
  replace r_2 := r_2.step hs
  replace r_4 := r_4.step hs
  refine W.heldG (.q 0 (.q 2 (.l 1 (.l 3 (.l 4 (.l 5 .done .no) .no) .no) .no))) (SK (Stp I0 w_d.drew I0) [(g_a, [(.bool x_0.Num.Neg), v_1, (.bool x_0.Den.Neg), v_3], 26), (g_c, [(.bool x_5.Num.Neg), v_6, (.bool x_5.Den.Neg), v_8], 26)] [[4], [5]]) MX (by kernel_rfl) ⟨Stp.refl _ _, (kp_cons (fun _ => (hp.own 1 _ _ _ rfl).1) (kp_cons (fun _ => (hp.own 0 _ _ _ rfl).1) kp_nil))⟩ ?_
  have hz := Stp.refl I0 w_d.drew
  refine ⟨SK.same (by kernel_rfl), ?_⟩
  refine evh (fun w' hw => rn_load rfl rfl (run_loadVarA T26 rfl ((S0.keep (p := 0) hw rfl rfl (by kernel_rfl)).at_ (i := 0) rfl))) ?_
  refine ⟨SK.same (by kernel_rfl), ?_⟩
  refine evh (fun w' hw => rn_load rfl rfl (run_loadVarA T26 rfl ((S0.keep (p := 1) hw rfl rfl (by kernel_rfl)).at_ (i := 0) rfl))) ?_
  refine ⟨?_, trivial⟩
  obtain ⟨x_e, q_f, h⟩ := bind_some h
  refine ev_call rfl rfl C38 (((rational_Norm_ok n) _ _  (Rational.mk (Int_2.mk x_0.Num.Neg x_0.Num.Mag) (Int_2.mk x_0.Den.Neg x_0.Den.Mag)) v_1 r_2 v_3 r_4 hp.imm _ q_f).mono ?_)
  rintro _ w_g ⟨I_h, v_i, v_j, hv, hq, r_k, r_l⟩
  replace hv := hv.symm
  subst hv
  have hs := hq.st
  have hp := hp.join0 hq
  replace hz := hz.trans hs
  replace r_7 := r_7.step hs
  replace r_9 := r_9.step hs
  replace r_2 := r_2.step hs
  replace r_4 := r_4.step hs
  refine ⟨SK (Stp I_h w_g I_h) [(g_a, [(.bool x_0.Num.Neg), v_1, (.bool x_0.Den.Neg), v_3], 26), (g_c, [(.bool x_5.Num.Neg), v_6, (.bool x_5.Den.Neg), v_8], 26)] [[4], [5]], ⟨Stp.refl _ _, (kp_cons (fun _ => (hp.own 1 _ _ _ rfl).1) (kp_cons (fun _ => (hp.own 0 _ _ _ rfl).1) kp_nil))⟩, fun L x h => ⟨hz.held h.1, h.2⟩, ?_⟩
  have hz := Stp.refl I_h w_g
  refine ⟨?_, trivial⟩
  obtain ⟨x_m, q_n, h⟩ := bind_some h
  refine ev_call rfl rfl C38 (((rational_Norm_ok n) _ _  (Rational.mk (Int_2.mk x_5.Num.Neg x_5.Num.Mag) (Int_2.mk x_5.Den.Neg x_5.Den.Mag)) v_6 r_7 v_8 r_9 hp.imm _ q_n).mono ?_)
  rintro _ w_o ⟨I_p, v_q, v_r, hv, hq, r_s, r_t⟩
  replace hv := hv.symm
  subst hv
  have hs := hq.st
  have hp := hp.join0 hq
  replace hz := hz.trans hs
  replace r_k := r_k.step hs
  replace r_l := r_l.step hs
  replace r_7 := r_7.step hs
  replace r_9 := r_9.step hs
  replace r_2 := r_2.step hs
  replace r_4 := r_4.step hs
  refine ⟨SK (Stp I_p w_o I_p) [(g_a, [(.bool x_0.Num.Neg), v_1, (.bool x_0.Den.Neg), v_3], 26), (g_c, [(.bool x_5.Num.Neg), v_6, (.bool x_5.Den.Neg), v_8], 26)] [[4], [5]], ⟨Stp.refl _ _, (kp_cons (fun _ => (hp.own 1 _ _ _ rfl).1) (kp_cons (fun _ => (hp.own 0 _ _ _ rfl).1) kp_nil))⟩, fun L x h => ⟨hz.held h.1, h.2⟩, ?_⟩
  have hz := Stp.refl I_p w_o
  refine ⟨?_, trivial⟩
  refine ev_storeA hp (i := 1) (off := 0) (vs := [(.bool x_e.Num.Neg), v_i, (.bool x_e.Den.Neg), v_j]) rfl rfl rfl rfl T26 rfl (Nat.le_of_ble_eq_true rfl) (ones_cons rfl (ones_cons r_k.one (ones_cons rfl (ones_cons r_l.one ones_nil)))) ?_
  intro w_u hp hs
  replace hz := hz.trans hs
  replace r_s := r_s.step hs
  replace r_t := r_t.step hs
  replace r_7 := r_7.step hs
  replace r_9 := r_9.step hs
  replace r_k := r_k.step hs
  replace r_l := r_l.step hs
  refine ⟨SK (Stp I_p w_u I_p) [(g_a, [(.bool x_0.Num.Neg), v_1, (.bool x_0.Den.Neg), v_3], 26), (g_c, [(.bool x_5.Num.Neg), v_6, (.bool x_5.Den.Neg), v_8], 26)] [[4], [5]], ⟨Stp.refl _ _, (kp_cons (kp_off (by kernel_rfl)) (kp_cons (fun _ => (hp.own 0 _ _ _ rfl).1) kp_nil))⟩, fun L x h => ⟨hz.held h.1, h.2⟩, ?_⟩
  have hz := Stp.refl I_p w_u
  refine ⟨?_, trivial⟩
  refine ev_storeA hp (i := 0) (off := 0) (vs := [(.bool x_m.Num.Neg), v_q, (.bool x_m.Den.Neg), v_r]) rfl rfl rfl rfl T26 rfl (Nat.le_of_ble_eq_true rfl) (ones_cons rfl (ones_cons r_s.one (ones_cons rfl (ones_cons r_t.one ones_nil)))) ?_
  intro w_v hp hs
  replace hz := hz.trans hs
  replace r_s := r_s.step hs
  replace r_t := r_t.step hs
  replace r_k := r_k.step hs
  replace r_l := r_l.step hs
  refine ⟨SK (Stp I_p w_v I_p) [(g_a, [(.bool x_0.Num.Neg), v_1, (.bool x_0.Den.Neg), v_3], 26), (g_c, [(.bool x_5.Num.Neg), v_6, (.bool x_5.Den.Neg), v_8], 26)] [[4], [5]], ⟨Stp.refl _ _, (kp_cons (kp_off (by kernel_rfl)) (kp_cons (kp_off (by kernel_rfl)) kp_nil))⟩, fun L x h => ⟨hz.held h.1, h.2⟩, ?_⟩
  have hz := Stp.refl I_p w_v
  apply go
  have hs := hp.stp (Ch.drew [] w_v)
  have hp := hp.drew
  replace r_s := r_s.step hs
  replace r_t := r_t.step hs
  replace r_k := r_k.step hs
  replace r_l := r_l.step hs
  refine W.held [(0, true), (1, true), (2, true), (3, true), (5, true), (6, true), (7, true), (8, true), (4, false), (9, false), (10, false), (11, true)] (fun x => Stp I_p w_v.drew I_p x ∧ OwnK [(g_a, [(.bool x_e.Num.Neg), v_i, (.bool x_e.Den.Neg), v_j], 26), (g_c, [(.bool x_m.Num.Neg), v_q, (.bool x_m.Den.Neg), v_r], 26)] x) MX (by kernel_rfl) ⟨Stp.refl _ _, (OwnK.cons (hp.own 1 _ _ _ rfl).1 (OwnK.cons (hp.own 0 _ _ _ rfl).1 OwnK.nil))⟩ ?_
  have hz := Stp.refl I_p w_v.drew
  refine evh0 (rn_field rfl rfl FO26_0) ?_
  refine evh (fun w' hw => rn_load rfl rfl (run_loadVarA T24 rfl (((hw.2.at_ (i := 0) rfl).drop 0).take 2))) ?_
  refine evh0 (rn_field rfl rfl FO26_1) ?_
  refine evh (fun w' hw => rn_load rfl rfl (run_loadVarA T24 rfl (((hw.2.at_ (i := 1) rfl).drop 2).take 2))) ?_
  refine evh0 (rn_field rfl rfl FO26_0) ?_
  refine evh (fun w' hw => rn_load rfl rfl (run_loadVarA T24 rfl (((hw.2.at_ (i := 1) rfl).drop 0).take 2))) ?_
  refine evh0 (rn_field rfl rfl FO26_1) ?_
  refine evh (fun w' hw => rn_load rfl rfl (run_loadVarA T24 rfl (((hw.2.at_ (i := 0) rfl).drop 2).take 2))) ?_
  obtain ⟨x_w, q_x, h⟩ := bind_some h
  refine ev_call rfl rfl C47 (((integer_Mul_ok n) _ _  (Int_2.mk x_e.Num.Neg x_e.Num.Mag) v_i r_k (Int_2.mk x_m.Den.Neg x_m.Den.Mag) v_r r_t hp.imm _ q_x).mono ?_)
  rintro _ w_y ⟨I_z, v_10, hv, hq, r_11⟩
  replace hv := hv.symm
  subst hv
  have hs := hq.st
  have hp := hp.join0 hq
  replace hz := hz.trans hs
  replace r_s := r_s.step hs
  replace r_l := r_l.step hs
  replace r_t := r_t.step hs
  replace r_k := r_k.step hs
  refine ⟨fun x => Stp I_z w_y I_z x ∧ OwnK [(g_a, [(.bool x_e.Num.Neg), v_i, (.bool x_e.Den.Neg), v_j], 26), (g_c, [(.bool x_m.Num.Neg), v_q, (.bool x_m.Den.Neg), v_r], 26)] x, ⟨Stp.refl _ _, (OwnK.cons (hp.own 1 _ _ _ rfl).1 (OwnK.cons (hp.own 0 _ _ _ rfl).1 OwnK.nil))⟩, fun x hx => ⟨hz.held hx.1, hx.2⟩, ?_⟩
  have hz := Stp.refl I_z w_y
  obtain ⟨x_12, q_13, h⟩ := bind_some h
  refine ev_call rfl rfl C47 (((integer_Mul_ok n) _ _  (Int_2.mk x_m.Num.Neg x_m.Num.Mag) v_q r_s (Int_2.mk x_e.Den.Neg x_e.Den.Mag) v_j r_l hp.imm _ q_13).mono ?_)
  rintro _ w_14 ⟨I_15, v_16, hv, hq, r_17⟩
  replace hv := hv.symm
  subst hv
  have hs := hq.st
  have hp := hp.join0 hq
  replace hz := hz.trans hs
  replace r_11 := r_11.step hs
  replace r_s := r_s.step hs
  replace r_t := r_t.step hs
  replace r_k := r_k.step hs
  replace r_l := r_l.step hs
  refine ⟨fun x => Stp I_15 w_14 I_15 x ∧ OwnK [(g_a, [(.bool x_e.Num.Neg), v_i, (.bool x_e.Den.Neg), v_j], 26), (g_c, [(.bool x_m.Num.Neg), v_q, (.bool x_m.Den.Neg), v_r], 26)] x, ⟨Stp.refl _ _, (OwnK.cons (hp.own 1 _ _ _ rfl).1 (OwnK.cons (hp.own 0 _ _ _ rfl).1 OwnK.nil))⟩, fun x hx => ⟨hz.held hx.1, hx.2⟩, ?_⟩
  have hz := Stp.refl I_15 w_14
  obtain ⟨x_18, q_19, h⟩ := bind_some h
  refine ev_call rfl rfl C46 (((integer_Cmp_ok n) _ _  x_w v_10 r_11 x_12 v_16 r_17 hp.imm _ q_19).mono ?_)
  rintro _ w_1a ⟨rfl, hc⟩
  have hs := hp.stp hc
  replace hp := hp.ext hc
  replace hz := hz.trans hs
  replace r_s := r_s.step hs
  replace r_t := r_t.step hs
  replace r_k := r_k.step hs
  replace r_l := r_l.step hs
  refine ⟨fun x => Stp I_15 w_1a I_15 x ∧ OwnK [(g_a, [(.bool x_e.Num.Neg), v_i, (.bool x_e.Den.Neg), v_j], 26), (g_c, [(.bool x_m.Num.Neg), v_q, (.bool x_m.Den.Neg), v_r], 26)] x, ⟨Stp.refl _ _, (OwnK.cons (hp.own 1 _ _ _ rfl).1 (OwnK.cons (hp.own 0 _ _ _ rfl).1 OwnK.nil))⟩, fun x hx => ⟨hz.held hx.1, hx.2⟩, ?_⟩
  have hz := Stp.refl I_15 w_1a
  apply go
  obtain rfl := Option.some.inj h
  exact ⟨rfl, hp.ch⟩

end Go.Proofs.YtepadjfmcbjkmaaGreatDoor

namespace Go.Proofs.YtepadjfmcbjkmaaGreatDoor
open Go Go.Proofs.YtepadjfmcbjkmaaGreatDoor.Gw Go.RowKit
set_option linter.unusedVariables false
attribute [local irreducible] Ev EvQ EvS EvH
def stringslite_IndexByte_S (f : ByteArray → Int → Option Int) : Prop := ∀ (w0 : World) (I0 : Nat → Prop) (x_0 : ByteArray) (x_1 : Int) (hI : ∀ g, I0 g → g < w0.heap.size) (r : Int), f x_0 x_1 = some r →
    Ret Tryz.prog 134 #[(.string x_0), (.int .u8 x_1)] w0 fun v w1 => v = (.int .i64 r) ∧ Ch [] w0 w1

theorem stringslite_IndexByte_ok (n : Nat) : stringslite_IndexByte_S (stringslite_IndexByte n) := by
  intro w0 I0 s c hI r h
  obtain rfl := Option.some.inj h
  exact ret_same (Any.stringslite_IndexByte { sh_lays137 with } s c w0)

end Go.Proofs.YtepadjfmcbjkmaaGreatDoor

namespace Go.Proofs.YtepadjfmcbjkmaaGreatDoor
open Go Go.Proofs.YtepadjfmcbjkmaaGreatDoor.Gw Go.RowKit
set_option linter.unusedVariables false
attribute [local irreducible] Ev EvQ EvS EvH
def stringslite_Index_S (f : ByteArray → ByteArray → Option Int) : Prop := ∀ (w0 : World) (I0 : Nat → Prop) (x_0 : ByteArray) (x_1 : ByteArray) (hI : ∀ g, I0 g → g < w0.heap.size) (r : Int), f x_0 x_1 = some r →
    Ret Tryz.prog 113 #[(.string x_0), (.string x_1)] w0 fun v w1 => v = (.int .i64 r) ∧ Ch [] w0 w1
theorem stringslite_Index_ok (n : Nat) : stringslite_Index_S (stringslite_Index n) := by
  intro w0 I0 x_0 x_1 hI r h
  unfold stringslite_Index at h
  refine enter Tryz.func113 rfl (Nat.le_of_ble_eq_true rfl) ?_
  have hp : Hp ⟨w0, I0, []⟩ I0 [] w0 := Hp.start hI
  apply go
  apply go
  apply go
  apply go
  refine ev0 (rn_lenS rfl rfl Tryz.underlying9) ?_
  apply go
  apply go
  obtain ⟨y_2, q_3, h⟩ := bind_some h
  refine W.cut (γ := Bool) (fun g => [(0, (.string x_0)), (1, (.string x_1)), (5, (.int .i64 (x_1.size : Int))), (16, (.bool (g)))]) (fun g w' => y_2 = (g) ∧ w0 = w') ?_ ?_
  ·
    apply go
    refine sel_of (fun hc => ?_) (fun hc => ?_)
    ·
      have q_3 := cond_t q_3 hc
      obtain rfl := Option.some.inj q_3
      exact ⟨true, (.c rfl (.c rfl (.c rfl (.c rfl .n)))), rfl, rfl⟩
    ·
      have q_3 := cond_f q_3 hc
      obtain rfl := Option.some.inj q_3
      exact ⟨(x_1.toList == x_0.toList), (.c rfl (.c rfl (.c rfl (.c rfl .n)))), rfl, rfl⟩
  ·
    rintro x_4 _ ⟨hy, rfl⟩
    replace hy := hy.symm
    subst hy
    apply go
    refine sel_of (fun hc => ?_) (fun hc => ?_)
    ·
      have h := cond_t h hc
      apply go
      apply go
      apply go
      obtain rfl := Option.some.inj h
      exact ⟨rfl, hp.ch⟩
    ·
      have h := cond_f h hc
      apply go
      apply go
      apply go
      refine sel_of (fun hc => ?_) (fun hc => ?_)
      ·
        have h := cond_t h hc
        apply go
        apply go
        obtain ⟨x_5, q_6, h⟩ := bind_some h
        refine ev0 (rn_indexS rfl rfl rfl Tryz.underlying9 q_6) ?_
        obtain ⟨x_7, q_8, h⟩ := bind_some h
        refine ev_call rfl rfl C134 (((stringslite_IndexByte_ok n) _ _  x_0 x_5 hp.imm _ q_8).mono ?_)
        rintro _ w_9 ⟨rfl, hc⟩
        have hs := hp.stp hc
        replace hp := hp.ext hc
        apply go
        obtain rfl := Option.some.inj h
        exact ⟨rfl, hp.ch⟩
      ·
        have h := cond_f h hc
        apply go
        apply go
        refine ev0 (rn_lenS rfl rfl Tryz.underlying9) ?_
        apply go
        refine sel_of (fun hc => ?_) (fun hc => ?_)
        ·
          have h := cond_t h hc
          apply go
          apply go
          apply go
          obtain rfl := Option.some.inj h
          exact ⟨rfl, hp.ch⟩
        ·
          have h := cond_f h hc
          apply go
          cases h

end Go.Proofs.YtepadjfmcbjkmaaGreatDoor

namespace Go.Proofs.YtepadjfmcbjkmaaGreatDoor
open Go Go.Proofs.YtepadjfmcbjkmaaGreatDoor.Gw Go.RowKit
set_option linter.unusedVariables false
attribute [local irreducible] Ev EvQ EvS EvH
def stringslite_Cut_S (f : ByteArray → ByteArray → Option (ByteArray × ByteArray × Bool)) : Prop := ∀ (w0 : World) (I0 : Nat → Prop) (x_0 : ByteArray) (x_1 : ByteArray) (hI : ∀ g, I0 g → g < w0.heap.size) (r : (ByteArray × ByteArray × Bool)), f x_0 x_1 = some r →
    Ret Tryz.prog 90 #[(.string x_0), (.string x_1)] w0 fun v w1 => v = (.tuple #[(.string r.1), (.string r.2.1), (.bool r.2.2)]) ∧ Ch [] w0 w1
theorem stringslite_Cut_ok (n : Nat) : stringslite_Cut_S (stringslite_Cut n) := by
  intro w0 I0 x_0 x_1 hI r h
  unfold stringslite_Cut at h
  refine enter Tryz.func90 rfl (Nat.le_of_ble_eq_true rfl) ?_
  have hp : Hp ⟨w0, I0, []⟩ I0 [] w0 := Hp.start hI
  apply go
  apply go
  apply go
  apply go
  apply go
  obtain ⟨x_2, q_3, h⟩ := bind_some h
  refine ev_call rfl rfl C113 (((stringslite_Index_ok n) _ _  x_0 x_1 hp.imm _ q_3).mono ?_)
  rintro _ w_4 ⟨rfl, hc⟩
  have hs := hp.stp hc
  replace hp := hp.ext hc
  apply go
  apply go
  apply go
  refine sel_of (fun hc => ?_) (fun hc => ?_)
  ·
    have h := cond_t h hc
    apply go
    refine W.quiet (fun w' => Ch [] w_4 w') MX (by kernel_rfl) (Ch.drew [] w_4) ?_
    obtain ⟨x_5, q_6, h⟩ := bind_some h
    refine evq0 (rn_sliceStr (kl := .i64) (kh := .i64) rfl rfl rfl rfl Tryz.underlying9 q_6) ?_
    refine evq0 (rn_lenS rfl rfl Tryz.underlying9) ?_
    obtain ⟨x_7, q_8, h⟩ := bind_some h
    refine evq0 (rn_sliceStr (kl := .i64) (kh := .i64) rfl rfl rfl rfl Tryz.underlying9 q_8) ?_
    intro w_9 hc
    have hs := hp.stp hc
    replace hp := hp.ext hc
    apply go
    obtain rfl := Option.some.inj h
    exact ⟨rfl, hp.ch⟩
  ·
    have h := cond_f h hc
    apply go
    apply go
    apply go
    apply go
    obtain rfl := Option.some.inj h
    exact ⟨rfl, hp.ch⟩

end Go.Proofs.YtepadjfmcbjkmaaGreatDoor

namespace Go.Proofs.YtepadjfmcbjkmaaGreatDoor
open Go Go.Proofs.YtepadjfmcbjkmaaGreatDoor.Gw Go.RowKit
set_option linter.unusedVariables false
attribute [local irreducible] Ev EvQ EvS EvH
def strings_Cut_S (f : ByteArray → ByteArray → Option (ByteArray × ByteArray × Bool)) : Prop := ∀ (w0 : World) (I0 : Nat → Prop) (x_0 : ByteArray) (x_1 : ByteArray) (hI : ∀ g, I0 g → g < w0.heap.size) (r : (ByteArray × ByteArray × Bool)), f x_0 x_1 = some r →
    Ret Tryz.prog 66 #[(.string x_0), (.string x_1)] w0 fun v w1 => v = (.tuple #[(.string r.1), (.string r.2.1), (.bool r.2.2)]) ∧ Ch [] w0 w1
theorem strings_Cut_ok (n : Nat) : strings_Cut_S (strings_Cut n) := by
  intro w0 I0 x_0 x_1 hI r h
  unfold strings_Cut at h
  refine enter Tryz.func66 rfl (Nat.le_of_ble_eq_true rfl) ?_
  have hp : Hp ⟨w0, I0, []⟩ I0 [] w0 := Hp.start hI
  apply go
  apply go
  apply go
  apply go
  obtain ⟨⟨x_2, x_3, x_4⟩, q_5, h⟩ := bind_some h
  refine ev_call rfl rfl C90 (((stringslite_Cut_ok n) _ _  x_0 x_1 hp.imm _ q_5).mono ?_)
  rintro _ w_6 ⟨rfl, hc⟩
  have hs := hp.stp hc
  replace hp := hp.ext hc
  apply go
  obtain rfl := Option.some.inj h
  exact ⟨rfl, hp.ch⟩

end Go.Proofs.YtepadjfmcbjkmaaGreatDoor

namespace Go.Proofs.YtepadjfmcbjkmaaGreatDoor
open Go Go.Proofs.YtepadjfmcbjkmaaGreatDoor.Gw Go.RowKit
set_option linter.unusedVariables false
attribute [local irreducible] Ev EvQ EvS EvH
def stringslite_CutPrefix_S (f : ByteArray → ByteArray → Option (ByteArray × Bool)) : Prop := ∀ (w0 : World) (I0 : Nat → Prop) (x_0 : ByteArray) (x_1 : ByteArray) (hI : ∀ g, I0 g → g < w0.heap.size) (r : (ByteArray × Bool)), f x_0 x_1 = some r →
    Ret Tryz.prog 114 #[(.string x_0), (.string x_1)] w0 fun v w1 => v = (.tuple #[(.string r.1), (.bool r.2)]) ∧ Ch [] w0 w1
theorem stringslite_CutPrefix_ok (n : Nat) : stringslite_CutPrefix_S (stringslite_CutPrefix n) := by
  intro w0 I0 x_0 x_1 hI r h
  unfold stringslite_CutPrefix at h
  refine enter Tryz.func114 rfl (Nat.le_of_ble_eq_true rfl) ?_
  have hp : Hp ⟨w0, I0, []⟩ I0 [] w0 := Hp.start hI
  apply go
  apply go
  apply go
  apply go
  apply go
  obtain ⟨x_2, q_3, h⟩ := bind_some h
  refine ev_call rfl rfl C138 (((stringslite_HasPrefix_ok n) _ _  x_0 x_1 hp.imm _ q_3).mono ?_)
  rintro _ w_4 ⟨rfl, hc⟩
  have hs := hp.stp hc
  replace hp := hp.ext hc
  apply go
  refine sel_of (fun hc => ?_) (fun hc => ?_)
  ·
    have h := cond_t h hc
    apply go
    apply go
    apply go
    obtain rfl := Option.some.inj h
    exact ⟨rfl, hp.ch⟩
  ·
    have h := cond_f h hc
    apply go
    apply go
    apply go
    refine ev0 (rn_lenS rfl rfl Tryz.underlying9) ?_
    obtain ⟨x_5, q_6, h⟩ := bind_some h
    refine ev0 (rn_sliceStr (kl := .i64) (kh := .i64) rfl rfl rfl rfl Tryz.underlying9 q_6) ?_
    apply go
    obtain rfl := Option.some.inj h
    exact ⟨rfl, hp.ch⟩

end Go.Proofs.YtepadjfmcbjkmaaGreatDoor

namespace Go.Proofs.YtepadjfmcbjkmaaGreatDoor
open Go Go.Proofs.YtepadjfmcbjkmaaGreatDoor.Gw Go.RowKit
set_option linter.unusedVariables false
attribute [local irreducible] Ev EvQ EvS EvH
def strings_CutPrefix_S (f : ByteArray → ByteArray → Option (ByteArray × Bool)) : Prop := ∀ (w0 : World) (I0 : Nat → Prop) (x_0 : ByteArray) (x_1 : ByteArray) (hI : ∀ g, I0 g → g < w0.heap.size) (r : (ByteArray × Bool)), f x_0 x_1 = some r →
    Ret Tryz.prog 91 #[(.string x_0), (.string x_1)] w0 fun v w1 => v = (.tuple #[(.string r.1), (.bool r.2)]) ∧ Ch [] w0 w1
theorem strings_CutPrefix_ok (n : Nat) : strings_CutPrefix_S (strings_CutPrefix n) := by
  intro w0 I0 x_0 x_1 hI r h
  unfold strings_CutPrefix at h
  refine enter Tryz.func91 rfl (Nat.le_of_ble_eq_true rfl) ?_
  have hp : Hp ⟨w0, I0, []⟩ I0 [] w0 := Hp.start hI
  apply go
  apply go
  apply go
  apply go
  obtain ⟨⟨x_2, x_3⟩, q_4, h⟩ := bind_some h
  refine ev_call rfl rfl C114 (((stringslite_CutPrefix_ok n) _ _  x_0 x_1 hp.imm _ q_4).mono ?_)
  rintro _ w_5 ⟨rfl, hc⟩
  have hs := hp.stp hc
  replace hp := hp.ext hc
  apply go
  obtain rfl := Option.some.inj h
  exact ⟨rfl, hp.ch⟩

end Go.Proofs.YtepadjfmcbjkmaaGreatDoor

namespace Go.Proofs.YtepadjfmcbjkmaaGreatDoor
open Go Go.Proofs.YtepadjfmcbjkmaaGreatDoor.Gw Go.RowKit
set_option linter.unusedVariables false
attribute [local irreducible] Ev EvQ EvS EvH
def strings_makeASCIISet_S (f : ByteArray → Option ((List Bool) × Bool)) : Prop := ∀ (w0 : World) (I0 : Nat → Prop) (x_0 : ByteArray) (hI : ∀ g, I0 g → g < w0.heap.size) (r : ((List Bool) × Bool)), f x_0 = some r →
    Ret Tryz.prog 117 #[(.string x_0)] w0 fun v w1 => ∃ (I1 : Nat → Prop) (u_1 : List Value), v = (.tuple #[(.agg u_1.toArray), (.bool r.2)]) ∧ Hp ⟨w0, I0, []⟩ I1 [] w1 ∧ (dA 256 dB).rep w1 I1 u_1 r.1
theorem strings_makeASCIISet_ok (n : Nat) : strings_makeASCIISet_S (strings_makeASCIISet n) := by
  intro w0 I0 x_0 hI r h
  unfold strings_makeASCIISet at h
  refine enter Tryz.func117 rfl (Nat.le_of_ble_eq_true rfl) ?_
  have hp : Hp ⟨w0, I0, []⟩ I0 [] w0 := Hp.start hI
  apply go
  apply go
  refine ev_allocA (d := (dA 256 dB)) (x0 := (List.replicate 256 false)) hp rfl T104 (fun _ _ => (rep_zero 256 rfl)) ?_
  intro g_1 c_2 w_3 hp hs r_4
  obtain ⟨y_5, q_6, h⟩ := bind_some h
  refine W.cut (γ := ((List Bool) × (List Value))) (fun g => [(2, (.pointer (some ⟨g_1, 0, none⟩)))]) (fun g w' => y_5 = .go (g.1) ∧ Hp ⟨w0, I0, []⟩ I0 [some (g_1, (g.2), 104)] w' ∧ (dA 256 dB).rep w' I0 (g.2) (g.1)) ?_ ?_
  ·
    apply go
    apply go
    apply go
    refine W.loop q_6 (γ := (List Value)) (fun s g => [(0, (.string x_0)), (2, (.pointer (some ⟨g_1, 0, none⟩))), (4, (.int .i64 (s.2)))]) (fun s g w' => Hp ⟨w0, I0, []⟩ I0 [some (g_1, (g), 104)] w' ∧ (dA 256 dB).rep w' I0 (g) (s.1)) c_2 (.c rfl (.c rfl (.c rfl .n))) ⟨hp, r_4⟩ ?_
    rintro ⟨x_7, x_8⟩ c_9 w_a y_b ⟨hp, r_c⟩ q_d q_e
    unfold strings_makeASCIISet_L1 at q_d
    apply go
    apply go
    apply go
    refine ev0 (rn_lenS rfl rfl Tryz.underlying9) ?_
    apply go
    refine sel_of (fun hc => ?_) (fun hc => ?_)
    ·
      have q_d := cond_t q_d hc
      apply go
      apply go
      apply go
      apply go
      apply go
      obtain ⟨x_f, q_g, q_d⟩ := bind_some q_d
      refine ev0 (rn_indexS rfl rfl rfl Tryz.underlying9 q_g) ?_
      apply go
      apply go
      apply go
      apply go
      refine sel_of (fun hc => ?_) (fun hc => ?_)
      ·
        have q_d := cond_t q_d hc
        apply go
        apply go
        refine ev (rn_load rfl rfl (run_loadVarA T104 (Desc.len _ r_c) (hp.at_ (i := 0) rfl))) ?_
        have r_h := r_c
        refine ev_storeW (d := (dA 256 dB)) hp (i := 0) rfl rfl rfl rfl T104 rfl r_c r_h ?_
        intro w_i hp hs r_j
        apply go
        have q_k := congrArg some (q_e _ (Option.some.inj q_d).symm)
        obtain rfl := Option.some.inj q_k
        obtain rfl := Option.some.inj h
        refine ⟨_, run_loadVarA T104 (Desc.len _ r_j) (hp.at_ (i := 0) rfl), ?_⟩
        have hp := hp.sel [] (by decide)
        exact ⟨I0, c_9, rfl, hp, r_j⟩
      ·
        have q_d := cond_f q_d hc
        apply go
        apply go
        obtain ⟨x_l, q_m, q_d⟩ := bind_some q_d
        refine ev_indexA rfl rfl rfl Tryz.underlying104 T4 (SubA.top r_c) q_m ?_
        refine ev_store1A hp (i := 0) rfl rfl rfl rfl T4 rfl ((SubA.top r_c).el q_m).1 ?_
        intro c_n w_o q_p hp hs
        have r_q : ((dA 256 dB)).rep w_o I0 c_n (upd x_7 x_f true) := by subst q_p; exact PutA.rep (Desc.len _ r_c) (PutA.up (SubA.top (r_c.step hs)) q_m (PutA.leaf ((SubA.top r_c).el q_m).1 rfl rfl))
        clear q_p
        apply go
        exact ⟨_, (Option.some.inj q_d).symm, c_n, (.c rfl (.c rfl (.c rfl .n))), ⟨hp, r_q⟩⟩
    ·
      have q_d := cond_f q_d hc
      apply go
      have q_r := congrArg some (q_e _ (Option.some.inj q_d).symm)
      obtain rfl := Option.some.inj q_r
      exact ⟨(x_7, c_9), (.c rfl .n), rfl, hp, r_c⟩
  ·
    rintro ⟨x_s, c_t⟩ w_u ⟨hy, hp, r_v⟩
    replace hy := hy.symm
    subst hy
    apply go
    apply go
    refine ev (rn_load rfl rfl (run_loadVarA T104 (Desc.len _ r_v) (hp.at_ (i := 0) rfl))) ?_
    have r_w := r_v
    refine ev_storeW (d := (dA 256 dB)) hp (i := 0) rfl rfl rfl rfl T104 rfl r_v r_w ?_
    intro w_x hp hs r_y
    apply go
    obtain rfl := Option.some.inj h
    refine ⟨_, run_loadVarA T104 (Desc.len _ r_y) (hp.at_ (i := 0) rfl), ?_⟩
    have hp := hp.sel [] (by decide)
    exact ⟨I0, c_t, rfl, hp, r_y⟩

end Go.Proofs.YtepadjfmcbjkmaaGreatDoor

namespace Go.Proofs.YtepadjfmcbjkmaaGreatDoor
open Go Go.Proofs.YtepadjfmcbjkmaaGreatDoor.Gw Go.RowKit
set_option linter.unusedVariables false
attribute [local irreducible] Ev EvQ EvS EvH
def strings_asciiSet_contains_S (f : (List Bool) → Int → Option (Bool × (List Bool))) : Prop := ∀ (w0 : World) (I0 : Nat → Prop) (x_0 : (List Bool)) (g_1 : Nat) (c_2 : List Value) (r_3 : (dA 256 dB).rep w0 I0 c_2 x_0) (x_4 : Int) (hp : Hp ⟨w0, I0, [g_1]⟩ I0 [some (g_1, c_2, 104)] w0) (r : (Bool × (List Bool))), f x_0 x_4 = some r →
    Ret Tryz.prog 139 #[(.pointer (some ⟨g_1, 0, none⟩)), (.int .u8 x_4)] w0 fun v w1 => ∃ (I1 : Nat → Prop) (u_5 : List Value), v = (.bool r.1) ∧ Hp ⟨w0, I0, [g_1]⟩ I1 [some (g_1, u_5, 104)] w1 ∧ (dA 256 dB).rep w1 I1 u_5 r.2
theorem strings_asciiSet_contains_ok (n : Nat) : strings_asciiSet_contains_S (strings_asciiSet_contains n) := by
  intro w0 I0 x_0 g_1 c_2 r_3 x_4 hp r h
  unfold strings_asciiSet_contains at h
  refine enter Tryz.func139 rfl (Nat.le_of_ble_eq_true rfl) ?_
  apply go
  apply go
  apply go
  apply go
  obtain ⟨x_5, q_6, h⟩ := bind_some h
  refine ev_indexA rfl rfl rfl Tryz.underlying104 T4 (SubA.top r_3) q_6 ?_
  refine ev (rn_load rfl rfl (run_loadVar1 T4 (hp.cell (i := 0) rfl ((SubA.top r_3).el q_6).bool))) ?_
  apply go
  obtain rfl := Option.some.inj h
  exact ⟨I0, c_2, rfl, hp, r_3⟩

end Go.Proofs.YtepadjfmcbjkmaaGreatDoor

namespace Go.Proofs.YtepadjfmcbjkmaaGreatDoor
open Go Go.Proofs.YtepadjfmcbjkmaaGreatDoor.Gw Go.RowKit
set_option linter.unusedVariables false
attribute [local irreducible] Ev EvQ EvS EvH
def strings_trimLeftASCII_S (f : ByteArray → (List Bool) → Option (ByteArray × (List Bool))) : Prop := ∀ (w0 : World) (I0 : Nat → Prop) (x_0 : ByteArray) (x_1 : (List Bool)) (g_2 : Nat) (c_3 : List Value) (r_4 : (dA 256 dB).rep w0 I0 c_3 x_1) (hp : Hp ⟨w0, I0, [g_2]⟩ I0 [some (g_2, c_3, 104)] w0) (r : (ByteArray × (List Bool))), f x_0 x_1 = some r →
    Ret Tryz.prog 118 #[(.string x_0), (.pointer (some ⟨g_2, 0, none⟩))] w0 fun v w1 => ∃ (I1 : Nat → Prop) (u_5 : List Value), v = (.string r.1) ∧ Hp ⟨w0, I0, [g_2]⟩ I1 [some (g_2, u_5, 104)] w1 ∧ (dA 256 dB).rep w1 I1 u_5 r.2
theorem strings_trimLeftASCII_ok (n : Nat) : strings_trimLeftASCII_S (strings_trimLeftASCII n) := by
  intro w0 I0 x_0 x_1 g_2 c_3 r_4 hp r h
  unfold strings_trimLeftASCII at h
  refine enter Tryz.func118 rfl (Nat.le_of_ble_eq_true rfl) ?_
  apply go
  apply go
  obtain ⟨y_5, q_6, h⟩ := bind_some h
  refine W.cut (γ := (ByteArray × (List Bool) × (List Value) × (Nat → Prop))) (fun g => [(0, (.string (g.1)))]) (fun g w' => y_5 = ((g.1), (g.2.1)) ∧ Hp ⟨w0, I0, [g_2]⟩ (g.2.2.2) [some (g_2, (g.2.2.1), 104)] w' ∧ (dA 256 dB).rep w' (g.2.2.2) (g.2.2.1) (g.2.1)) ?_ ?_
  ·
    apply go
    refine W.loop q_6 (γ := ((List Value) × (Nat → Prop))) (fun s g => [(0, (.string (s.1))), (1, (.pointer (some ⟨g_2, 0, none⟩)))]) (fun s g w' => Hp ⟨w0, I0, [g_2]⟩ (g.2) [some (g_2, (g.1), 104)] w' ∧ (dA 256 dB).rep w' (g.2) (g.1) (s.2)) (c_3, I0) (.c rfl (.c rfl .n)) ⟨hp, r_4⟩ ?_
    rintro ⟨x_7, x_8⟩ ⟨c_9, I_a⟩ w_b y_c ⟨hp, r_d⟩ q_e q_f
    unfold strings_trimLeftASCII_L1 at q_e
    apply go
    apply go
    apply go
    refine ev0 (rn_lenS rfl rfl Tryz.underlying9) ?_
    apply go
    refine sel_of (fun hc => ?_) (fun hc => ?_)
    ·
      have q_e := cond_t q_e hc
      apply go
      apply go
      apply go
      apply go
      apply go
      obtain ⟨x_g, q_h, q_e⟩ := bind_some q_e
      refine ev0 (rn_indexS rfl rfl rfl Tryz.underlying9 q_h) ?_
      obtain ⟨⟨x_i, x_j⟩, q_k, q_e⟩ := bind_some q_e
      refine ev_call rfl rfl C139 (((strings_asciiSet_contains_ok n) _ _  x_8 g_2 c_9 r_d x_g (hp.lend (i := 0) rfl) _ q_k).mono ?_)
      rintro _ w_l ⟨I_m, c_n, hv, hq, r_o⟩
      replace hv := hv.symm
      subst hv
      have hs := hq.st
      have hp := hp.back (i := 0) rfl hq
      apply go
      refine sel_of (fun hc => ?_) (fun hc => ?_)
      ·
        have q_e := cond_t q_e hc
        apply go
        have q_p := congrArg some (q_f _ (Option.some.inj q_e).symm)
        obtain rfl := Option.some.inj q_p
        exact ⟨(x_7, x_j, c_n, I_m), (.c rfl .n), rfl, hp, r_o⟩
      ·
        have q_e := cond_f q_e hc
        apply go
        apply go
        obtain ⟨x_q, q_r, q_e⟩ := bind_some q_e
        refine ev0 (rn_sliceStr (kl := .i64) (kh := .i64) rfl rfl rfl rfl Tryz.underlying9 q_r) ?_
        exact ⟨_, (Option.some.inj q_e).symm, (c_n, I_m), (.c rfl (.c rfl .n)), ⟨hp, r_o⟩⟩
    ·
      have q_e := cond_f q_e hc
      apply go
      have q_s := congrArg some (q_f _ (Option.some.inj q_e).symm)
      obtain rfl := Option.some.inj q_s
      exact ⟨(x_7, x_8, c_9, I_a), (.c rfl .n), rfl, hp, r_d⟩
  ·
    rintro ⟨x_t, x_u, c_v, I_w⟩ w_x ⟨hy, hp, r_y⟩
    replace hy := hy.symm
    subst hy
    apply go
    apply go
    apply go
    obtain rfl := Option.some.inj h
    exact ⟨I_w, c_v, rfl, hp, r_y⟩

end Go.Proofs.YtepadjfmcbjkmaaGreatDoor

namespace Go.Proofs.YtepadjfmcbjkmaaGreatDoor
open Go Go.Proofs.YtepadjfmcbjkmaaGreatDoor.Gw Go.RowKit
set_option linter.unusedVariables false
attribute [local irreducible] Ev EvQ EvS EvH
def strings_trimRightASCII_S (f : ByteArray → (List Bool) → Option (ByteArray × (List Bool))) : Prop := ∀ (w0 : World) (I0 : Nat → Prop) (x_0 : ByteArray) (x_1 : (List Bool)) (g_2 : Nat) (c_3 : List Value) (r_4 : (dA 256 dB).rep w0 I0 c_3 x_1) (hp : Hp ⟨w0, I0, [g_2]⟩ I0 [some (g_2, c_3, 104)] w0) (r : (ByteArray × (List Bool))), f x_0 x_1 = some r →
    Ret Tryz.prog 119 #[(.string x_0), (.pointer (some ⟨g_2, 0, none⟩))] w0 fun v w1 => ∃ (I1 : Nat → Prop) (u_5 : List Value), v = (.string r.1) ∧ Hp ⟨w0, I0, [g_2]⟩ I1 [some (g_2, u_5, 104)] w1 ∧ (dA 256 dB).rep w1 I1 u_5 r.2
theorem strings_trimRightASCII_ok (n : Nat) : strings_trimRightASCII_S (strings_trimRightASCII n) := by
  intro w0 I0 x_0 x_1 g_2 c_3 r_4 hp r h
  unfold strings_trimRightASCII at h
  refine enter Tryz.func119 rfl (Nat.le_of_ble_eq_true rfl) ?_
  apply go
  apply go
  obtain ⟨y_5, q_6, h⟩ := bind_some h
  refine W.cut (γ := (ByteArray × (List Bool) × (List Value) × (Nat → Prop))) (fun g => [(0, (.string (g.1)))]) (fun g w' => y_5 = ((g.1), (g.2.1)) ∧ Hp ⟨w0, I0, [g_2]⟩ (g.2.2.2) [some (g_2, (g.2.2.1), 104)] w' ∧ (dA 256 dB).rep w' (g.2.2.2) (g.2.2.1) (g.2.1)) ?_ ?_
  ·
    apply go
    refine W.loop q_6 (γ := ((List Value) × (Nat → Prop))) (fun s g => [(0, (.string (s.1))), (1, (.pointer (some ⟨g_2, 0, none⟩)))]) (fun s g w' => Hp ⟨w0, I0, [g_2]⟩ (g.2) [some (g_2, (g.1), 104)] w' ∧ (dA 256 dB).rep w' (g.2) (g.1) (s.2)) (c_3, I0) (.c rfl (.c rfl .n)) ⟨hp, r_4⟩ ?_
    rintro ⟨x_7, x_8⟩ ⟨c_9, I_a⟩ w_b y_c ⟨hp, r_d⟩ q_e q_f
    unfold strings_trimRightASCII_L1 at q_e
    apply go
    apply go
    apply go
    refine ev0 (rn_lenS rfl rfl Tryz.underlying9) ?_
    apply go
    refine sel_of (fun hc => ?_) (fun hc => ?_)
    ·
      have q_e := cond_t q_e hc
      apply go
      apply go
      apply go
      apply go
      apply go
      refine ev0 (rn_lenS rfl rfl Tryz.underlying9) ?_
      obtain ⟨x_g, q_h, q_e⟩ := bind_some q_e
      refine ev0 (rn_indexS rfl rfl rfl Tryz.underlying9 q_h) ?_
      obtain ⟨⟨x_i, x_j⟩, q_k, q_e⟩ := bind_some q_e
      refine ev_call rfl rfl C139 (((strings_asciiSet_contains_ok n) _ _  x_8 g_2 c_9 r_d x_g (hp.lend (i := 0) rfl) _ q_k).mono ?_)
      rintro _ w_l ⟨I_m, c_n, hv, hq, r_o⟩
      replace hv := hv.symm
      subst hv
      have hs := hq.st
      have hp := hp.back (i := 0) rfl hq
      apply go
      refine sel_of (fun hc => ?_) (fun hc => ?_)
      ·
        have q_e := cond_t q_e hc
        apply go
        have q_p := congrArg some (q_f _ (Option.some.inj q_e).symm)
        obtain rfl := Option.some.inj q_p
        exact ⟨(x_7, x_j, c_n, I_m), (.c rfl .n), rfl, hp, r_o⟩
      ·
        have q_e := cond_f q_e hc
        apply go
        apply go
        refine ev0 (rn_lenS rfl rfl Tryz.underlying9) ?_
        obtain ⟨x_q, q_r, q_e⟩ := bind_some q_e
        refine ev0 (rn_sliceStr (kl := .i64) (kh := .i64) rfl rfl rfl rfl Tryz.underlying9 q_r) ?_
        exact ⟨_, (Option.some.inj q_e).symm, (c_n, I_m), (.c rfl (.c rfl .n)), ⟨hp, r_o⟩⟩
    ·
      have q_e := cond_f q_e hc
      apply go
      have q_s := congrArg some (q_f _ (Option.some.inj q_e).symm)
      obtain rfl := Option.some.inj q_s
      exact ⟨(x_7, x_8, c_9, I_a), (.c rfl .n), rfl, hp, r_d⟩
  ·
    rintro ⟨x_t, x_u, c_v, I_w⟩ w_x ⟨hy, hp, r_y⟩
    replace hy := hy.symm
    subst hy
    apply go
    apply go
    apply go
    obtain rfl := Option.some.inj h
    exact ⟨I_w, c_v, rfl, hp, r_y⟩

end Go.Proofs.YtepadjfmcbjkmaaGreatDoor

namespace Go.Proofs.YtepadjfmcbjkmaaGreatDoor
open Go Go.Proofs.YtepadjfmcbjkmaaGreatDoor.Gw Go.RowKit
set_option linter.unusedVariables false
attribute [local irreducible] Ev EvQ EvS EvH
def strings_Trim_S (f : ByteArray → ByteArray → Option ByteArray) : Prop := ∀ (w0 : World) (I0 : Nat → Prop) (x_0 : ByteArray) (x_1 : ByteArray) (hI : ∀ g, I0 g → g < w0.heap.size) (r : ByteArray), f x_0 x_1 = some r →
    Ret Tryz.prog 92 #[(.string x_0), (.string x_1)] w0 fun v w1 => v = (.string r) ∧ Ch [] w0 w1
theorem strings_Trim_ok (n : Nat) : strings_Trim_S (strings_Trim n) := by
  intro w0 I0 x_0 x_1 hI r h
  unfold strings_Trim at h
  refine enter Tryz.func92 rfl (Nat.le_of_ble_eq_true rfl) ?_
  have hp : Hp ⟨w0, I0, []⟩ I0 [] w0 := Hp.start hI
  apply go
  apply go
  apply go
  obtain ⟨y_2, q_3, h⟩ := bind_some h
  refine W.cut (γ := Bool) (fun g => [(0, (.string x_0)), (1, (.string x_1)), (12, (.bool (g)))]) (fun g w' => y_2 = (g) ∧ w0 = w') ?_ ?_
  ·
    apply go
    refine sel_of (fun hc => ?_) (fun hc => ?_)
    ·
      have q_3 := cond_t q_3 hc
      obtain rfl := Option.some.inj q_3
      exact ⟨true, (.c rfl (.c rfl (.c rfl .n))), rfl, rfl⟩
    ·
      have q_3 := cond_f q_3 hc
      obtain rfl := Option.some.inj q_3
      exact ⟨(x_1.toList == (ByteArray.mk #[]).toList), (.c rfl (.c rfl (.c rfl .n))), rfl, rfl⟩
  ·
    rintro x_4 _ ⟨hy, rfl⟩
    replace hy := hy.symm
    subst hy
    apply go
    refine sel_of (fun hc => ?_) (fun hc => ?_)
    ·
      have h := cond_t h hc
      apply go
      apply go
      apply go
      obtain rfl := Option.some.inj h
      exact ⟨rfl, hp.ch⟩
    ·
      have h := cond_f h hc
      apply go
      apply go
      obtain ⟨y_5, q_6, h⟩ := bind_some h
      refine W.cut (γ := Bool) (fun g => [(0, (.string x_0)), (1, (.string x_1)), (21, (.bool (g)))]) (fun g w' => y_5 = (g) ∧ w0 = w') ?_ ?_
      ·
        apply go
        refine ev0 (rn_lenS rfl rfl Tryz.underlying9) ?_
        refine sel_of (fun hc => ?_) (fun hc => ?_)
        ·
          have q_6 := cond_t q_6 hc
          obtain ⟨x_7, q_8, q_6⟩ := bind_some q_6
          refine ev0 (rn_indexS rfl rfl rfl Tryz.underlying9 q_8) ?_
          obtain rfl := Option.some.inj q_6
          exact ⟨(decide (x_7 < 128)), (.c rfl (.c rfl (.c rfl .n))), rfl, rfl⟩
        ·
          have q_6 := cond_f q_6 hc
          obtain rfl := Option.some.inj q_6
          exact ⟨false, (.c rfl (.c rfl (.c rfl .n))), rfl, rfl⟩
      ·
        rintro x_9 _ ⟨hy, rfl⟩
        replace hy := hy.symm
        subst hy
        apply go
        refine sel_of (fun hc => ?_) (fun hc => ?_)
        ·
          have h := cond_t h hc
          apply go
          cases h
        ·
          have h := cond_f h hc
          apply go
          apply go
          apply go
          apply go
          obtain ⟨⟨x_a, x_b⟩, q_c, h⟩ := bind_some h
          refine ev_call rfl rfl C117 (((strings_makeASCIISet_ok n) _ _  x_1 hp.imm _ q_c).mono ?_)
          rintro _ w_d ⟨I_e, v_f, hv, hq, r_g⟩
          replace hv := hv.symm
          subst hv
          have hs := hq.st
          have hp := hp.join0 hq
          refine ev_allocA (d := (dA 256 dB)) (x0 := (List.replicate 256 false)) hp rfl T104 (fun _ _ => (rep_zero 256 rfl)) ?_
          intro g_h c_i w_j hp hs r_k
          replace r_g := r_g.step hs
          refine ev_storeW (d := (dA 256 dB)) hp (i := 0) rfl rfl rfl rfl T104 rfl r_k r_g ?_
          intro w_l hp hs r_m
          apply go
          apply go
          apply go
          refine sel_of (fun hc => ?_) (fun hc => ?_)
          ·
            have h := cond_t h hc
            apply go
            apply go
            obtain ⟨⟨x_n, x_o⟩, q_p, h⟩ := bind_some h
            refine ev_call rfl rfl C119 (((strings_trimRightASCII_ok n) _ _  x_0 x_a g_h v_f r_m (hp.lend (i := 0) rfl) _ q_p).mono ?_)
            rintro _ w_q ⟨I_r, c_s, hv, hq, r_t⟩
            replace hv := hv.symm
            subst hv
            have hs := hq.st
            have hp := hp.back (i := 0) rfl hq
            obtain ⟨⟨x_u, x_v⟩, q_w, h⟩ := bind_some h
            refine ev_call rfl rfl C118 (((strings_trimLeftASCII_ok n) _ _  x_n x_o g_h c_s r_t (hp.lend (i := 0) rfl) _ q_w).mono ?_)
            rintro _ w_x ⟨I_y, c_z, hv, hq, r_10⟩
            replace hv := hv.symm
            subst hv
            have hs := hq.st
            have hp := hp.back (i := 0) rfl hq
            apply go
            obtain rfl := Option.some.inj h
            exact ⟨rfl, hp.ch⟩
          ·
            have h := cond_f h hc
            apply go
            apply go
            apply go
            cases h

end Go.Proofs.YtepadjfmcbjkmaaGreatDoor

namespace Go.Proofs.YtepadjfmcbjkmaaGreatDoor
open Go Go.Proofs.YtepadjfmcbjkmaaGreatDoor.Gw Go.RowKit
set_option linter.unusedVariables false
attribute [local irreducible] Ev EvQ EvS EvH
def strconv_ParseUint_S (f : ByteArray → Int → Int → Option (Int × Unit)) : Prop := ∀ (w0 : World) (I0 : Nat → Prop) (tb : Tb w0 I0 4 .u64 pow10) (x_0 : ByteArray) (x_1 : Int) (x_2 : Int) (hI : ∀ g, I0 g → g < w0.heap.size) (r : (Int × Unit)), f x_0 x_1 x_2 = some r →
    Ret Tryz.prog 93 #[(.string x_0), (.int .i64 x_1), (.int .i64 x_2)] w0 fun v w1 => v = (.tuple #[(.int .u64 r.1), .nilIface]) ∧ Ch [] w0 w1

theorem strconv_ParseUint_ok (n : Nat) : strconv_ParseUint_S (strconv_ParseUint n) := by
  intro w0 I0 tb s b k hI r h
  obtain ⟨rfl, rfl, hs, u, hu, rfl⟩ := parU_some h
  apply ret_below
  refine Calls.mono (sh_strconv_ParseUint_10_at32_ok s (by omega) u hu w0) ?_
  rintro e w' ⟨he, hw | hw⟩
  · exact ⟨he, hw ▸ Below.refl _ _⟩
  · exact ⟨he, hw ▸ Lib.bytesWorld_below _ _ _⟩

end Go.Proofs.YtepadjfmcbjkmaaGreatDoor

namespace Go.Proofs.YtepadjfmcbjkmaaGreatDoor
open Go Go.Proofs.YtepadjfmcbjkmaaGreatDoor.Gw Go.RowKit
set_option linter.unusedVariables false
attribute [local irreducible] Ev EvQ EvS EvH
def integer_Parse_S (f : ByteArray → Option (Int_2 × Int)) : Prop := ∀ (w0 : World) (I0 : Nat → Prop) (tb : Tb w0 I0 4 .u64 pow10) (x_0 : ByteArray) (hI : ∀ g, I0 g → g < w0.heap.size) (r : (Int_2 × Int)), f x_0 = some r →
    Ret Tryz.prog 67 #[(.string x_0)] w0 fun v w1 => ∃ (I1 : Nat → Prop) (u_1 : Value), v = (.tuple #[(.agg #[(.bool r.1.Neg), u_1]), (.int .i64 r.2)]) ∧ Hp ⟨w0, I0, []⟩ I1 [] w1 ∧ RepS (dI .u32) w1 I1 u_1 r.1.Mag
theorem integer_Parse_ok (n : Nat) : integer_Parse_S (integer_Parse n) := by
  intro w0 I0 tb x_0 hI r h
  unfold integer_Parse at h
  refine enter Tryz.func67 rfl (Nat.le_of_ble_eq_true rfl) ?_
  have hp : Hp ⟨w0, I0, []⟩ I0 [] w0 := Hp.start hI
  apply go
  apply go
  refine ev_alloc hp rfl T24 ?_
  intro g_1 w_2 hp hs
  replace tb := tb.step hs
  apply go
  apply go
  apply go
  refine ev0 (rn_lenS rfl rfl Tryz.underlying9) ?_
  apply go
  refine sel_of (fun hc => ?_) (fun hc => ?_)
  ·
    have h := cond_t h hc
    apply go
    apply go
    refine ev0 (fun w => rn_build (cs := [(.bool false), (.slice none 0 0)]) rfl rfl T24 PL24 rfl) ?_
    refine ev_storeA hp (i := 0) (off := 0) (vs := [(.bool false), (.slice none 0 0)]) rfl rfl rfl rfl T24 rfl (Nat.le_of_ble_eq_true rfl) (ones_of rfl) ?_
    intro w_3 hp hs
    replace tb := tb.step hs
    apply go
    obtain rfl := Option.some.inj h
    refine ⟨_, run_loadVarA T24 rfl (hp.at_ (i := 0) rfl), ?_⟩
    have hp := hp.sel [] (by decide)
    exact ⟨I0, .slice none 0 0, rfl, hp, RepS.nil _ _ _⟩
  ·
    have h := cond_f h hc
    apply go
    apply go
    apply go
    obtain ⟨⟨x_4, x_5⟩, q_6, h⟩ := bind_some h
    refine ev_call rfl rfl C91 (((strings_CutPrefix_ok n) _ _  x_0 (ByteArray.mk #[45]) hp.imm _ q_6).mono ?_)
    rintro _ w_7 ⟨rfl, hc⟩
    have hs := hp.stp hc
    replace hp := hp.ext hc
    replace tb := tb.step hs
    apply go
    obtain ⟨y_8, q_9, h⟩ := bind_some h
    refine W.cut (γ := Bool) (fun g => [(2, (.pointer (some ⟨g_1, 0, none⟩))), (4, (.string x_4)), (5, (.bool x_5)), (34, (.bool (g)))]) (fun g w' => y_8 = (g) ∧ Hp ⟨w0, I0, []⟩ I0 [some (g_1, [(.bool false), (.slice none 0 0)], 24)] w' ∧ Tb w' I0 4 .u64 pow10) ?_ ?_
    ·
      apply go
      refine sel_of (fun hc => ?_) (fun hc => ?_)
      ·
        have q_9 := cond_t q_9 hc
        obtain rfl := Option.some.inj q_9
        exact ⟨true, (.c rfl (.c rfl (.c rfl (.c rfl .n)))), rfl, hp, tb⟩
      ·
        have q_9 := cond_f q_9 hc
        obtain ⟨x_a, q_b, q_9⟩ := bind_some q_9
        refine ev0 (rn_indexS rfl rfl rfl Tryz.underlying9 q_b) ?_
        refine sel_of (fun hc => ?_) (fun hc => ?_)
        ·
          have q_9 := cond_t q_9 hc
          refine sel_of (fun hc => ?_) (fun hc => ?_)
          ·
            have q_9 := cond_t q_9 hc
            obtain rfl := Option.some.inj q_9
            exact ⟨true, (.c rfl (.c rfl (.c rfl (.c rfl .n)))), rfl, hp, tb⟩
          ·
            have q_9 := cond_f q_9 hc
            obtain ⟨x_c, q_d, q_9⟩ := bind_some q_9
            refine ev_call rfl rfl C92 (((strings_Trim_ok n) _ _  x_4 (ByteArray.mk #[48, 49, 50, 51, 52, 53, 54, 55, 56, 57]) hp.imm _ q_d).mono ?_)
            rintro _ w_e ⟨rfl, hc⟩
            have hs := hp.stp hc
            replace hp := hp.ext hc
            replace tb := tb.step hs
            obtain rfl := Option.some.inj q_9
            exact ⟨(!(x_c.toList == (ByteArray.mk #[]).toList)), (.c rfl (.c rfl (.c rfl (.c rfl .n)))), rfl, hp, tb⟩
        ·
          have q_9 := cond_f q_9 hc
          obtain ⟨x_f, q_g, q_9⟩ := bind_some q_9
          refine ev_call rfl rfl C92 (((strings_Trim_ok n) _ _  x_4 (ByteArray.mk #[48, 49, 50, 51, 52, 53, 54, 55, 56, 57]) hp.imm _ q_g).mono ?_)
          rintro _ w_h ⟨rfl, hc⟩
          have hs := hp.stp hc
          replace hp := hp.ext hc
          replace tb := tb.step hs
          obtain rfl := Option.some.inj q_9
          exact ⟨(!(x_f.toList == (ByteArray.mk #[]).toList)), (.c rfl (.c rfl (.c rfl (.c rfl .n)))), rfl, hp, tb⟩
    ·
      rintro x_i w_j ⟨hy, hp, tb⟩
      replace hy := hy.symm
      subst hy
      apply go
      refine sel_of (fun hc => ?_) (fun hc => ?_)
      ·
        have h := cond_t h hc
        apply go
        apply go
        refine ev0 (fun w => rn_build (cs := [(.bool false), (.slice none 0 0)]) rfl rfl T24 PL24 rfl) ?_
        refine ev_storeA hp (i := 0) (off := 0) (vs := [(.bool false), (.slice none 0 0)]) rfl rfl rfl rfl T24 rfl (Nat.le_of_ble_eq_true rfl) (ones_of rfl) ?_
        intro w_k hp hs
        replace tb := tb.step hs
        apply go
        obtain rfl := Option.some.inj h
        refine ⟨_, run_loadVarA T24 rfl (hp.at_ (i := 0) rfl), ?_⟩
        have hp := hp.sel [] (by decide)
        exact ⟨I0, .slice none 0 0, rfl, hp, RepS.nil _ _ _⟩
      ·
        have h := cond_f h hc
        apply go
        apply go
        apply go
        obtain ⟨y_l, q_m, h⟩ := bind_some h
        refine W.cut (γ := ((List Int) × Value × (Nat → Prop))) (fun g => [(2, (.pointer (some ⟨g_1, 0, none⟩))), (5, (.bool x_5)), (6, (g.2.1))]) (fun g w' => y_l = (g.1) ∧ Hp ⟨w0, I0, []⟩ (g.2.2) [some (g_1, [(.bool false), (.slice none 0 0)], 24)] w' ∧ RepS (dI .u32) w' (g.2.2) (g.2.1) (g.1) ∧ Tb w' (g.2.2) 4 .u64 pow10) ?_ ?_
        ·
          apply go
          refine W.loop q_m (γ := (Value × (Nat → Prop))) (fun s g => [(2, (.pointer (some ⟨g_1, 0, none⟩))), (4, (.string (s.1))), (5, (.bool x_5)), (6, (g.1))]) (fun s g w' => Hp ⟨w0, I0, []⟩ (g.2) [some (g_1, [(.bool false), (.slice none 0 0)], 24)] w' ∧ RepS (dI .u32) w' (g.2) (g.1) (s.2) ∧ Tb w' (g.2) 4 .u64 pow10) ((.slice none 0 0), I0) (.c rfl (.c rfl (.c rfl (.c rfl .n)))) ⟨hp, RepS.nil _ _ _, tb⟩ ?_
          rintro ⟨x_n, x_o⟩ ⟨v_p, I_q⟩ w_r y_s ⟨hp, r_t, tb⟩ q_u q_v
          unfold integer_Parse_L1 at q_u
          apply go
          apply go
          apply go
          refine ev0 (rn_lenS rfl rfl Tryz.underlying9) ?_
          apply go
          refine sel_of (fun hc => ?_) (fun hc => ?_)
          ·
            have q_u := cond_t q_u hc
            apply go
            apply go
            apply go
            apply go
            refine ev0 (rn_lenS rfl rfl Tryz.underlying9) ?_
            refine ⟨by decide, ?_⟩
            apply go
            apply go
            obtain ⟨x_w, q_x, q_u⟩ := bind_some q_u
            refine ev0 (rn_sliceStr (kl := .i64) (kh := .i64) rfl rfl rfl rfl Tryz.underlying9 q_x) ?_
            obtain ⟨⟨x_y, x_z⟩, q_10, q_u⟩ := bind_some q_u
            refine ev_call rfl rfl C93 (((strconv_ParseUint_ok n) _ _ tb x_w 10 32 hp.imm _ q_10).mono ?_)
            rintro _ w_11 ⟨rfl, hc⟩
            have hs := hp.stp hc
            replace hp := hp.ext hc
            replace r_t := r_t.step hs
            replace tb := tb.step hs
            apply go
            apply go
            refine ev_litN (d := (dI .u32)) (xs := [1000000000]) (cs := [(.int .u32 1000000000)]) hp rfl rfl Tryz.underlying22 T46 (by decide) rfl rfl (Elems.cons (d := (dI .u32)) (xs := _) rfl (Elems.nil _ _ _ _)) ?_
            intro v_12 I_13 w_14 hp hs r_15
            replace r_t := r_t.step hs
            replace tb := tb.step hs
            obtain ⟨x_16, q_17, q_u⟩ := bind_some q_u
            refine ev_call rfl rfl C81 (((integer_times_ok n) _ _  x_o v_p r_t [1000000000] v_12 r_15 hp.imm _ q_17).mono ?_)
            rintro _ w_18 ⟨I_19, v_1a, hv, hq, r_1b⟩
            replace hv := hv.symm
            subst hv
            have hs := hq.st
            have hp := hp.join0 hq
            replace tb := tb.step hs
            refine ev0 (rn_conv rfl rfl U75 Tryz.underlying46) ?_
            refine ev_litN (d := (dI .u32)) (xs := [(IntKind.u32.wrap x_y)]) (cs := [(.int .u32 (IntKind.u32.wrap x_y))]) hp rfl rfl Tryz.underlying22 T46 (by decide) rfl rfl (Elems.cons (d := (dI .u32)) (xs := _) rfl (Elems.nil _ _ _ _)) ?_
            intro v_1c I_1d w_1e hp hs r_1f
            replace r_1b := r_1b.step hs
            replace tb := tb.step hs
            obtain ⟨x_1g, q_1h, q_u⟩ := bind_some q_u
            refine ev_call rfl rfl C94 (((integer_plus_ok n) _ _  x_16 v_1a r_1b [(IntKind.u32.wrap x_y)] v_1c r_1f hp.imm _ q_1h).mono ?_)
            rintro _ w_1i ⟨I_1j, v_1k, hv, hq, r_1l⟩
            replace hv := hv.symm
            subst hv
            have hs := hq.st
            have hp := hp.join0 hq
            replace tb := tb.step hs
            obtain ⟨x_1m, q_1n, q_u⟩ := bind_some q_u
            refine ev_call rfl rfl C72 (((integer_trim_ok n) _ _  x_1g v_1k r_1l hp.imm _ q_1n).mono ?_)
            rintro _ w_1o ⟨I_1p, v_1q, hv, hq, r_1r⟩
            replace hv := hv.symm
            subst hv
            have hs := hq.st
            have hp := hp.join0 hq
            replace tb := tb.step hs
            apply go
            obtain ⟨x_1s, q_1t, q_u⟩ := bind_some q_u
            refine ev0 (rn_sliceStr (kl := .i64) (kh := .i64) rfl rfl rfl rfl Tryz.underlying9 q_1t) ?_
            exact ⟨_, (Option.some.inj q_u).symm, (v_1q, I_1p), (.c rfl (.c rfl (.c rfl (.c rfl .n)))), ⟨hp, r_1r, tb⟩⟩
          ·
            have q_u := cond_f q_u hc
            apply go
            have q_1u := congrArg some (q_v _ (Option.some.inj q_u).symm)
            obtain rfl := Option.some.inj q_1u
            exact ⟨(x_o, v_p, I_q), (.c rfl (.c rfl (.c rfl .n))), rfl, hp, r_t, tb⟩
        ·
          rintro ⟨x_1v, v_1w, I_1x⟩ w_1y ⟨hy, hp, r_1z, tb⟩
          replace hy := hy.symm
          subst hy
          apply go
          apply go
          obtain ⟨x_20, q_21, h⟩ := bind_some h
          refine ev_call rfl rfl C80 (((integer_made_ok n) _ _  x_5 x_1v v_1w r_1z hp.imm _ q_21).mono ?_)
          rintro _ w_22 ⟨I_23, v_24, hv, hq, r_25⟩
          replace hv := hv.symm
          subst hv
          have hs := hq.st
          have hp := hp.join0 hq
          replace tb := tb.step hs
          refine ev_storeA hp (i := 0) (off := 0) (vs := [(.bool x_20.Neg), v_24]) rfl rfl rfl rfl T24 rfl (Nat.le_of_ble_eq_true rfl) (ones_cons rfl (ones_cons r_25.one ones_nil)) ?_
          intro w_26 hp hs
          replace r_25 := r_25.step hs
          replace tb := tb.step hs
          apply go
          obtain rfl := Option.some.inj h
          refine ⟨_, run_loadVarA T24 rfl (hp.at_ (i := 0) rfl), ?_⟩
          have hp := hp.sel [] (by decide)
          exact ⟨I_23, v_24, rfl, hp, r_25⟩

end Go.Proofs.YtepadjfmcbjkmaaGreatDoor

namespace Go.Proofs.YtepadjfmcbjkmaaGreatDoor
open Go Go.Proofs.YtepadjfmcbjkmaaGreatDoor.Gw Go.RowKit
set_option linter.unusedVariables false
attribute [local irreducible] Ev EvQ EvS EvH
def rational_Parse_S (f : ByteArray → Option (Rational × Int)) : Prop := ∀ (w0 : World) (I0 : Nat → Prop) (tb : Tb w0 I0 4 .u64 pow10) (x_0 : ByteArray) (hI : ∀ g, I0 g → g < w0.heap.size) (r : (Rational × Int)), f x_0 = some r →
    Ret Tryz.prog 31 #[(.string x_0)] w0 fun v w1 => ∃ (I1 : Nat → Prop) (u_1 : Value) (u_2 : Value), v = (.tuple #[(.agg #[(.bool r.1.Num.Neg), u_1, (.bool r.1.Den.Neg), u_2]), (.int .i64 r.2)]) ∧ Hp ⟨w0, I0, []⟩ I1 [] w1 ∧ RepS (dI .u32) w1 I1 u_1 r.1.Num.Mag ∧ RepS (dI .u32) w1 I1 u_2 r.1.Den.Mag
theorem rational_Parse_ok (n : Nat) : rational_Parse_S (rational_Parse n) := by
  intro w0 I0 tb x_0 hI r h
  unfold rational_Parse at h
  refine enter Tryz.func31 rfl (Nat.le_of_ble_eq_true rfl) ?_
  have hp : Hp ⟨w0, I0, []⟩ I0 [] w0 := Hp.start hI
  apply go
  apply go
  refine ev_alloc hp rfl T26 ?_
  intro g_1 w_2 hp hs
  replace tb := tb.step hs
  apply go
  apply go
  obtain ⟨⟨x_3, x_4, x_5⟩, q_6, h⟩ := bind_some h
  refine ev_call rfl rfl C66 (((strings_Cut_ok n) _ _  x_0 (ByteArray.mk #[47]) hp.imm _ q_6).mono ?_)
  rintro _ w_7 ⟨rfl, hc⟩
  have hs := hp.stp hc
  replace hp := hp.ext hc
  replace tb := tb.step hs
  apply go
  obtain ⟨y_8, q_9, h⟩ := bind_some h
  refine W.cut (γ := Bool) (fun g => [(0, (.string x_0)), (2, (.pointer (some ⟨g_1, 0, none⟩))), (4, (.string x_3)), (5, (.string x_4)), (6, (.bool x_5)), (30, (.bool (g)))]) (fun g w' => y_8 = (g) ∧ w_7 = w') ?_ ?_
  ·
    apply go
    refine ev0 (rn_lenS rfl rfl Tryz.underlying9) ?_
    refine sel_of (fun hc => ?_) (fun hc => ?_)
    ·
      have q_9 := cond_t q_9 hc
      obtain rfl := Option.some.inj q_9
      exact ⟨true, (.c rfl (.c rfl (.c rfl (.c rfl (.c rfl (.c rfl .n)))))), rfl, rfl⟩
    ·
      have q_9 := cond_f q_9 hc
      refine ev0 (rn_lenS rfl rfl Tryz.underlying9) ?_
      refine sel_of (fun hc => ?_) (fun hc => ?_)
      ·
        have q_9 := cond_t q_9 hc
        obtain rfl := Option.some.inj q_9
        exact ⟨true, (.c rfl (.c rfl (.c rfl (.c rfl (.c rfl (.c rfl .n)))))), rfl, rfl⟩
      ·
        have q_9 := cond_f q_9 hc
        refine ev0 (rn_lenS rfl rfl Tryz.underlying9) ?_
        obtain rfl := Option.some.inj q_9
        exact ⟨(decide ((x_4.size : Int) > 2000)), (.c rfl (.c rfl (.c rfl (.c rfl (.c rfl (.c rfl .n)))))), rfl, rfl⟩
  ·
    rintro x_a _ ⟨hy, rfl⟩
    replace hy := hy.symm
    subst hy
    apply go
    refine sel_of (fun hc => ?_) (fun hc => ?_)
    ·
      have h := cond_t h hc
      apply go
      apply go
      refine ev0 (fun w => rn_build (cs := [(.bool false), (.slice none 0 0), (.bool false), (.slice none 0 0)]) rfl rfl T26 PL26 rfl) ?_
      refine ev_storeA hp (i := 0) (off := 0) (vs := [(.bool false), (.slice none 0 0), (.bool false), (.slice none 0 0)]) rfl rfl rfl rfl T26 rfl (Nat.le_of_ble_eq_true rfl) (ones_of rfl) ?_
      intro w_b hp hs
      replace tb := tb.step hs
      apply go
      obtain rfl := Option.some.inj h
      refine ⟨_, run_loadVarA T26 rfl (hp.at_ (i := 0) rfl), ?_⟩
      have hp := hp.sel [] (by decide)
      exact ⟨I0, .slice none 0 0, .slice none 0 0, rfl, hp, RepS.nil _ _ _, RepS.nil _ _ _⟩
    ·
      have h := cond_f h hc
      apply go
      obtain ⟨y_c, q_d, h⟩ := bind_some h
      refine W.cut (γ := ByteArray) (fun g => [(0, (.string x_0)), (2, (.pointer (some ⟨g_1, 0, none⟩))), (4, (.string x_3)), (5, (.string (g)))]) (fun g w' => y_c = (g) ∧ w_7 = w') ?_ ?_
      ·
        apply go
        apply go
        apply go
        refine sel_of (fun hc => ?_) (fun hc => ?_)
        ·
          have q_d := cond_t q_d hc
          apply go
          obtain rfl := Option.some.inj q_d
          exact ⟨(ByteArray.mk #[49]), (.c rfl (.c rfl (.c rfl (.c rfl .n)))), rfl, rfl⟩
        ·
          have q_d := cond_f q_d hc
          apply go
          obtain rfl := Option.some.inj q_d
          exact ⟨x_4, (.c rfl (.c rfl (.c rfl (.c rfl .n)))), rfl, rfl⟩
      ·
        rintro x_e _ ⟨hy, rfl⟩
        replace hy := hy.symm
        subst hy
        apply go
        apply go
        obtain ⟨⟨x_f, x_g⟩, q_h, h⟩ := bind_some h
        refine ev_call rfl rfl C67 (((integer_Parse_ok n) _ _ tb x_3 hp.imm _ q_h).mono ?_)
        rintro _ w_i ⟨I_j, v_k, hv, hq, r_l⟩
        replace hv := hv.symm
        subst hv
        have hs := hq.st
        have hp := hp.join0 hq
        replace tb := tb.step hs
        refine ev_alloc hp rfl T24 ?_
        intro g_m w_n hp hs
        replace r_l := r_l.step hs
        replace tb := tb.step hs
        refine ev_storeA hp (i := 0) (off := 0) (vs := [(.bool x_f.Neg), v_k]) rfl rfl rfl rfl T24 rfl (Nat.le_of_ble_eq_true rfl) (ones_cons rfl (ones_cons r_l.one ones_nil)) ?_
        intro w_o hp hs
        replace r_l := r_l.step hs
        replace tb := tb.step hs
        apply go
        apply go
        obtain ⟨⟨x_p, x_q⟩, q_r, h⟩ := bind_some h
        refine ev_call rfl rfl C67 (((integer_Parse_ok n) _ _ tb x_e hp.imm _ q_r).mono ?_)
        rintro _ w_s ⟨I_t, v_u, hv, hq, r_v⟩
        replace hv := hv.symm
        subst hv
        have hs := hq.st
        have hp := hp.join0 hq
        replace r_l := r_l.step hs
        replace tb := tb.step hs
        refine ev_alloc hp rfl T24 ?_
        intro g_w w_x hp hs
        replace r_v := r_v.step hs
        replace r_l := r_l.step hs
        replace tb := tb.step hs
        refine ev_storeA hp (i := 0) (off := 0) (vs := [(.bool x_p.Neg), v_u]) rfl rfl rfl rfl T24 rfl (Nat.le_of_ble_eq_true rfl) (ones_cons rfl (ones_cons r_v.one ones_nil)) ?_
        intro w_y hp hs
        replace r_v := r_v.step hs
        replace r_l := r_l.step hs
        replace tb := tb.step hs
        apply go
        obtain ⟨y_z, q_10, h⟩ := bind_some h
        refine W.cut (γ := Bool) (fun g => [(0, (.string x_0)), (2, (.pointer (some ⟨g_1, 0, none⟩))), (7, (.pointer (some ⟨g_m, 0, none⟩))), (9, (.pointer (some ⟨g_w, 0, none⟩))), (54, (.bool (g)))]) (fun g w' => y_z = (g) ∧ Hp ⟨w0, I0, []⟩ I_t [some (g_1, [(.bool false), (.slice none 0 0), (.bool false), (.slice none 0 0)], 26), some (g_m, [(.bool x_f.Neg), v_k], 24), some (g_w, [(.bool x_p.Neg), v_u], 24)] w' ∧ RepS (dI .u32) w' I_t v_k x_f.Mag ∧ RepS (dI .u32) w' I_t v_u x_p.Mag ∧ Tb w' I_t 4 .u64 pow10) ?_ ?_
        ·
          apply go
          refine sel_of (fun hc => ?_) (fun hc => ?_)
          ·
            have q_10 := cond_t q_10 hc
            obtain rfl := Option.some.inj q_10
            have hp := hp.perm [2, 1, 0] (by decide)
            exact ⟨true, (.c rfl (.c rfl (.c rfl (.c rfl (.c rfl .n))))), rfl, hp, r_l, r_v, tb⟩
          ·
            have q_10 := cond_f q_10 hc
            refine sel_of (fun hc => ?_) (fun hc => ?_)
            ·
              have q_10 := cond_t q_10 hc
              obtain rfl := Option.some.inj q_10
              have hp := hp.perm [2, 1, 0] (by decide)
              exact ⟨true, (.c rfl (.c rfl (.c rfl (.c rfl (.c rfl .n))))), rfl, hp, r_l, r_v, tb⟩
            ·
              have q_10 := cond_f q_10 hc
              refine ev (rn_load rfl rfl (run_loadVarA T24 rfl (hp.at_ (i := 0) rfl))) ?_
              obtain ⟨x_11, q_12, q_10⟩ := bind_some q_10
              refine ev_call rfl rfl C39 (((integer_Sign_ok n) _ _  (Int_2.mk x_p.Neg x_p.Mag) v_u r_v hp.imm _ q_12).mono ?_)
              rintro _ w_13 ⟨rfl, hc⟩
              have hs := hp.stp hc
              replace hp := hp.ext hc
              replace r_v := r_v.step hs
              replace r_l := r_l.step hs
              replace tb := tb.step hs
              obtain rfl := Option.some.inj q_10
              have hp := hp.perm [2, 1, 0] (by decide)
              exact ⟨(decide (x_11 ≤ 0)), (.c rfl (.c rfl (.c rfl (.c rfl (.c rfl .n))))), rfl, hp, r_l, r_v, tb⟩
        ·
          rintro x_14 w_15 ⟨hy, hp, r_l, r_v, tb⟩
          replace hy := hy.symm
          subst hy
          apply go
          refine sel_of (fun hc => ?_) (fun hc => ?_)
          ·
            have h := cond_t h hc
            apply go
            apply go
            refine ev0 (fun w => rn_build (cs := [(.bool false), (.slice none 0 0), (.bool false), (.slice none 0 0)]) rfl rfl T26 PL26 rfl) ?_
            refine ev_storeA hp (i := 0) (off := 0) (vs := [(.bool false), (.slice none 0 0), (.bool false), (.slice none 0 0)]) rfl rfl rfl rfl T26 rfl (Nat.le_of_ble_eq_true rfl) (ones_of rfl) ?_
            intro w_16 hp hs
            replace r_l := r_l.step hs
            replace r_v := r_v.step hs
            replace tb := tb.step hs
            apply go
            obtain rfl := Option.some.inj h
            refine ⟨_, run_loadVarA T26 rfl (hp.at_ (i := 0) rfl), ?_⟩
            have hp := hp.sel [] (by decide)
            exact ⟨I_t, .slice none 0 0, .slice none 0 0, rfl, hp, RepS.nil _ _ _, RepS.nil _ _ _⟩
          ·
            have h := cond_f h hc
            apply go
            apply go
            apply go
            refine ev (rn_load rfl rfl (run_loadVarA T24 rfl (hp.at_ (i := 1) rfl))) ?_
            refine ev (rn_load rfl rfl (run_loadVarA T24 rfl (hp.at_ (i := 2) rfl))) ?_
            obtain ⟨x_17, q_18, h⟩ := bind_some h
            refine ev_call rfl rfl C28 (((rational_New_ok n) _ _  (Int_2.mk x_f.Neg x_f.Mag) v_k r_l (Int_2.mk x_p.Neg x_p.Mag) v_u r_v hp.imm _ q_18).mono ?_)
            rintro _ w_19 ⟨I_1a, v_1b, v_1c, hv, hq, r_1d, r_1e⟩
            replace hv := hv.symm
            subst hv
            have hs := hq.st
            have hp := hp.join0 hq
            replace r_l := r_l.step hs
            replace r_v := r_v.step hs
            replace tb := tb.step hs
            refine ev_alloc hp rfl T26 ?_
            intro g_1f w_1g hp hs
            replace r_1d := r_1d.step hs
            replace r_1e := r_1e.step hs
            replace r_l := r_l.step hs
            replace r_v := r_v.step hs
            replace tb := tb.step hs
            refine ev_storeA hp (i := 0) (off := 0) (vs := [(.bool x_17.Num.Neg), v_1b, (.bool x_17.Den.Neg), v_1c]) rfl rfl rfl rfl T26 rfl (Nat.le_of_ble_eq_true rfl) (ones_cons rfl (ones_cons r_1d.one (ones_cons rfl (ones_cons r_1e.one ones_nil)))) ?_
            intro w_1h hp hs
            replace r_1d := r_1d.step hs
            replace r_1e := r_1e.step hs
            replace r_l := r_l.step hs
            replace r_v := r_v.step hs
            replace tb := tb.step hs
            apply go
            apply go
            apply go
            refine ev (rn_load rfl rfl (run_loadVarA T26 rfl (hp.at_ (i := 0) rfl))) ?_
            obtain ⟨x_1i, q_1j, h⟩ := bind_some h
            refine ev_call rfl rfl C33 (((rational_Text_ok n) _ _ tb (Rational.mk (Int_2.mk x_17.Num.Neg x_17.Num.Mag) (Int_2.mk x_17.Den.Neg x_17.Den.Mag)) v_1b r_1d v_1c r_1e hp.imm _ q_1j).mono ?_)
            rintro _ w_1k ⟨rfl, hc⟩
            have hs := hp.stp hc
            replace hp := hp.ext hc
            replace r_1d := r_1d.step hs
            replace r_1e := r_1e.step hs
            replace r_l := r_l.step hs
            replace r_v := r_v.step hs
            replace tb := tb.step hs
            apply go
            refine sel_of (fun hc => ?_) (fun hc => ?_)
            ·
              have h := cond_t h hc
              apply go
              apply go
              refine ev0 (fun w => rn_build (cs := [(.bool false), (.slice none 0 0), (.bool false), (.slice none 0 0)]) rfl rfl T26 PL26 rfl) ?_
              refine ev_storeA hp (i := 1) (off := 0) (vs := [(.bool false), (.slice none 0 0), (.bool false), (.slice none 0 0)]) rfl rfl rfl rfl T26 rfl (Nat.le_of_ble_eq_true rfl) (ones_of rfl) ?_
              intro w_1l hp hs
              replace r_1d := r_1d.step hs
              replace r_1e := r_1e.step hs
              replace r_l := r_l.step hs
              replace r_v := r_v.step hs
              replace tb := tb.step hs
              apply go
              obtain rfl := Option.some.inj h
              refine ⟨_, run_loadVarA T26 rfl (hp.at_ (i := 1) rfl), ?_⟩
              have hp := hp.sel [] (by decide)
              exact ⟨I_1a, .slice none 0 0, .slice none 0 0, rfl, hp, RepS.nil _ _ _, RepS.nil _ _ _⟩
            ·
              have h := cond_f h hc
              apply go
              apply go
              apply go
              refine ev (rn_load rfl rfl (run_loadVarA T26 rfl (hp.at_ (i := 0) rfl))) ?_
              refine ev_storeA hp (i := 1) (off := 0) (vs := [(.bool x_17.Num.Neg), v_1b, (.bool x_17.Den.Neg), v_1c]) rfl rfl rfl rfl T26 rfl (Nat.le_of_ble_eq_true rfl) (ones_cons rfl (ones_cons r_1d.one (ones_cons rfl (ones_cons r_1e.one ones_nil)))) ?_
              intro w_1m hp hs
              replace r_1d := r_1d.step hs
              replace r_1e := r_1e.step hs
              replace r_l := r_l.step hs
              replace r_v := r_v.step hs
              replace tb := tb.step hs
              apply go
              obtain rfl := Option.some.inj h
              refine ⟨_, run_loadVarA T26 rfl (hp.at_ (i := 1) rfl), ?_⟩
              have hp := hp.sel [] (by decide)
              exact ⟨I_1a, v_1b, v_1c, rfl, hp, r_1d, r_1e⟩

end Go.Proofs.YtepadjfmcbjkmaaGreatDoor

namespace Go.Proofs.YtepadjfmcbjkmaaGreatDoor
open Go Go.Proofs.YtepadjfmcbjkmaaGreatDoor.Gw Go.RowKit
set_option linter.unusedVariables false
attribute [local irreducible] Ev EvQ EvS EvH
def ref01_trim_S (f : (List Int) → Option (List Int)) : Prop := ∀ (w0 : World) (I0 : Nat → Prop) (x_0 : (List Int)) (v_1 : Value) (r_2 : RepS (dI .u32) w0 I0 v_1 x_0) (hI : ∀ g, I0 g → g < w0.heap.size) (r : (List Int)), f x_0 = some r →
    Ret Tryz.prog 100 #[v_1] w0 fun v w1 => ∃ (I1 : Nat → Prop) (u_3 : Value) (u_4 : Ent), v = u_3 ∧ Hp ⟨w0, I0, []⟩ I1 [u_4] w1 ∧ OwnS (dI .u32) 46 w1 I1 u_3 u_4 r
theorem ref01_trim_ok (n : Nat) : ref01_trim_S (ref01_trim n) := by
  intro w0 I0 x_0 v_1 r_2 hI r h
  unfold ref01_trim at h
  refine enter Tryz.func100 rfl (Nat.le_of_ble_eq_true rfl) ?_
  have hp : Hp ⟨w0, I0, []⟩ I0 [] w0 := Hp.start hI
  apply go
  apply go
  obtain ⟨y_3, q_4, h⟩ := bind_some h
  refine W.cut (γ := ((List Int) × Value)) (fun g => [(0, (g.2))]) (fun g w' => y_3 = (g.1) ∧ w0 = w' ∧ RepS (dI .u32) w' I0 (g.2) (g.1)) ?_ ?_
  ·
    apply go
    refine W.loop q_4 (γ := Value) (fun s g => [(0, (g))]) (fun s g w' => w0 = w' ∧ RepS (dI .u32) w' I0 (g) (s)) v_1 (.c rfl .n) ⟨rfl, r_2⟩ ?_
    rintro x_5 v_6 _ y_7 ⟨rfl, r_8⟩ q_9 q_a
    unfold ref01_trim_L1 at q_9
    apply go
    obtain ⟨y_b, q_c, q_9⟩ := bind_some q_9
    refine W.cut (γ := Bool) (fun g => [(0, v_6), (14, (.bool (g)))]) (fun g w' => y_b = (g) ∧ w0 = w') ?_ ?_
    ·
      apply go
      refine ev0 (rn_len rfl rfl Tryz.underlying22 r_8) ?_
      refine sel_of (fun hc => ?_) (fun hc => ?_)
      ·
        have q_c := cond_t q_c hc
        refine ev0 (rn_len rfl rfl Tryz.underlying22 r_8) ?_
        obtain ⟨x_d, q_e, q_c⟩ := bind_some q_c
        refine ev_index rfl rfl rfl Tryz.underlying22 T46 r_8 q_e ?_
        intro p_f c_g d_h a_i
        obtain rfl : c_g = [(.int .u32 x_d)] := d_h
        refine ev (rn_load rfl rfl (run_loadVar1 T46 (a_i.2 0 _ rfl))) ?_
        obtain rfl := Option.some.inj q_c
        exact ⟨(x_d == 0), (.c rfl (.c rfl .n)), rfl, rfl⟩
      ·
        have q_c := cond_f q_c hc
        obtain rfl := Option.some.inj q_c
        exact ⟨false, (.c rfl (.c rfl .n)), rfl, rfl⟩
    ·
      rintro x_j _ ⟨hy, rfl⟩
      replace hy := hy.symm
      subst hy
      apply go
      refine sel_of (fun hc => ?_) (fun hc => ?_)
      ·
        have q_9 := cond_t q_9 hc
        apply go
        apply go
        apply go
        refine ev0 (rn_len rfl rfl Tryz.underlying22 r_8) ?_
        obtain ⟨x_k, q_l, q_9⟩ := bind_some q_9
        refine ev_slice (kl := .i64) (kh := .i64) rfl rfl rfl rfl Tryz.underlying22 T46 r_8 q_l ?_
        intro v_m r_n
        exact ⟨_, (Option.some.inj q_9).symm, v_m, (.c rfl .n), ⟨rfl, r_n⟩⟩
      ·
        have q_9 := cond_f q_9 hc
        apply go
        have q_o := congrArg some (q_a _ (Option.some.inj q_9).symm)
        obtain rfl := Option.some.inj q_o
        exact ⟨(x_5, v_6), (.c rfl .n), rfl, rfl, r_8⟩
  ·
    rintro ⟨x_p, v_q⟩ _ ⟨hy, rfl, r_r⟩
    replace hy := hy.symm
    subst hy
    apply go
    apply go
    refine ev_litON (d := (dI .u32)) (xs := ([] : List Int)) (cs := []) hp rfl rfl Tryz.underlying22 T46 (by decide) (by decide) rfl rfl (Elems.nil _ _ _ _) ?_
    intro v_s e_t w_u hp hs o_v
    replace r_r := r_r.step hs
    obtain ⟨x_w, q_x, h⟩ := bind_some h
    refine ev_append hp (i := 0) rfl rfl rfl rfl Tryz.underlying22 T46 rfl rfl o_v r_r q_x ?_
    rintro v_y e_z w_10 hp hs o_11
    apply go
    obtain rfl := Option.some.inj h
    exact ⟨I0, v_y, e_z, rfl, hp, o_11⟩

end Go.Proofs.YtepadjfmcbjkmaaGreatDoor

namespace Go.Proofs.YtepadjfmcbjkmaaGreatDoor
open Go Go.Proofs.YtepadjfmcbjkmaaGreatDoor.Gw Go.RowKit
set_option linter.unusedVariables false
attribute [local irreducible] Ev EvQ EvS EvH
def ref01_Norm_S (f : Int_2 → Option Int_2) : Prop := ∀ (w0 : World) (I0 : Nat → Prop) (x_0 : Int_2) (v_1 : Value) (r_2 : RepS (dI .u32) w0 I0 v_1 x_0.Mag) (hI : ∀ g, I0 g → g < w0.heap.size) (r : Int_2), f x_0 = some r →
    Ret Tryz.prog 77 #[(.agg #[(.bool x_0.Neg), v_1])] w0 fun v w1 => ∃ (I1 : Nat → Prop) (u_3 : Value), v = (.agg #[(.bool r.Neg), u_3]) ∧ Hp ⟨w0, I0, []⟩ I1 [] w1 ∧ RepS (dI .u32) w1 I1 u_3 r.Mag
theorem ref01_Norm_ok (n : Nat) : ref01_Norm_S (ref01_Norm n) := by
  intro w0 I0 x_0 v_1 r_2 hI r h
  unfold ref01_Norm at h
  refine enter Tryz.func77 rfl (Nat.le_of_ble_eq_true rfl) ?_
  have hp : Hp ⟨w0, I0, []⟩ I0 [] w0 := Hp.start hI
  apply go
  apply go
  refine ev_boxI hp rfl rfl ?_
  intro p_3 I_4 w_5 hp hs a_6
  replace r_2 := r_2.step hs
  refine ev_alloc hp rfl T24 ?_
  intro g_7 w_8 hp hs
  replace a_6 := a_6.step hs
  replace r_2 := r_2.step hs
  apply go
  apply go
  refine ev0 (rn_field rfl rfl FO24_1) ?_
  refine ev (rn_load rfl rfl (run_loadVar1 T22 (a_6.2 1 _ rfl))) ?_
  obtain ⟨x_9, q_a, h⟩ := bind_some h
  refine ev_call rfl rfl C100 (((ref01_trim_ok n) _ _  x_0.Mag v_1 r_2 hp.imm _ q_a).mono ?_)
  rintro _ w_b ⟨I_c, v_d, e_e, hv, hq, o_f⟩
  replace hv := hv.symm
  subst hv
  have hs := hq.st
  have hp := hp.join0 hq
  replace a_6 := a_6.step hs
  replace r_2 := r_2.step hs
  obtain ⟨y_g, q_h, h⟩ := bind_some h
  refine W.cut (γ := (Bool × (List Int) × Value × Ent)) (fun g => [(2, (.pointer (some ⟨g_7, 0, none⟩)))]) (fun g w' => y_g = ((g.1), (g.2.1)) ∧ Hp ⟨w0, I0, []⟩ I_c [(g.2.2.2), some (g_7, [(.bool (g.1)), (g.2.2.1)], 24)] w' ∧ OwnS (dI .u32) 46 w' I_c (g.2.2.1) (g.2.2.2) (g.2.1)) ?_ ?_
  ·
    apply go
    refine ev0 (rn_field rfl rfl FO24_0) ?_
    refine ev (rn_load rfl rfl (run_loadVar1 T4 (a_6.2 0 _ rfl))) ?_
    refine sel_of (fun hc => ?_) (fun hc => ?_)
    ·
      have q_h := cond_t q_h hc
      refine ev0 (x_lenO rfl rfl Tryz.underlying22 o_f) ?_
      obtain ⟨A_i, m_j, m_k, rfl⟩ := o_f.isSl
      refine ev0 (fun w => rn_build (cs := [(.bool (decide ((x_9.length : Int) > 0))), (.slice A_i m_j m_k)]) rfl rfl T24 PL24 rfl) ?_
      refine ev_storeA hp (i := 1) (off := 0) (vs := [(.bool (decide ((x_9.length : Int) > 0))), (.slice A_i m_j m_k)]) rfl rfl rfl rfl T24 rfl (Nat.le_of_ble_eq_true rfl) (ones_cons rfl (ones_cons o_f.one ones_nil)) ?_
      intro w_l hp hs
      replace o_f := o_f.step hs
      obtain rfl := Option.some.inj q_h
      exact ⟨((decide ((x_9.length : Int) > 0)), x_9, (.slice A_i m_j m_k), e_e), (.c rfl .n), rfl, hp, o_f⟩
    ·
      have q_h := cond_f q_h hc
      obtain ⟨A_m, m_n, m_o, rfl⟩ := o_f.isSl
      refine ev0 (fun w => rn_build (cs := [(.bool false), (.slice A_m m_n m_o)]) rfl rfl T24 PL24 rfl) ?_
      refine ev_storeA hp (i := 1) (off := 0) (vs := [(.bool false), (.slice A_m m_n m_o)]) rfl rfl rfl rfl T24 rfl (Nat.le_of_ble_eq_true rfl) (ones_cons rfl (ones_cons o_f.one ones_nil)) ?_
      intro w_p hp hs
      replace o_f := o_f.step hs
      obtain rfl := Option.some.inj q_h
      exact ⟨(false, x_9, (.slice A_m m_n m_o), e_e), (.c rfl .n), rfl, hp, o_f⟩
  ·
    rintro ⟨x_q, x_r, v_s, e_t⟩ w_u ⟨hy, hp, o_v⟩
    replace hy := hy.symm
    subst hy
    apply go
    obtain rfl := Option.some.inj h
    have r_w := o_v.frz hp (i := 0) rfl
    obtain ⟨hp, hs⟩ := freeze_hp hp (i := 0) rfl
    have hp := hp.sel [1] (by decide)
    refine ⟨_, run_loadVarA T24 rfl (hp.at_ (i := 0) rfl), ?_⟩
    have hp := hp.sel [] (by decide)
    exact ⟨(Ad I_c e_t), v_s, rfl, hp, r_w⟩

end Go.Proofs.YtepadjfmcbjkmaaGreatDoor

namespace Go.Proofs.YtepadjfmcbjkmaaGreatDoor
open Go Go.Proofs.YtepadjfmcbjkmaaGreatDoor.Gw Go.RowKit
set_option linter.unusedVariables false
attribute [local irreducible] Ev EvQ EvS EvH
def ref01_Of_S (f : Int → Option Int_2) : Prop := ∀ (w0 : World) (I0 : Nat → Prop) (x_0 : Int) (hI : ∀ g, I0 g → g < w0.heap.size) (r : Int_2), f x_0 = some r →
    Ret Tryz.prog 74 #[(.int .i64 x_0)] w0 fun v w1 => ∃ (I1 : Nat → Prop) (u_1 : Value), v = (.agg #[(.bool r.Neg), u_1]) ∧ Hp ⟨w0, I0, []⟩ I1 [] w1 ∧ RepS (dI .u32) w1 I1 u_1 r.Mag
theorem ref01_Of_ok (n : Nat) : ref01_Of_S (ref01_Of n) := by
  intro w0 I0 x_0 hI r h
  unfold ref01_Of at h
  refine enter Tryz.func74 rfl (Nat.le_of_ble_eq_true rfl) ?_
  have hp : Hp ⟨w0, I0, []⟩ I0 [] w0 := Hp.start hI
  apply go
  apply go
  refine ev_alloc hp rfl T24 ?_
  intro g_1 w_2 hp hs
  apply go
  apply go
  refine ev0 (rn_conv rfl rfl U3 Tryz.underlying75) ?_
  obtain ⟨y_3, q_4, h⟩ := bind_some h
  refine W.cut (γ := Int) (fun g => [(0, (.int .i64 x_0)), (2, (.pointer (some ⟨g_1, 0, none⟩))), (3, (.int .u64 (g)))]) (fun g w' => y_3 = (g) ∧ w_2 = w') ?_ ?_
  ·
    apply go
    apply go
    apply go
    refine sel_of (fun hc => ?_) (fun hc => ?_)
    ·
      have q_4 := cond_t q_4 hc
      apply go
      obtain rfl := Option.some.inj q_4
      exact ⟨(IntKind.u64.wrap (0 - (IntKind.u64.wrap x_0))), (.c rfl (.c rfl (.c rfl .n))), rfl, rfl⟩
    ·
      have q_4 := cond_f q_4 hc
      apply go
      obtain rfl := Option.some.inj q_4
      exact ⟨(IntKind.u64.wrap x_0), (.c rfl (.c rfl (.c rfl .n))), rfl, rfl⟩
  ·
    rintro x_5 _ ⟨hy, rfl⟩
    replace hy := hy.symm
    subst hy
    apply go
    apply go
    refine ev0 (rn_conv rfl rfl U75 Tryz.underlying46) ?_
    refine ⟨by decide, ?_⟩
    refine ev0 (rn_conv rfl rfl U75 Tryz.underlying46) ?_
    refine ev_litN (d := (dI .u32)) (xs := [(IntKind.u32.wrap x_5), (IntKind.u32.wrap (x_5.fdiv (2 ^ min (32 : Int).toNat (IntKind.u64).bits)))]) (cs := [(.int .u32 (IntKind.u32.wrap x_5)), (.int .u32 (IntKind.u32.wrap (x_5.fdiv (2 ^ min (32 : Int).toNat (IntKind.u64).bits))))]) hp rfl rfl Tryz.underlying22 T46 (by decide) rfl rfl (Elems.cons (d := (dI .u32)) (xs := _) rfl (Elems.cons (d := (dI .u32)) (xs := _) rfl (Elems.nil _ _ _ _))) ?_
    intro v_6 I_7 w_8 hp hs r_9
    obtain ⟨A_a, m_b, m_c, rfl⟩ := r_9.isSl
    refine ev0 (fun w => rn_build (cs := [(.bool (decide (x_0 < 0))), (.slice A_a m_b m_c)]) rfl rfl T24 PL24 rfl) ?_
    obtain ⟨x_d, q_e, h⟩ := bind_some h
    refine ev_call rfl rfl C77 (((ref01_Norm_ok n) _ _  (Int_2.mk (decide (x_0 < 0)) [(IntKind.u32.wrap x_5), (IntKind.u32.wrap (x_5.fdiv (2 ^ min (32 : Int).toNat (IntKind.u64).bits)))]) (.slice A_a m_b m_c) r_9 hp.imm _ q_e).mono ?_)
    rintro _ w_f ⟨I_g, v_h, hv, hq, r_i⟩
    replace hv := hv.symm
    subst hv
    have hs := hq.st
    have hp := hp.join0 hq
    refine ev_storeA hp (i := 0) (off := 0) (vs := [(.bool x_d.Neg), v_h]) rfl rfl rfl rfl T24 rfl (Nat.le_of_ble_eq_true rfl) (ones_cons rfl (ones_cons r_i.one ones_nil)) ?_
    intro w_j hp hs
    replace r_i := r_i.step hs
    apply go
    obtain rfl := Option.some.inj h
    refine ⟨_, run_loadVarA T24 rfl (hp.at_ (i := 0) rfl), ?_⟩
    have hp := hp.sel [] (by decide)
    exact ⟨I_g, v_h, rfl, hp, r_i⟩

end Go.Proofs.YtepadjfmcbjkmaaGreatDoor

namespace Go.Proofs.YtepadjfmcbjkmaaGreatDoor
open Go Go.Proofs.YtepadjfmcbjkmaaGreatDoor.Gw Go.RowKit
set_option linter.unusedVariables false
attribute [local irreducible] Ev EvQ EvS EvH
def ref02_One_S (f : Option Int_2) : Prop := ∀ (w0 : World) (I0 : Nat → Prop)  (hI : ∀ g, I0 g → g < w0.heap.size) (r : Int_2), f  = some r →
    Ret Tryz.prog 45 #[] w0 fun v w1 => ∃ (I1 : Nat → Prop) (u_0 : Value), v = (.agg #[(.bool r.Neg), u_0]) ∧ Hp ⟨w0, I0, []⟩ I1 [] w1 ∧ RepS (dI .u32) w1 I1 u_0 r.Mag
theorem ref02_One_ok (n : Nat) : ref02_One_S (ref02_One n) := by
  intro w0 I0 hI r h
  unfold ref02_One at h
  refine enter Tryz.func45 rfl (Nat.le_of_ble_eq_true rfl) ?_
  have hp : Hp ⟨w0, I0, []⟩ I0 [] w0 := Hp.start hI
  apply go
  apply go
  refine ev_alloc hp rfl T24 ?_
  intro g_0 w_1 hp hs
  apply go
  apply go
  obtain ⟨x_2, q_3, h⟩ := bind_some h
  refine ev_call rfl rfl C74 (((ref01_Of_ok n) _ _  1 hp.imm _ q_3).mono ?_)
  rintro _ w_4 ⟨I_5, v_6, hv, hq, r_7⟩
  replace hv := hv.symm
  subst hv
  have hs := hq.st
  have hp := hp.join0 hq
  refine ev_storeA hp (i := 0) (off := 0) (vs := [(.bool x_2.Neg), v_6]) rfl rfl rfl rfl T24 rfl (Nat.le_of_ble_eq_true rfl) (ones_cons rfl (ones_cons r_7.one ones_nil)) ?_
  intro w_8 hp hs
  replace r_7 := r_7.step hs
  apply go
  obtain rfl := Option.some.inj h
  refine ⟨_, run_loadVarA T24 rfl (hp.at_ (i := 0) rfl), ?_⟩
  have hp := hp.sel [] (by decide)
  exact ⟨I_5, v_6, rfl, hp, r_7⟩

end Go.Proofs.YtepadjfmcbjkmaaGreatDoor

namespace Go.Proofs.YtepadjfmcbjkmaaGreatDoor
open Go Go.Proofs.YtepadjfmcbjkmaaGreatDoor.Gw Go.RowKit
set_option linter.unusedVariables false
attribute [local irreducible] Ev EvQ EvS EvH
def ref01_Sign_S (f : Int_2 → Option Int) : Prop := ∀ (w0 : World) (I0 : Nat → Prop) (x_0 : Int_2) (v_1 : Value) (r_2 : RepS (dI .u32) w0 I0 v_1 x_0.Mag) (hI : ∀ g, I0 g → g < w0.heap.size) (r : Int), f x_0 = some r →
    Ret Tryz.prog 73 #[(.agg #[(.bool x_0.Neg), v_1])] w0 fun v w1 => v = (.int .i64 r) ∧ Ch [] w0 w1
theorem ref01_Sign_ok (n : Nat) : ref01_Sign_S (ref01_Sign n) := by
  intro w0 I0 x_0 v_1 r_2 hI r h
  unfold ref01_Sign at h
  refine enter Tryz.func73 rfl (Nat.le_of_ble_eq_true rfl) ?_
  have hp : Hp ⟨w0, I0, []⟩ I0 [] w0 := Hp.start hI
  apply go
  apply go
  refine ev_boxI hp rfl rfl ?_
  intro p_3 I_4 w_5 hp hs a_6
  replace r_2 := r_2.step hs
  apply go
  apply go
  apply go
  refine ev0 (rn_field rfl rfl FO24_1) ?_
  refine ev (rn_load rfl rfl (run_loadVar1 T22 (a_6.2 1 _ rfl))) ?_
  obtain ⟨x_7, q_8, h⟩ := bind_some h
  refine ev_call rfl rfl C100 (((ref01_trim_ok n) _ _  x_0.Mag v_1 r_2 hp.imm _ q_8).mono ?_)
  rintro _ w_9 ⟨I_a, v_b, e_c, hv, hq, o_d⟩
  replace hv := hv.symm
  subst hv
  have hs := hq.st
  have hp := hp.join0 hq
  replace a_6 := a_6.step hs
  replace r_2 := r_2.step hs
  refine ev0 (x_lenO rfl rfl Tryz.underlying22 o_d) ?_
  apply go
  refine sel_of (fun hc => ?_) (fun hc => ?_)
  ·
    have h := cond_t h hc
    apply go
    apply go
    apply go
    obtain rfl := Option.some.inj h
    exact ⟨rfl, hp.ch⟩
  ·
    have h := cond_f h hc
    apply go
    apply go
    apply go
    apply go
    refine ev0 (rn_field rfl rfl FO24_0) ?_
    refine ev (rn_load rfl rfl (run_loadVar1 T4 (a_6.2 0 _ rfl))) ?_
    apply go
    refine sel_of (fun hc => ?_) (fun hc => ?_)
    ·
      have h := cond_t h hc
      apply go
      apply go
      apply go
      obtain rfl := Option.some.inj h
      exact ⟨rfl, hp.ch⟩
    ·
      have h := cond_f h hc
      apply go
      apply go
      apply go
      apply go
      obtain rfl := Option.some.inj h
      exact ⟨rfl, hp.ch⟩

end Go.Proofs.YtepadjfmcbjkmaaGreatDoor

namespace Go.Proofs.YtepadjfmcbjkmaaGreatDoor
open Go Go.Proofs.YtepadjfmcbjkmaaGreatDoor.Gw Go.RowKit
set_option linter.unusedVariables false
attribute [local irreducible] Ev EvQ EvS EvH
def ref01_cmp_S (f : (List Int) → (List Int) → Option Int) : Prop := ∀ (w0 : World) (I0 : Nat → Prop) (x_0 : (List Int)) (v_1 : Value) (r_2 : RepS (dI .u32) w0 I0 v_1 x_0) (x_3 : (List Int)) (v_4 : Value) (r_5 : RepS (dI .u32) w0 I0 v_4 x_3) (hI : ∀ g, I0 g → g < w0.heap.size) (r : Int), f x_0 x_3 = some r →
    Ret Tryz.prog 78 #[v_1, v_4] w0 fun v w1 => v = (.int .i64 r) ∧ Ch [] w0 w1
theorem ref01_cmp_ok (n : Nat) : ref01_cmp_S (ref01_cmp n) := by
  intro w0 I0 x_0 v_1 r_2 x_3 v_4 r_5 hI r h
  unfold ref01_cmp at h
  refine enter Tryz.func78 rfl (Nat.le_of_ble_eq_true rfl) ?_
  have hp : Hp ⟨w0, I0, []⟩ I0 [] w0 := Hp.start hI
  apply go
  apply go
  apply go
  apply go
  apply go
  refine ev0 (rn_len rfl rfl Tryz.underlying22 r_2) ?_
  refine ev0 (rn_len rfl rfl Tryz.underlying22 r_5) ?_
  apply go
  refine sel_of (fun hc => ?_) (fun hc => ?_)
  ·
    have h := cond_t h hc
    apply go
    apply go
    apply go
    refine ev0 (rn_len rfl rfl Tryz.underlying22 r_2) ?_
    refine ev0 (rn_len rfl rfl Tryz.underlying22 r_5) ?_
    apply go
    refine sel_of (fun hc => ?_) (fun hc => ?_)
    ·
      have h := cond_t h hc
      apply go
      apply go
      apply go
      obtain rfl := Option.some.inj h
      exact ⟨rfl, hp.ch⟩
    ·
      have h := cond_f h hc
      apply go
      apply go
      apply go
      apply go
      obtain rfl := Option.some.inj h
      exact ⟨rfl, hp.ch⟩
  ·
    have h := cond_f h hc
    apply go
    obtain ⟨y_6, q_7, h⟩ := bind_some h
    refine W.cut (γ := Unit) (fun _ => []) (fun _ w' => y_6 = .go () ∧ Hp ⟨w0, I0, []⟩ I0 [] w') ?_ ?_
    ·
      apply go
      apply go
      refine ev0 (rn_len rfl rfl Tryz.underlying22 r_2) ?_
      apply go
      refine W.loop q_7 (γ := Unit) (fun s _ => [(0, v_1), (1, v_4), (5, (.int .i64 (s)))]) (fun s _ w' => Hp ⟨w0, I0, []⟩ I0 [] w' ∧ RepS (dI .u32) w' I0 v_1 x_0 ∧ RepS (dI .u32) w' I0 v_4 x_3) () (.c rfl (.c rfl (.c rfl .n))) ⟨hp, r_2, r_5⟩ ?_
      rintro x_8 ⟨⟩ w_9 y_a ⟨hp, r_2, r_5⟩ q_b q_c
      unfold ref01_cmp_L1 at q_b
      apply go
      apply go
      apply go
      apply go
      refine sel_of (fun hc => ?_) (fun hc => ?_)
      ·
        have q_b := cond_t q_b hc
        apply go
        apply go
        apply go
        apply go
        apply go
        refine W.quiet (fun w' => Ch [] w_9 w') MX (by kernel_rfl) (Ch.drew [] w_9) ?_
        obtain ⟨x_d, q_e, q_b⟩ := bind_some q_b
        refine evq_index rfl rfl rfl Tryz.underlying22 T46 r_2 q_e ?_
        intro p_f c_g d_h a_i
        obtain rfl : c_g = [(.int .u32 x_d)] := d_h
        refine evq (fun w' hw => rn_load rfl rfl (run_loadVar1 T46 ((a_i.step (hp.stp hw)).2 0 _ rfl))) ?_
        obtain ⟨x_j, q_k, q_b⟩ := bind_some q_b
        refine evq_index rfl rfl rfl Tryz.underlying22 T46 r_5 q_k ?_
        intro p_l c_m d_n a_o
        obtain rfl : c_m = [(.int .u32 x_j)] := d_n
        refine evq (fun w' hw => rn_load rfl rfl (run_loadVar1 T46 ((a_o.step (hp.stp hw)).2 0 _ rfl))) ?_
        intro w_p hc
        have hs := hp.stp hc
        replace hp := hp.ext hc
        replace r_2 := r_2.step hs
        replace r_5 := r_5.step hs
        apply go
        refine sel_of (fun hc => ?_) (fun hc => ?_)
        ·
          have q_b := cond_t q_b hc
          apply go
          apply go
          apply go
          have q_q := congrArg some (q_c _ (Option.some.inj q_b).symm)
          obtain rfl := Option.some.inj q_q
          obtain rfl := Option.some.inj h
          exact ⟨rfl, hp.ch⟩
        ·
          have q_b := cond_f q_b hc
          apply go
          apply go
          refine W.quiet (fun w' => Ch [] w_p w') MX (by kernel_rfl) (Ch.drew [] w_p) ?_
          obtain ⟨x_r, q_s, q_b⟩ := bind_some q_b
          refine evq_index rfl rfl rfl Tryz.underlying22 T46 r_2 q_s ?_
          intro p_t c_u d_v a_w
          obtain rfl : c_u = [(.int .u32 x_r)] := d_v
          refine evq (fun w' hw => rn_load rfl rfl (run_loadVar1 T46 ((a_w.step (hp.stp hw)).2 0 _ rfl))) ?_
          obtain ⟨x_x, q_y, q_b⟩ := bind_some q_b
          refine evq_index rfl rfl rfl Tryz.underlying22 T46 r_5 q_y ?_
          intro p_z c_10 d_11 a_12
          obtain rfl : c_10 = [(.int .u32 x_x)] := d_11
          refine evq (fun w' hw => rn_load rfl rfl (run_loadVar1 T46 ((a_12.step (hp.stp hw)).2 0 _ rfl))) ?_
          intro w_13 hc
          have hs := hp.stp hc
          replace hp := hp.ext hc
          replace r_2 := r_2.step hs
          replace r_5 := r_5.step hs
          apply go
          refine sel_of (fun hc => ?_) (fun hc => ?_)
          ·
            have q_b := cond_t q_b hc
            apply go
            apply go
            apply go
            have q_14 := congrArg some (q_c _ (Option.some.inj q_b).symm)
            obtain rfl := Option.some.inj q_14
            obtain rfl := Option.some.inj h
            exact ⟨rfl, hp.ch⟩
          ·
            have q_b := cond_f q_b hc
            apply go
            apply go
            exact ⟨_, (Option.some.inj q_b).symm, (), (.c rfl (.c rfl (.c rfl .n))), ⟨hp, r_2, r_5⟩⟩
      ·
        have q_b := cond_f q_b hc
        apply go
        have q_15 := congrArg some (q_c _ (Option.some.inj q_b).symm)
        obtain rfl := Option.some.inj q_15
        exact ⟨(), .n, rfl, hp⟩
    ·
      rintro ⟨⟩ w_16 ⟨hy, hp⟩
      replace hy := hy.symm
      subst hy
      apply go
      apply go
      apply go
      obtain rfl := Option.some.inj h
      exact ⟨rfl, hp.ch⟩

end Go.Proofs.YtepadjfmcbjkmaaGreatDoor

namespace Go.Proofs.YtepadjfmcbjkmaaGreatDoor
open Go Go.Proofs.YtepadjfmcbjkmaaGreatDoor.Gw Go.RowKit
set_option linter.unusedVariables false
attribute [local irreducible] Ev EvQ EvS EvH
def ref01_sub_S (f : (List Int) → (List Int) → Option (List Int)) : Prop := ∀ (w0 : World) (I0 : Nat → Prop) (x_0 : (List Int)) (v_1 : Value) (r_2 : RepS (dI .u32) w0 I0 v_1 x_0) (x_3 : (List Int)) (v_4 : Value) (r_5 : RepS (dI .u32) w0 I0 v_4 x_3) (hI : ∀ g, I0 g → g < w0.heap.size) (r : (List Int)), f x_0 x_3 = some r →
    Ret Tryz.prog 104 #[v_1, v_4] w0 fun v w1 => ∃ (I1 : Nat → Prop) (u_6 : Value), v = u_6 ∧ Hp ⟨w0, I0, []⟩ I1 [] w1 ∧ RepS (dI .u32) w1 I1 u_6 r
theorem ref01_sub_ok (n : Nat) : ref01_sub_S (ref01_sub n) := by
  intro w0 I0 x_0 v_1 r_2 x_3 v_4 r_5 hI r h
  unfold ref01_sub at h
  refine enter Tryz.func104 rfl (Nat.le_of_ble_eq_true rfl) ?_
  have hp : Hp ⟨w0, I0, []⟩ I0 [] w0 := Hp.start hI
  apply go
  apply go
  apply go
  apply go
  apply go
  apply go
  obtain ⟨y_6, q_7, h⟩ := bind_some h
  refine W.cut (γ := ((List Int) × Value × Ent × (Nat → Prop))) (fun g => [(5, (g.2.1))]) (fun g w' => y_6 = (g.1) ∧ Hp ⟨w0, I0, []⟩ (g.2.2.2) [(g.2.2.1)] w' ∧ OwnS (dI .u32) 46 w' (g.2.2.2) (g.2.1) (g.2.2.1) (g.1)) ?_ ?_
  ·
    apply go
    apply go
    apply go
    have hp := hp.none_
    have o_8 := OwnS.nil (dI .u32) 46 w0 I0
    refine W.loop q_7 (γ := (Value × Ent × (Nat → Prop))) (fun s g => [(0, v_1), (1, v_4), (5, (g.1)), (6, (.int .i64 (s.2.1))), (7, (.int .i64 (s.2.2)))]) (fun s g w' => Hp ⟨w0, I0, []⟩ (g.2.2) [(g.2.1)] w' ∧ RepS (dI .u32) w' (g.2.2) v_1 x_0 ∧ RepS (dI .u32) w' (g.2.2) v_4 x_3 ∧ OwnS (dI .u32) 46 w' (g.2.2) (g.1) (g.2.1) (s.1)) ((.slice none 0 0), none, I0) (.c rfl (.c rfl (.c rfl (.c rfl (.c rfl .n))))) ⟨hp, r_2, r_5, o_8⟩ ?_
    rintro ⟨x_9, x_a, x_b⟩ ⟨v_c, e_d, I_e⟩ w_f y_g ⟨hp, r_2, r_5, o_h⟩ q_i q_j
    unfold ref01_sub_L1 at q_i
    apply go
    apply go
    apply go
    refine ev0 (rn_len rfl rfl Tryz.underlying22 r_2) ?_
    apply go
    refine sel_of (fun hc => ?_) (fun hc => ?_)
    ·
      have q_i := cond_t q_i hc
      apply go
      apply go
      apply go
      apply go
      apply go
      obtain ⟨x_k, q_l, q_i⟩ := bind_some q_i
      refine ev_index rfl rfl rfl Tryz.underlying22 T46 r_2 q_l ?_
      intro p_m c_n d_o a_p
      obtain rfl : c_n = [(.int .u32 x_k)] := d_o
      refine ev (rn_load rfl rfl (run_loadVar1 T46 (a_p.2 0 _ rfl))) ?_
      refine ev0 (rn_conv rfl rfl U46 Tryz.underlying2) ?_
      obtain ⟨y_q, q_r, q_i⟩ := bind_some q_i
      refine W.cut (γ := Int) (fun g => [(0, v_1), (1, v_4), (5, v_c), (7, (.int .i64 x_b)), (8, (.int .i64 (g)))]) (fun g w' => y_q = (g) ∧ w_f = w') ?_ ?_
      ·
        apply go
        apply go
        refine ev0 (rn_len rfl rfl Tryz.underlying22 r_5) ?_
        apply go
        refine sel_of (fun hc => ?_) (fun hc => ?_)
        ·
          have q_r := cond_t q_r hc
          apply go
          obtain ⟨x_s, q_t, q_r⟩ := bind_some q_r
          refine ev_index rfl rfl rfl Tryz.underlying22 T46 r_5 q_t ?_
          intro p_u c_v d_w a_x
          obtain rfl : c_v = [(.int .u32 x_s)] := d_w
          refine ev (rn_load rfl rfl (run_loadVar1 T46 (a_x.2 0 _ rfl))) ?_
          refine ev0 (rn_conv rfl rfl U46 Tryz.underlying2) ?_
          obtain rfl := Option.some.inj q_r
          exact ⟨(IntKind.i64.wrap ((IntKind.i64.wrap ((IntKind.i64.wrap x_k) - x_a)) - (IntKind.i64.wrap x_s))), (.c rfl (.c rfl (.c rfl (.c rfl (.c rfl .n))))), rfl, rfl⟩
        ·
          have q_r := cond_f q_r hc
          apply go
          obtain rfl := Option.some.inj q_r
          exact ⟨(IntKind.i64.wrap ((IntKind.i64.wrap x_k) - x_a)), (.c rfl (.c rfl (.c rfl (.c rfl (.c rfl .n))))), rfl, rfl⟩
      ·
        rintro x_y _ ⟨hy, rfl⟩
        replace hy := hy.symm
        subst hy
        apply go
        apply go
        obtain ⟨y_z, q_10, q_i⟩ := bind_some q_i
        refine W.cut (γ := (Int × Int)) (fun g => [(0, v_1), (1, v_4), (5, v_c), (6, (.int .i64 (g.1))), (7, (.int .i64 x_b)), (8, (.int .i64 (g.2)))]) (fun g w' => y_z = ((g.1), (g.2)) ∧ w_f = w') ?_ ?_
        ·
          apply go
          apply go
          apply go
          refine sel_of (fun hc => ?_) (fun hc => ?_)
          ·
            have q_10 := cond_t q_10 hc
            apply go
            apply go
            apply go
            obtain rfl := Option.some.inj q_10
            exact ⟨(1, (IntKind.i64.wrap (x_y + 4294967296))), (.c rfl (.c rfl (.c rfl (.c rfl (.c rfl (.c rfl .n)))))), rfl, rfl⟩
          ·
            have q_10 := cond_f q_10 hc
            apply go
            obtain rfl := Option.some.inj q_10
            exact ⟨(0, x_y), (.c rfl (.c rfl (.c rfl (.c rfl (.c rfl (.c rfl .n)))))), rfl, rfl⟩
        ·
          rintro ⟨x_11, x_12⟩ _ ⟨hy, rfl⟩
          replace hy := hy.symm
          subst hy
          apply go
          refine ev0 (rn_conv rfl rfl U2 Tryz.underlying46) ?_
          refine ev_litN (d := (dI .u32)) (xs := [(IntKind.u32.wrap x_12)]) (cs := [(.int .u32 (IntKind.u32.wrap x_12))]) hp rfl rfl Tryz.underlying22 T46 (by decide) rfl rfl (Elems.cons (d := (dI .u32)) (xs := _) rfl (Elems.nil _ _ _ _)) ?_
          intro v_13 I_14 w_15 hp hs r_16
          replace r_2 := r_2.step hs
          replace r_5 := r_5.step hs
          replace o_h := o_h.step hs
          obtain ⟨x_17, q_18, q_i⟩ := bind_some q_i
          refine ev_append hp (i := 0) rfl rfl rfl rfl Tryz.underlying22 T46 rfl rfl o_h r_16 q_18 ?_
          rintro v_19 e_1a w_1b hp hs o_1c
          replace r_2 := r_2.step hs
          replace r_5 := r_5.step hs
          apply go
          exact ⟨_, (Option.some.inj q_i).symm, (v_19, e_1a, I_14), (.c rfl (.c rfl (.c rfl (.c rfl (.c rfl .n))))), ⟨hp, r_2, r_5, o_1c⟩⟩
    ·
      have q_i := cond_f q_i hc
      apply go
      have q_1d := congrArg some (q_j _ (Option.some.inj q_i).symm)
      obtain rfl := Option.some.inj q_1d
      exact ⟨(x_9, v_c, e_d, I_e), (.c rfl .n), rfl, hp, o_h⟩
  ·
    rintro ⟨x_1e, v_1f, e_1g, I_1h⟩ w_1i ⟨hy, hp, o_1j⟩
    replace hy := hy.symm
    subst hy
    apply go
    apply go
    have r_1k := o_1j.frz hp (i := 0) rfl
    obtain ⟨hp, hs⟩ := freeze_hp hp (i := 0) rfl
    have hp := hp.sel [] (by decide)
    obtain ⟨x_1l, q_1m, h⟩ := bind_some h
    refine ev_call rfl rfl C100 (((ref01_trim_ok n) _ _  x_1e v_1f r_1k hp.imm _ q_1m).mono ?_)
    rintro _ w_1n ⟨I_1o, v_1p, e_1q, hv, hq, o_1r⟩
    replace hv := hv.symm
    subst hv
    have hs := hq.st
    have hp := hp.join0 hq
    apply go
    obtain rfl := Option.some.inj h
    have r_1s := o_1r.frz hp (i := 0) rfl
    obtain ⟨hp, hs⟩ := freeze_hp hp (i := 0) rfl
    have hp := hp.sel [] (by decide)
    exact ⟨(Ad I_1o e_1q), v_1p, rfl, hp, r_1s⟩

end Go.Proofs.YtepadjfmcbjkmaaGreatDoor

namespace Go.Proofs.YtepadjfmcbjkmaaGreatDoor
open Go Go.Proofs.YtepadjfmcbjkmaaGreatDoor.Gw Go.RowKit
set_option linter.unusedVariables false
attribute [local irreducible] Ev EvQ EvS EvH
def ref01_add_S (f : (List Int) → (List Int) → Option (List Int)) : Prop := ∀ (w0 : World) (I0 : Nat → Prop) (x_0 : (List Int)) (v_1 : Value) (r_2 : RepS (dI .u32) w0 I0 v_1 x_0) (x_3 : (List Int)) (v_4 : Value) (r_5 : RepS (dI .u32) w0 I0 v_4 x_3) (hI : ∀ g, I0 g → g < w0.heap.size) (r : (List Int)), f x_0 x_3 = some r →
    Ret Tryz.prog 105 #[v_1, v_4] w0 fun v w1 => ∃ (I1 : Nat → Prop) (u_6 : Value), v = u_6 ∧ Hp ⟨w0, I0, []⟩ I1 [] w1 ∧ RepS (dI .u32) w1 I1 u_6 r
theorem ref01_add_ok (n : Nat) : ref01_add_S (ref01_add n) := by
  intro w0 I0 x_0 v_1 r_2 x_3 v_4 r_5 hI r h
  unfold ref01_add at h
  refine enter Tryz.func105 rfl (Nat.le_of_ble_eq_true rfl) ?_
  have hp : Hp ⟨w0, I0, []⟩ I0 [] w0 := Hp.start hI
  apply go
  apply go
  apply go
  apply go
  apply go
  apply go
  obtain ⟨y_6, q_7, h⟩ := bind_some h
  refine W.cut (γ := ((List Int) × Value × Ent × (Nat → Prop))) (fun g => [(5, (g.2.1))]) (fun g w' => y_6 = (g.1) ∧ Hp ⟨w0, I0, []⟩ (g.2.2.2) [(g.2.2.1)] w' ∧ OwnS (dI .u32) 46 w' (g.2.2.2) (g.2.1) (g.2.2.1) (g.1)) ?_ ?_
  ·
    apply go
    apply go
    apply go
    have hp := hp.none_
    have o_8 := OwnS.nil (dI .u32) 46 w0 I0
    refine W.loop q_7 (γ := (Value × Ent × (Nat → Prop))) (fun s g => [(0, v_1), (1, v_4), (5, (g.1)), (6, (.int .u64 (s.2.1))), (7, (.int .i64 (s.2.2)))]) (fun s g w' => Hp ⟨w0, I0, []⟩ (g.2.2) [(g.2.1)] w' ∧ RepS (dI .u32) w' (g.2.2) v_1 x_0 ∧ RepS (dI .u32) w' (g.2.2) v_4 x_3 ∧ OwnS (dI .u32) 46 w' (g.2.2) (g.1) (g.2.1) (s.1)) ((.slice none 0 0), none, I0) (.c rfl (.c rfl (.c rfl (.c rfl (.c rfl .n))))) ⟨hp, r_2, r_5, o_8⟩ ?_
    rintro ⟨x_9, x_a, x_b⟩ ⟨v_c, e_d, I_e⟩ w_f y_g ⟨hp, r_2, r_5, o_h⟩ q_i q_j
    unfold ref01_add_L1 at q_i
    apply go
    obtain ⟨y_k, q_l, q_i⟩ := bind_some q_i
    refine W.cut (γ := Bool) (fun g => [(0, v_1), (1, v_4), (5, v_c), (6, (.int .u64 x_a)), (7, (.int .i64 x_b)), (21, (.bool (g)))]) (fun g w' => y_k = (g) ∧ w_f = w') ?_ ?_
    ·
      apply go
      refine ev0 (rn_len rfl rfl Tryz.underlying22 r_2) ?_
      refine sel_of (fun hc => ?_) (fun hc => ?_)
      ·
        have q_l := cond_t q_l hc
        obtain rfl := Option.some.inj q_l
        exact ⟨true, (.c rfl (.c rfl (.c rfl (.c rfl (.c rfl (.c rfl .n)))))), rfl, rfl⟩
      ·
        have q_l := cond_f q_l hc
        refine ev0 (rn_len rfl rfl Tryz.underlying22 r_5) ?_
        refine sel_of (fun hc => ?_) (fun hc => ?_)
        ·
          have q_l := cond_t q_l hc
          obtain rfl := Option.some.inj q_l
          exact ⟨true, (.c rfl (.c rfl (.c rfl (.c rfl (.c rfl (.c rfl .n)))))), rfl, rfl⟩
        ·
          have q_l := cond_f q_l hc
          obtain rfl := Option.some.inj q_l
          exact ⟨(decide (x_a > 0)), (.c rfl (.c rfl (.c rfl (.c rfl (.c rfl (.c rfl .n)))))), rfl, rfl⟩
    ·
      rintro x_m _ ⟨hy, rfl⟩
      replace hy := hy.symm
      subst hy
      apply go
      refine sel_of (fun hc => ?_) (fun hc => ?_)
      ·
        have q_i := cond_t q_i hc
        apply go
        apply go
        apply go
        obtain ⟨y_n, q_o, q_i⟩ := bind_some q_i
        refine W.cut (γ := Int) (fun g => [(0, v_1), (1, v_4), (5, v_c), (6, (.int .u64 (g))), (7, (.int .i64 x_b))]) (fun g w' => y_n = (g) ∧ w_f = w') ?_ ?_
        ·
          apply go
          apply go
          refine ev0 (rn_len rfl rfl Tryz.underlying22 r_2) ?_
          apply go
          refine sel_of (fun hc => ?_) (fun hc => ?_)
          ·
            have q_o := cond_t q_o hc
            apply go
            obtain ⟨x_p, q_q, q_o⟩ := bind_some q_o
            refine ev_index rfl rfl rfl Tryz.underlying22 T46 r_2 q_q ?_
            intro p_r c_s d_t a_u
            obtain rfl : c_s = [(.int .u32 x_p)] := d_t
            refine ev (rn_load rfl rfl (run_loadVar1 T46 (a_u.2 0 _ rfl))) ?_
            refine ev0 (rn_conv rfl rfl U46 Tryz.underlying75) ?_
            obtain rfl := Option.some.inj q_o
            exact ⟨(IntKind.u64.wrap (x_a + (IntKind.u64.wrap x_p))), (.c rfl (.c rfl (.c rfl (.c rfl (.c rfl .n))))), rfl, rfl⟩
          ·
            have q_o := cond_f q_o hc
            apply go
            obtain rfl := Option.some.inj q_o
            exact ⟨x_a, (.c rfl (.c rfl (.c rfl (.c rfl (.c rfl .n))))), rfl, rfl⟩
        ·
          rintro x_v _ ⟨hy, rfl⟩
          replace hy := hy.symm
          subst hy
          obtain ⟨y_w, q_x, q_i⟩ := bind_some q_i
          refine W.cut (γ := Int) (fun g => [(0, v_1), (1, v_4), (5, v_c), (6, (.int .u64 (g))), (7, (.int .i64 x_b))]) (fun g w' => y_w = (g) ∧ w_f = w') ?_ ?_
          ·
            apply go
            apply go
            refine ev0 (rn_len rfl rfl Tryz.underlying22 r_5) ?_
            apply go
            refine sel_of (fun hc => ?_) (fun hc => ?_)
            ·
              have q_x := cond_t q_x hc
              apply go
              obtain ⟨x_y, q_z, q_x⟩ := bind_some q_x
              refine ev_index rfl rfl rfl Tryz.underlying22 T46 r_5 q_z ?_
              intro p_10 c_11 d_12 a_13
              obtain rfl : c_11 = [(.int .u32 x_y)] := d_12
              refine ev (rn_load rfl rfl (run_loadVar1 T46 (a_13.2 0 _ rfl))) ?_
              refine ev0 (rn_conv rfl rfl U46 Tryz.underlying75) ?_
              obtain rfl := Option.some.inj q_x
              exact ⟨(IntKind.u64.wrap (x_v + (IntKind.u64.wrap x_y))), (.c rfl (.c rfl (.c rfl (.c rfl (.c rfl .n))))), rfl, rfl⟩
            ·
              have q_x := cond_f q_x hc
              apply go
              obtain rfl := Option.some.inj q_x
              exact ⟨x_v, (.c rfl (.c rfl (.c rfl (.c rfl (.c rfl .n))))), rfl, rfl⟩
          ·
            rintro x_14 _ ⟨hy, rfl⟩
            replace hy := hy.symm
            subst hy
            apply go
            apply go
            refine ev0 (rn_conv rfl rfl U75 Tryz.underlying46) ?_
            refine ev_litN (d := (dI .u32)) (xs := [(IntKind.u32.wrap x_14)]) (cs := [(.int .u32 (IntKind.u32.wrap x_14))]) hp rfl rfl Tryz.underlying22 T46 (by decide) rfl rfl (Elems.cons (d := (dI .u32)) (xs := _) rfl (Elems.nil _ _ _ _)) ?_
            intro v_15 I_16 w_17 hp hs r_18
            replace r_2 := r_2.step hs
            replace r_5 := r_5.step hs
            replace o_h := o_h.step hs
            obtain ⟨x_19, q_1a, q_i⟩ := bind_some q_i
            refine ev_append hp (i := 0) rfl rfl rfl rfl Tryz.underlying22 T46 rfl rfl o_h r_18 q_1a ?_
            rintro v_1b e_1c w_1d hp hs o_1e
            replace r_2 := r_2.step hs
            replace r_5 := r_5.step hs
            apply go
            refine ⟨by decide, ?_⟩
            apply go
            exact ⟨_, (Option.some.inj q_i).symm, (v_1b, e_1c, I_16), (.c rfl (.c rfl (.c rfl (.c rfl (.c rfl .n))))), ⟨hp, r_2, r_5, o_1e⟩⟩
      ·
        have q_i := cond_f q_i hc
        apply go
        have q_1f := congrArg some (q_j _ (Option.some.inj q_i).symm)
        obtain rfl := Option.some.inj q_1f
        exact ⟨(x_9, v_c, e_d, I_e), (.c rfl .n), rfl, hp, o_h⟩
  ·
    rintro ⟨x_1g, v_1h, e_1i, I_1j⟩ w_1k ⟨hy, hp, o_1l⟩
    replace hy := hy.symm
    subst hy
    apply go
    apply go
    have r_1m := o_1l.frz hp (i := 0) rfl
    obtain ⟨hp, hs⟩ := freeze_hp hp (i := 0) rfl
    have hp := hp.sel [] (by decide)
    obtain ⟨x_1n, q_1o, h⟩ := bind_some h
    refine ev_call rfl rfl C100 (((ref01_trim_ok n) _ _  x_1g v_1h r_1m hp.imm _ q_1o).mono ?_)
    rintro _ w_1p ⟨I_1q, v_1r, e_1s, hv, hq, o_1t⟩
    replace hv := hv.symm
    subst hv
    have hs := hq.st
    have hp := hp.join0 hq
    apply go
    obtain rfl := Option.some.inj h
    have r_1u := o_1t.frz hp (i := 0) rfl
    obtain ⟨hp, hs⟩ := freeze_hp hp (i := 0) rfl
    have hp := hp.sel [] (by decide)
    exact ⟨(Ad I_1q e_1s), v_1r, rfl, hp, r_1u⟩

end Go.Proofs.YtepadjfmcbjkmaaGreatDoor

namespace Go.Proofs.YtepadjfmcbjkmaaGreatDoor
open Go Go.Proofs.YtepadjfmcbjkmaaGreatDoor.Gw Go.RowKit
set_option linter.unusedVariables false
attribute [local irreducible] Ev EvQ EvS EvH
def ref01_Add_S (f : Int_2 → Int_2 → Option Int_2) : Prop := ∀ (w0 : World) (I0 : Nat → Prop) (x_0 : Int_2) (v_1 : Value) (r_2 : RepS (dI .u32) w0 I0 v_1 x_0.Mag) (x_3 : Int_2) (v_4 : Value) (r_5 : RepS (dI .u32) w0 I0 v_4 x_3.Mag) (hI : ∀ g, I0 g → g < w0.heap.size) (r : Int_2), f x_0 x_3 = some r →
    Ret Tryz.prog 84 #[(.agg #[(.bool x_0.Neg), v_1]), (.agg #[(.bool x_3.Neg), v_4])] w0 fun v w1 => ∃ (I1 : Nat → Prop) (u_6 : Value), v = (.agg #[(.bool r.Neg), u_6]) ∧ Hp ⟨w0, I0, []⟩ I1 [] w1 ∧ RepS (dI .u32) w1 I1 u_6 r.Mag
theorem ref01_Add_ok (n : Nat) : ref01_Add_S (ref01_Add n) := by
  intro w0 I0 x_0 v_1 r_2 x_3 v_4 r_5 hI r h
  unfold ref01_Add at h
  refine enter Tryz.func84 rfl (Nat.le_of_ble_eq_true rfl) ?_
  have hp : Hp ⟨w0, I0, []⟩ I0 [] w0 := Hp.start hI
  apply go
  apply go
  refine ev_box hp rfl rfl ?_
  intro g_6 w_7 hp hs
  replace r_5 := r_5.step hs
  replace r_2 := r_2.step hs
  refine ev_box hp rfl rfl ?_
  intro g_8 w_9 hp hs
  replace r_5 := r_5.step hs
  replace r_2 := r_2.step hs
  refine ev_alloc hp rfl T24 ?_
  intro g_a w_b hp hs
  replace r_5 := r_5.step hs
  replace r_2 := r_2.step hs
  apply go
  apply go
  refine ev (rn_load rfl rfl (run_loadVarA T24 rfl (hp.at_ (i := 2) rfl))) ?_
  obtain ⟨x_c, q_d, h⟩ := bind_some h
  refine ev_call rfl rfl C77 (((ref01_Norm_ok n) _ _  (Int_2.mk x_0.Neg x_0.Mag) v_1 r_2 hp.imm _ q_d).mono ?_)
  rintro _ w_e ⟨I_f, v_g, hv, hq, r_h⟩
  replace hv := hv.symm
  subst hv
  have hs := hq.st
  have hp := hp.join0 hq
  replace r_5 := r_5.step hs
  replace r_2 := r_2.step hs
  refine ev_storeA hp (i := 2) (off := 0) (vs := [(.bool x_c.Neg), v_g]) rfl rfl rfl rfl T24 rfl (Nat.le_of_ble_eq_true rfl) (ones_cons rfl (ones_cons r_h.one ones_nil)) ?_
  intro w_i hp hs
  replace r_5 := r_5.step hs
  replace r_h := r_h.step hs
  apply go
  apply go
  refine ev (rn_load rfl rfl (run_loadVarA T24 rfl (hp.at_ (i := 1) rfl))) ?_
  obtain ⟨x_j, q_k, h⟩ := bind_some h
  refine ev_call rfl rfl C77 (((ref01_Norm_ok n) _ _  (Int_2.mk x_3.Neg x_3.Mag) v_4 r_5 hp.imm _ q_k).mono ?_)
  rintro _ w_l ⟨I_m, v_n, hv, hq, r_o⟩
  replace hv := hv.symm
  subst hv
  have hs := hq.st
  have hp := hp.join0 hq
  replace r_5 := r_5.step hs
  replace r_h := r_h.step hs
  refine ev_storeA hp (i := 1) (off := 0) (vs := [(.bool x_j.Neg), v_n]) rfl rfl rfl rfl T24 rfl (Nat.le_of_ble_eq_true rfl) (ones_cons rfl (ones_cons r_o.one ones_nil)) ?_
  intro w_p hp hs
  replace r_o := r_o.step hs
  replace r_h := r_h.step hs
  apply go
  apply go
  apply go
  refine ev0 (rn_field rfl rfl FO24_0) ?_
  refine ev (rn_load rfl rfl (run_loadVar1 T4 (hp.cell (i := 2) (off := 0) rfl rfl))) ?_
  refine ev0 (rn_field rfl rfl FO24_0) ?_
  refine ev (rn_load rfl rfl (run_loadVar1 T4 (hp.cell (i := 1) (off := 0) rfl rfl))) ?_
  refine ev0 (rn_eqB rfl rfl rfl Tryz.underlying4) ?_
  apply go
  refine sel_of (fun hc => ?_) (fun hc => ?_)
  ·
    have h := cond_t h hc
    apply go
    have hs := hp.stp (Ch.drew [] w_p)
    have hp := hp.drew
    replace r_o := r_o.step hs
    replace r_h := r_h.step hs
    refine W.held [(0, true), (1, true), (2, true), (3, true), (4, true), (5, true), (6, false), (7, true), (8, false), (9, false)] (fun x => Stp I_m w_p.drew I_m x ∧ OwnK [(g_6, [(.bool x_c.Neg), v_g], 24), (g_8, [(.bool x_j.Neg), v_n], 24)] x) MX (by kernel_rfl) ⟨Stp.refl _ _, (OwnK.cons (hp.own 2 _ _ _ rfl).1 (OwnK.cons (hp.own 1 _ _ _ rfl).1 OwnK.nil))⟩ ?_
    have hz := Stp.refl I_m w_p.drew
    refine evh0 (rn_field rfl rfl FO24_0) ?_
    refine evh (fun w' hw => rn_load rfl rfl (run_loadVar1 T4 (hw.2.cell (i := 0) (off := 0) rfl rfl))) ?_
    refine evh0 (rn_field rfl rfl FO24_1) ?_
    refine evh (fun w' hw => rn_load rfl rfl (run_loadVar1 T22 (hw.2.cell (i := 0) (off := 1) rfl rfl))) ?_
    refine evh0 (rn_field rfl rfl FO24_1) ?_
    refine evh (fun w' hw => rn_load rfl rfl (run_loadVar1 T22 (hw.2.cell (i := 1) (off := 1) rfl rfl))) ?_
    obtain ⟨x_q, q_r, h⟩ := bind_some h
    refine ev_call rfl rfl C105 (((ref01_add_ok n) _ _  x_c.Mag v_g r_h x_j.Mag v_n r_o hp.imm _ q_r).mono ?_)
    rintro _ w_s ⟨I_t, v_u, hv, hq, r_v⟩
    replace hv := hv.symm
    subst hv
    have hs := hq.st
    have hp := hp.join0 hq
    replace hz := hz.trans hs
    replace r_o := r_o.step hs
    replace r_h := r_h.step hs
    refine ⟨fun x => Stp I_t w_s I_t x ∧ OwnK [(g_6, [(.bool x_c.Neg), v_g], 24), (g_8, [(.bool x_j.Neg), v_n], 24)] x, ⟨Stp.refl _ _, (OwnK.cons (hp.own 2 _ _ _ rfl).1 (OwnK.cons (hp.own 1 _ _ _ rfl).1 OwnK.nil))⟩, fun x hx => ⟨hz.held hx.1, hx.2⟩, ?_⟩
    have hz := Stp.refl I_t w_s
    obtain ⟨A_w, m_x, m_y, rfl⟩ := r_v.isSl
    refine evh0 (fun w => rn_build (cs := [(.bool x_c.Neg), (.slice A_w m_x m_y)]) rfl rfl T24 PL24 rfl) ?_
    obtain ⟨x_z, q_10, h⟩ := bind_some h
    refine ev_call rfl rfl C77 (((ref01_Norm_ok n) _ _  (Int_2.mk x_c.Neg x_q) (.slice A_w m_x m_y) r_v hp.imm _ q_10).mono ?_)
    rintro _ w_11 ⟨I_12, v_13, hv, hq, r_14⟩
    replace hv := hv.symm
    subst hv
    have hs := hq.st
    have hp := hp.join0 hq
    replace hz := hz.trans hs
    replace r_o := r_o.step hs
    replace r_h := r_h.step hs
    refine ⟨fun x => Stp I_12 w_11 I_12 x ∧ OwnK [(g_6, [(.bool x_c.Neg), v_g], 24), (g_8, [(.bool x_j.Neg), v_n], 24)] x, ⟨Stp.refl _ _, (OwnK.cons (hp.own 2 _ _ _ rfl).1 (OwnK.cons (hp.own 1 _ _ _ rfl).1 OwnK.nil))⟩, fun x hx => ⟨hz.held hx.1, hx.2⟩, ?_⟩
    have hz := Stp.refl I_12 w_11
    refine ev_storeA hp (i := 0) (off := 0) (vs := [(.bool x_z.Neg), v_13]) rfl rfl rfl rfl T24 rfl (Nat.le_of_ble_eq_true rfl) (ones_cons rfl (ones_cons r_14.one ones_nil)) ?_
    intro w_15 hp hs
    replace hz := hz.trans hs
    replace r_14 := r_14.step hs
    replace r_o := r_o.step hs
    replace r_h := r_h.step hs
    refine ⟨fun x => Stp I_12 w_15 I_12 x ∧ OwnK [(g_6, [(.bool x_c.Neg), v_g], 24), (g_8, [(.bool x_j.Neg), v_n], 24)] x, ⟨Stp.refl _ _, (OwnK.cons (hp.own 2 _ _ _ rfl).1 (OwnK.cons (hp.own 1 _ _ _ rfl).1 OwnK.nil))⟩, fun x hx => ⟨hz.held hx.1, hx.2⟩, ?_⟩
    have hz := Stp.refl I_12 w_15
    apply go
    obtain rfl := Option.some.inj h
    refine ⟨_, run_loadVarA T24 rfl (hp.at_ (i := 0) rfl), ?_⟩
    have hp := hp.sel [] (by decide)
    exact ⟨I_12, v_13, rfl, hp, r_14⟩
  ·
    have h := cond_f h hc
    apply go
    apply go
    apply go
    apply go
    refine ev0 (rn_field rfl rfl FO24_1) ?_
    refine ev (rn_load rfl rfl (run_loadVar1 T22 (hp.cell (i := 2) (off := 1) rfl rfl))) ?_
    refine ev0 (rn_field rfl rfl FO24_1) ?_
    refine ev (rn_load rfl rfl (run_loadVar1 T22 (hp.cell (i := 1) (off := 1) rfl rfl))) ?_
    obtain ⟨x_16, q_17, h⟩ := bind_some h
    refine ev_call rfl rfl C78 (((ref01_cmp_ok n) _ _  x_c.Mag v_g r_h x_j.Mag v_n r_o hp.imm _ q_17).mono ?_)
    rintro _ w_18 ⟨rfl, hc⟩
    have hs := hp.stp hc
    replace hp := hp.ext hc
    replace r_o := r_o.step hs
    replace r_h := r_h.step hs
    apply go
    refine sel_of (fun hc => ?_) (fun hc => ?_)
    ·
      have h := cond_t h hc
      apply go
      have hs := hp.stp (Ch.drew [] w_18)
      have hp := hp.drew
      replace r_o := r_o.step hs
      replace r_h := r_h.step hs
      refine W.held [(0, true), (1, true), (2, true), (3, true), (4, true), (5, true), (6, false), (7, true), (8, false), (9, false)] (fun x => Stp I_m w_18.drew I_m x ∧ OwnK [(g_8, [(.bool x_j.Neg), v_n], 24), (g_6, [(.bool x_c.Neg), v_g], 24)] x) MX (by kernel_rfl) ⟨Stp.refl _ _, (OwnK.cons (hp.own 1 _ _ _ rfl).1 (OwnK.cons (hp.own 2 _ _ _ rfl).1 OwnK.nil))⟩ ?_
      have hz := Stp.refl I_m w_18.drew
      refine evh0 (rn_field rfl rfl FO24_0) ?_
      refine evh (fun w' hw => rn_load rfl rfl (run_loadVar1 T4 (hw.2.cell (i := 0) (off := 0) rfl rfl))) ?_
      refine evh0 (rn_field rfl rfl FO24_1) ?_
      refine evh (fun w' hw => rn_load rfl rfl (run_loadVar1 T22 (hw.2.cell (i := 0) (off := 1) rfl rfl))) ?_
      refine evh0 (rn_field rfl rfl FO24_1) ?_
      refine evh (fun w' hw => rn_load rfl rfl (run_loadVar1 T22 (hw.2.cell (i := 1) (off := 1) rfl rfl))) ?_
      obtain ⟨x_19, q_1a, h⟩ := bind_some h
      refine ev_call rfl rfl C104 (((ref01_sub_ok n) _ _  x_j.Mag v_n r_o x_c.Mag v_g r_h hp.imm _ q_1a).mono ?_)
      rintro _ w_1b ⟨I_1c, v_1d, hv, hq, r_1e⟩
      replace hv := hv.symm
      subst hv
      have hs := hq.st
      have hp := hp.join0 hq
      replace hz := hz.trans hs
      replace r_o := r_o.step hs
      replace r_h := r_h.step hs
      refine ⟨fun x => Stp I_1c w_1b I_1c x ∧ OwnK [(g_8, [(.bool x_j.Neg), v_n], 24), (g_6, [(.bool x_c.Neg), v_g], 24)] x, ⟨Stp.refl _ _, (OwnK.cons (hp.own 1 _ _ _ rfl).1 (OwnK.cons (hp.own 2 _ _ _ rfl).1 OwnK.nil))⟩, fun x hx => ⟨hz.held hx.1, hx.2⟩, ?_⟩
      have hz := Stp.refl I_1c w_1b
      obtain ⟨A_1f, m_1g, m_1h, rfl⟩ := r_1e.isSl
      refine evh0 (fun w => rn_build (cs := [(.bool x_j.Neg), (.slice A_1f m_1g m_1h)]) rfl rfl T24 PL24 rfl) ?_
      obtain ⟨x_1i, q_1j, h⟩ := bind_some h
      refine ev_call rfl rfl C77 (((ref01_Norm_ok n) _ _  (Int_2.mk x_j.Neg x_19) (.slice A_1f m_1g m_1h) r_1e hp.imm _ q_1j).mono ?_)
      rintro _ w_1k ⟨I_1l, v_1m, hv, hq, r_1n⟩
      replace hv := hv.symm
      subst hv
      have hs := hq.st
      have hp := hp.join0 hq
      replace hz := hz.trans hs
      replace r_o := r_o.step hs
      replace r_h := r_h.step hs
      refine ⟨fun x => Stp I_1l w_1k I_1l x ∧ OwnK [(g_8, [(.bool x_j.Neg), v_n], 24), (g_6, [(.bool x_c.Neg), v_g], 24)] x, ⟨Stp.refl _ _, (OwnK.cons (hp.own 1 _ _ _ rfl).1 (OwnK.cons (hp.own 2 _ _ _ rfl).1 OwnK.nil))⟩, fun x hx => ⟨hz.held hx.1, hx.2⟩, ?_⟩
      have hz := Stp.refl I_1l w_1k
      refine ev_storeA hp (i := 0) (off := 0) (vs := [(.bool x_1i.Neg), v_1m]) rfl rfl rfl rfl T24 rfl (Nat.le_of_ble_eq_true rfl) (ones_cons rfl (ones_cons r_1n.one ones_nil)) ?_
      intro w_1o hp hs
      replace hz := hz.trans hs
      replace r_1n := r_1n.step hs
      replace r_o := r_o.step hs
      replace r_h := r_h.step hs
      refine ⟨fun x => Stp I_1l w_1o I_1l x ∧ OwnK [(g_8, [(.bool x_j.Neg), v_n], 24), (g_6, [(.bool x_c.Neg), v_g], 24)] x, ⟨Stp.refl _ _, (OwnK.cons (hp.own 1 _ _ _ rfl).1 (OwnK.cons (hp.own 2 _ _ _ rfl).1 OwnK.nil))⟩, fun x hx => ⟨hz.held hx.1, hx.2⟩, ?_⟩
      have hz := Stp.refl I_1l w_1o
      apply go
      obtain rfl := Option.some.inj h
      refine ⟨_, run_loadVarA T24 rfl (hp.at_ (i := 0) rfl), ?_⟩
      have hp := hp.sel [] (by decide)
      exact ⟨I_1l, v_1m, rfl, hp, r_1n⟩
    ·
      have h := cond_f h hc
      apply go
      apply go
      have hs := hp.stp (Ch.drew [] w_18)
      have hp := hp.drew
      replace r_o := r_o.step hs
      replace r_h := r_h.step hs
      refine W.held [(0, true), (1, true), (2, true), (3, true), (4, true), (5, true), (6, false), (7, true), (8, false), (9, false)] (fun x => Stp I_m w_18.drew I_m x ∧ OwnK [(g_6, [(.bool x_c.Neg), v_g], 24), (g_8, [(.bool x_j.Neg), v_n], 24)] x) MX (by kernel_rfl) ⟨Stp.refl _ _, (OwnK.cons (hp.own 2 _ _ _ rfl).1 (OwnK.cons (hp.own 1 _ _ _ rfl).1 OwnK.nil))⟩ ?_
      have hz := Stp.refl I_m w_18.drew
      refine evh0 (rn_field rfl rfl FO24_0) ?_
      refine evh (fun w' hw => rn_load rfl rfl (run_loadVar1 T4 (hw.2.cell (i := 0) (off := 0) rfl rfl))) ?_
      refine evh0 (rn_field rfl rfl FO24_1) ?_
      refine evh (fun w' hw => rn_load rfl rfl (run_loadVar1 T22 (hw.2.cell (i := 0) (off := 1) rfl rfl))) ?_
      refine evh0 (rn_field rfl rfl FO24_1) ?_
      refine evh (fun w' hw => rn_load rfl rfl (run_loadVar1 T22 (hw.2.cell (i := 1) (off := 1) rfl rfl))) ?_
      obtain ⟨x_1p, q_1q, h⟩ := bind_some h
      refine ev_call rfl rfl C104 (((ref01_sub_ok n) _ _  x_c.Mag v_g r_h x_j.Mag v_n r_o hp.imm _ q_1q).mono ?_)
      rintro _ w_1r ⟨I_1s, v_1t, hv, hq, r_1u⟩
      replace hv := hv.symm
      subst hv
      have hs := hq.st
      have hp := hp.join0 hq
      replace hz := hz.trans hs
      replace r_o := r_o.step hs
      replace r_h := r_h.step hs
      refine ⟨fun x => Stp I_1s w_1r I_1s x ∧ OwnK [(g_6, [(.bool x_c.Neg), v_g], 24), (g_8, [(.bool x_j.Neg), v_n], 24)] x, ⟨Stp.refl _ _, (OwnK.cons (hp.own 2 _ _ _ rfl).1 (OwnK.cons (hp.own 1 _ _ _ rfl).1 OwnK.nil))⟩, fun x hx => ⟨hz.held hx.1, hx.2⟩, ?_⟩
      have hz := Stp.refl I_1s w_1r
      obtain ⟨A_1v, m_1w, m_1x, rfl⟩ := r_1u.isSl
      refine evh0 (fun w => rn_build (cs := [(.bool x_c.Neg), (.slice A_1v m_1w m_1x)]) rfl rfl T24 PL24 rfl) ?_
      obtain ⟨x_1y, q_1z, h⟩ := bind_some h
      refine ev_call rfl rfl C77 (((ref01_Norm_ok n) _ _  (Int_2.mk x_c.Neg x_1p) (.slice A_1v m_1w m_1x) r_1u hp.imm _ q_1z).mono ?_)
      rintro _ w_20 ⟨I_21, v_22, hv, hq, r_23⟩
      replace hv := hv.symm
      subst hv
      have hs := hq.st
      have hp := hp.join0 hq
      replace hz := hz.trans hs
      replace r_o := r_o.step hs
      replace r_h := r_h.step hs
      refine ⟨fun x => Stp I_21 w_20 I_21 x ∧ OwnK [(g_6, [(.bool x_c.Neg), v_g], 24), (g_8, [(.bool x_j.Neg), v_n], 24)] x, ⟨Stp.refl _ _, (OwnK.cons (hp.own 2 _ _ _ rfl).1 (OwnK.cons (hp.own 1 _ _ _ rfl).1 OwnK.nil))⟩, fun x hx => ⟨hz.held hx.1, hx.2⟩, ?_⟩
      have hz := Stp.refl I_21 w_20
      refine ev_storeA hp (i := 0) (off := 0) (vs := [(.bool x_1y.Neg), v_22]) rfl rfl rfl rfl T24 rfl (Nat.le_of_ble_eq_true rfl) (ones_cons rfl (ones_cons r_23.one ones_nil)) ?_
      intro w_24 hp hs
      replace hz := hz.trans hs
      replace r_23 := r_23.step hs
      replace r_o := r_o.step hs
      replace r_h := r_h.step hs
      refine ⟨fun x => Stp I_21 w_24 I_21 x ∧ OwnK [(g_6, [(.bool x_c.Neg), v_g], 24), (g_8, [(.bool x_j.Neg), v_n], 24)] x, ⟨Stp.refl _ _, (OwnK.cons (hp.own 2 _ _ _ rfl).1 (OwnK.cons (hp.own 1 _ _ _ rfl).1 OwnK.nil))⟩, fun x hx => ⟨hz.held hx.1, hx.2⟩, ?_⟩
      have hz := Stp.refl I_21 w_24
      apply go
      obtain rfl := Option.some.inj h
      refine ⟨_, run_loadVarA T24 rfl (hp.at_ (i := 0) rfl), ?_⟩
      have hp := hp.sel [] (by decide)
      exact ⟨I_21, v_22, rfl, hp, r_23⟩

end Go.Proofs.YtepadjfmcbjkmaaGreatDoor

namespace Go.Proofs.YtepadjfmcbjkmaaGreatDoor
open Go Go.Proofs.YtepadjfmcbjkmaaGreatDoor.Gw Go.RowKit
set_option linter.unusedVariables false
attribute [local irreducible] Ev EvQ EvS EvH
def ref01_Abs_S (f : Int_2 → Option Int_2) : Prop := ∀ (w0 : World) (I0 : Nat → Prop) (x_0 : Int_2) (v_1 : Value) (r_2 : RepS (dI .u32) w0 I0 v_1 x_0.Mag) (hI : ∀ g, I0 g → g < w0.heap.size) (r : Int_2), f x_0 = some r →
    Ret Tryz.prog 102 #[(.agg #[(.bool x_0.Neg), v_1])] w0 fun v w1 => ∃ (I1 : Nat → Prop) (u_3 : Value), v = (.agg #[(.bool r.Neg), u_3]) ∧ Hp ⟨w0, I0, []⟩ I1 [] w1 ∧ RepS (dI .u32) w1 I1 u_3 r.Mag
theorem ref01_Abs_ok (n : Nat) : ref01_Abs_S (ref01_Abs n) := by
  intro w0 I0 x_0 v_1 r_2 hI r h
  unfold ref01_Abs at h
  refine enter Tryz.func102 rfl (Nat.le_of_ble_eq_true rfl) ?_
  have hp : Hp ⟨w0, I0, []⟩ I0 [] w0 := Hp.start hI
  apply go
  apply go
  refine ev_boxI hp rfl rfl ?_
  intro p_3 I_4 w_5 hp hs a_6
  replace r_2 := r_2.step hs
  refine ev_alloc hp rfl T24 ?_
  intro g_7 w_8 hp hs
  replace a_6 := a_6.step hs
  replace r_2 := r_2.step hs
  apply go
  apply go
  refine ev0 (rn_field rfl rfl FO24_1) ?_
  refine ev (rn_load rfl rfl (run_loadVar1 T22 (a_6.2 1 _ rfl))) ?_
  obtain ⟨A_9, m_a, m_b, rfl⟩ := r_2.isSl
  refine ev0 (fun w => rn_build (cs := [(.bool false), (.slice A_9 m_a m_b)]) rfl rfl T24 PL24 rfl) ?_
  obtain ⟨x_c, q_d, h⟩ := bind_some h
  refine ev_call rfl rfl C77 (((ref01_Norm_ok n) _ _  (Int_2.mk false x_0.Mag) (.slice A_9 m_a m_b) r_2 hp.imm _ q_d).mono ?_)
  rintro _ w_e ⟨I_f, v_g, hv, hq, r_h⟩
  replace hv := hv.symm
  subst hv
  have hs := hq.st
  have hp := hp.join0 hq
  refine ev_storeA hp (i := 0) (off := 0) (vs := [(.bool x_c.Neg), v_g]) rfl rfl rfl rfl T24 rfl (Nat.le_of_ble_eq_true rfl) (ones_cons rfl (ones_cons r_h.one ones_nil)) ?_
  intro w_i hp hs
  replace r_h := r_h.step hs
  apply go
  obtain rfl := Option.some.inj h
  refine ⟨_, run_loadVarA T24 rfl (hp.at_ (i := 0) rfl), ?_⟩
  have hp := hp.sel [] (by decide)
  exact ⟨I_f, v_g, rfl, hp, r_h⟩

end Go.Proofs.YtepadjfmcbjkmaaGreatDoor

namespace Go.Proofs.YtepadjfmcbjkmaaGreatDoor
open Go Go.Proofs.YtepadjfmcbjkmaaGreatDoor.Gw Go.RowKit
set_option linter.unusedVariables false
attribute [local irreducible] Ev EvQ EvS EvH
def ref01_bit_S (f : (List Int) → Int → Option Int) : Prop := ∀ (w0 : World) (I0 : Nat → Prop) (x_0 : (List Int)) (v_1 : Value) (r_2 : RepS (dI .u32) w0 I0 v_1 x_0) (x_3 : Int) (hI : ∀ g, I0 g → g < w0.heap.size) (r : Int), f x_0 x_3 = some r →
    Ret Tryz.prog 133 #[v_1, (.int .i64 x_3)] w0 fun v w1 => v = (.int .u32 r) ∧ Ch [] w0 w1
theorem ref01_bit_ok (n : Nat) : ref01_bit_S (ref01_bit n) := by
  intro w0 I0 x_0 v_1 r_2 x_3 hI r h
  unfold ref01_bit at h
  refine enter Tryz.func133 rfl (Nat.le_of_ble_eq_true rfl) ?_
  have hp : Hp ⟨w0, I0, []⟩ I0 [] w0 := Hp.start hI
  apply go
  apply go
  apply go
  apply go
  apply go
  refine ⟨by decide, ?_⟩
  refine ev0 (rn_len rfl rfl Tryz.underlying22 r_2) ?_
  apply go
  refine sel_of (fun hc => ?_) (fun hc => ?_)
  ·
    have h := cond_t h hc
    apply go
    apply go
    apply go
    obtain rfl := Option.some.inj h
    exact ⟨rfl, hp.ch⟩
  ·
    have h := cond_f h hc
    apply go
    apply go
    apply go
    refine ⟨by decide, ?_⟩
    obtain ⟨x_4, q_5, h⟩ := bind_some h
    refine ev_index rfl rfl rfl Tryz.underlying22 T46 r_2 q_5 ?_
    intro p_6 c_7 d_8 a_9
    obtain rfl : c_7 = [(.int .u32 x_4)] := d_8
    refine ev (rn_load rfl rfl (run_loadVar1 T46 (a_9.2 0 _ rfl))) ?_
    refine ⟨by decide, ?_⟩
    refine ev0 (rn_conv rfl rfl U3 Tryz.underlying76) ?_
    obtain ⟨q_a, _, h⟩ := need_some h
    refine ⟨q_a, ?_⟩
    refine ⟨by decide, ?_⟩
    apply go
    obtain rfl := Option.some.inj h
    exact ⟨rfl, hp.ch⟩

end Go.Proofs.YtepadjfmcbjkmaaGreatDoor

namespace Go.Proofs.YtepadjfmcbjkmaaGreatDoor
open Go Go.Proofs.YtepadjfmcbjkmaaGreatDoor.Gw Go.RowKit
set_option linter.unusedVariables false
attribute [local irreducible] Ev EvQ EvS EvH
def ref01_divide_S (f : (List Int) → (List Int) → Option ((List Int) × (List Int))) : Prop := ∀ (w0 : World) (I0 : Nat → Prop) (x_0 : (List Int)) (v_1 : Value) (r_2 : RepS (dI .u32) w0 I0 v_1 x_0) (x_3 : (List Int)) (v_4 : Value) (r_5 : RepS (dI .u32) w0 I0 v_4 x_3) (hI : ∀ g, I0 g → g < w0.heap.size) (r : ((List Int) × (List Int))), f x_0 x_3 = some r →
    Ret Tryz.prog 110 #[v_1, v_4] w0 fun v w1 => ∃ (I1 : Nat → Prop) (u_6 : Value) (u_7 : Value), v = (.tuple #[u_6, u_7]) ∧ Hp ⟨w0, I0, []⟩ I1 [] w1 ∧ RepS (dI .u32) w1 I1 u_6 r.1 ∧ RepS (dI .u32) w1 I1 u_7 r.2
theorem ref01_divide_ok (n : Nat) : ref01_divide_S (ref01_divide n) := by
  intro w0 I0 x_0 v_1 r_2 x_3 v_4 r_5 hI r h
  unfold ref01_divide at h
  refine enter Tryz.func110 rfl (Nat.le_of_ble_eq_true rfl) ?_
  have hp : Hp ⟨w0, I0, []⟩ I0 [] w0 := Hp.start hI
  apply go
  apply go
  apply go
  apply go
  refine ev0 (rn_len rfl rfl Tryz.underlying22 r_2) ?_
  obtain ⟨x_6, q_7, h⟩ := bind_some h
  refine ev_make (d := (dI .u32)) (x0 := 0) hp rfl rfl rfl Tryz.underlying22 T46 (fun _ _ => rfl) (Nat.le_of_ble_eq_true rfl) q_7 ?_
  intro v_8 e_9 w_a hp hs o_b
  replace r_2 := r_2.step hs
  replace r_5 := r_5.step hs
  apply go
  apply go
  obtain ⟨y_c, q_d, h⟩ := bind_some h
  refine W.cut (γ := ((List Int) × (List Int) × Ent × Value × (Nat → Prop))) (fun g => [(6, v_8), (7, (g.2.2.2.1))]) (fun g w' => y_c = ((g.1), (g.2.1)) ∧ Hp ⟨w0, I0, []⟩ (g.2.2.2.2) [(g.2.2.1)] w' ∧ OwnS (dI .u32) 46 w' (g.2.2.2.2) v_8 (g.2.2.1) (g.1) ∧ RepS (dI .u32) w' (g.2.2.2.2) (g.2.2.2.1) (g.2.1)) ?_ ?_
  ·
    apply go
    apply go
    refine ev0 (rn_len rfl rfl Tryz.underlying22 r_2) ?_
    apply go
    refine W.loop q_d (γ := (Ent × Value × (Nat → Prop))) (fun s g => [(0, v_1), (1, v_4), (6, v_8), (7, (g.2.1)), (8, (.int .i64 (s.2.2)))]) (fun s g w' => Hp ⟨w0, I0, []⟩ (g.2.2) [(g.1)] w' ∧ RepS (dI .u32) w' (g.2.2) v_1 x_0 ∧ RepS (dI .u32) w' (g.2.2) v_4 x_3 ∧ OwnS (dI .u32) 46 w' (g.2.2) v_8 (g.1) (s.1) ∧ RepS (dI .u32) w' (g.2.2) (g.2.1) (s.2.1)) (e_9, (.slice none 0 0), I0) (.c rfl (.c rfl (.c rfl (.c rfl (.c rfl .n))))) ⟨hp, r_2, r_5, o_b, RepS.nil _ _ _⟩ ?_
    rintro ⟨x_e, x_f, x_g⟩ ⟨e_h, v_i, I_j⟩ w_k y_l ⟨hp, r_2, r_5, o_m, r_n⟩ q_o q_p
    unfold ref01_divide_L1 at q_o
    apply go
    apply go
    apply go
    apply go
    refine sel_of (fun hc => ?_) (fun hc => ?_)
    ·
      have q_o := cond_t q_o hc
      apply go
      obtain ⟨y_q, q_r, q_o⟩ := bind_some q_o
      refine W.cut (γ := ((List Int) × (List Int) × Ent × Value × (Nat → Prop))) (fun g => [(0, v_1), (1, v_4), (6, v_8), (7, (g.2.2.2.1)), (8, (.int .i64 x_g))]) (fun g w' => y_q = ((g.1), (g.2.1)) ∧ Hp ⟨w0, I0, []⟩ (g.2.2.2.2) [(g.2.2.1)] w' ∧ RepS (dI .u32) w' (g.2.2.2.2) v_1 x_0 ∧ RepS (dI .u32) w' (g.2.2.2.2) v_4 x_3 ∧ OwnS (dI .u32) 46 w' (g.2.2.2.2) v_8 (g.2.2.1) (g.1) ∧ RepS (dI .u32) w' (g.2.2.2.2) (g.2.2.2.1) (g.2.1)) ?_ ?_
      ·
        apply go
        apply go
        apply go
        obtain ⟨x_s, q_t, q_r⟩ := bind_some q_r
        refine ev_call rfl rfl C105 (((ref01_add_ok n) _ _  x_f v_i r_n x_f v_i r_n hp.imm _ q_t).mono ?_)
        rintro _ w_u ⟨I_v, v_w, hv, hq, r_x⟩
        replace hv := hv.symm
        subst hv
        have hs := hq.st
        have hp := hp.join0 hq
        replace r_2 := r_2.step hs
        replace r_5 := r_5.step hs
        replace o_m := o_m.step hs
        obtain ⟨y_y, q_z, q_r⟩ := bind_some q_r
        refine W.cut (γ := ((List Int) × Value × (Nat → Prop))) (fun g => [(0, v_1), (1, v_4), (6, v_8), (7, (g.2.1)), (8, (.int .i64 x_g))]) (fun g w' => y_y = (g.1) ∧ Hp ⟨w0, I0, []⟩ (g.2.2) [e_h] w' ∧ RepS (dI .u32) w' (g.2.2) v_1 x_0 ∧ RepS (dI .u32) w' (g.2.2) v_4 x_3 ∧ OwnS (dI .u32) 46 w' (g.2.2) v_8 e_h x_e ∧ RepS (dI .u32) w' (g.2.2) (g.2.1) (g.1)) ?_ ?_
        ·
          apply go
          apply go
          obtain ⟨x_10, q_11, q_z⟩ := bind_some q_z
          refine ev_call rfl rfl C133 (((ref01_bit_ok n) _ _  x_0 v_1 r_2 x_g hp.imm _ q_11).mono ?_)
          rintro _ w_12 ⟨rfl, hc⟩
          have hs := hp.stp hc
          replace hp := hp.ext hc
          replace r_2 := r_2.step hs
          replace r_5 := r_5.step hs
          replace o_m := o_m.step hs
          replace r_x := r_x.step hs
          apply go
          refine sel_of (fun hc => ?_) (fun hc => ?_)
          ·
            have q_z := cond_t q_z hc
            apply go
            refine ev_litN (d := (dI .u32)) (xs := [1]) (cs := [(.int .u32 1)]) hp rfl rfl Tryz.underlying22 T46 (by decide) rfl rfl (Elems.cons (d := (dI .u32)) (xs := _) rfl (Elems.nil _ _ _ _)) ?_
            intro v_13 I_14 w_15 hp hs r_16
            replace r_2 := r_2.step hs
            replace r_5 := r_5.step hs
            replace o_m := o_m.step hs
            replace r_x := r_x.step hs
            obtain ⟨x_17, q_18, q_z⟩ := bind_some q_z
            refine ev_call rfl rfl C105 (((ref01_add_ok n) _ _  x_s v_w r_x [1] v_13 r_16 hp.imm _ q_18).mono ?_)
            rintro _ w_19 ⟨I_1a, v_1b, hv, hq, r_1c⟩
            replace hv := hv.symm
            subst hv
            have hs := hq.st
            have hp := hp.join0 hq
            replace r_2 := r_2.step hs
            replace r_5 := r_5.step hs
            replace o_m := o_m.step hs
            obtain rfl := Option.some.inj q_z
            exact ⟨(x_17, v_1b, I_1a), (.c rfl (.c rfl (.c rfl (.c rfl (.c rfl .n))))), rfl, hp, r_2, r_5, o_m, r_1c⟩
          ·
            have q_z := cond_f q_z hc
            apply go
            obtain rfl := Option.some.inj q_z
            exact ⟨(x_s, v_w, I_v), (.c rfl (.c rfl (.c rfl (.c rfl (.c rfl .n))))), rfl, hp, r_2, r_5, o_m, r_x⟩
        ·
          rintro ⟨x_1d, v_1e, I_1f⟩ w_1g ⟨hy, hp, r_2, r_5, o_m, r_1h⟩
          replace hy := hy.symm
          subst hy
          apply go
          apply go
          obtain ⟨x_1i, q_1j, q_r⟩ := bind_some q_r
          refine ev_call rfl rfl C78 (((ref01_cmp_ok n) _ _  x_1d v_1e r_1h x_3 v_4 r_5 hp.imm _ q_1j).mono ?_)
          rintro _ w_1k ⟨rfl, hc⟩
          have hs := hp.stp hc
          replace hp := hp.ext hc
          replace r_2 := r_2.step hs
          replace r_5 := r_5.step hs
          replace o_m := o_m.step hs
          replace r_1h := r_1h.step hs
          apply go
          refine sel_of (fun hc => ?_) (fun hc => ?_)
          ·
            have q_r := cond_t q_r hc
            apply go
            apply go
            obtain ⟨x_1l, q_1m, q_r⟩ := bind_some q_r
            refine ev_call rfl rfl C104 (((ref01_sub_ok n) _ _  x_1d v_1e r_1h x_3 v_4 r_5 hp.imm _ q_1m).mono ?_)
            rintro _ w_1n ⟨I_1o, v_1p, hv, hq, r_1q⟩
            replace hv := hv.symm
            subst hv
            have hs := hq.st
            have hp := hp.join0 hq
            replace r_2 := r_2.step hs
            replace r_5 := r_5.step hs
            replace o_m := o_m.step hs
            apply go
            refine ⟨by decide, ?_⟩
            refine ⟨by decide, ?_⟩
            obtain ⟨x_1r, q_1s, q_r⟩ := bind_some q_r
            refine ev_indexO rfl rfl rfl Tryz.underlying22 T46 o_m q_1s ?_
            intro g_1t c_1u h_1v d_1w l_1x
            refine ev (rn_load rfl rfl (run_loadVar1 T46 (hp.cellE (i := 0) rfl h_1v d_1w (j := 0) rfl))) ?_
            refine ⟨by decide, ?_⟩
            refine ev0 (rn_conv rfl rfl U3 Tryz.underlying76) ?_
            obtain ⟨q_1y, _, q_r⟩ := need_some q_r
            refine ⟨q_1y, ?_⟩
            obtain ⟨x_1z, q_20, q_r⟩ := bind_some q_r
            refine ev_indexO rfl rfl rfl Tryz.underlying22 T46 o_m q_20 ?_
            intro g_21 c_22 h_23 d_24 l_25
            refine ev_storeE hp (i := 0) rfl h_23 rfl rfl rfl T46 o_m q_20 (x0 := (IntKind.u32.wrap (x_1r + (IntKind.u32.wrap ((1 : Int) * 2 ^ min (IntKind.u64.wrap (x_g.tmod 32)).toNat (IntKind.u32).bits))))) rfl ?_
            intro e_26 w_27 hp hs o_28
            replace r_2 := r_2.step hs
            replace r_5 := r_5.step hs
            replace r_1q := r_1q.step hs
            obtain rfl := Option.some.inj q_r
            exact ⟨((upd x_e (IntKind.i64.wrap (x_g.tdiv 32)) (IntKind.u32.wrap (x_1r + (IntKind.u32.wrap ((1 : Int) * 2 ^ min (IntKind.u64.wrap (x_g.tmod 32)).toNat (IntKind.u32).bits))))), x_1l, e_26, v_1p, I_1o), (.c rfl (.c rfl (.c rfl (.c rfl (.c rfl .n))))), rfl, hp, r_2, r_5, o_28, r_1q⟩
          ·
            have q_r := cond_f q_r hc
            apply go
            obtain rfl := Option.some.inj q_r
            exact ⟨(x_e, x_1d, e_h, v_1e, I_1f), (.c rfl (.c rfl (.c rfl (.c rfl (.c rfl .n))))), rfl, hp, r_2, r_5, o_m, r_1h⟩
      ·
        rintro ⟨x_29, x_2a, e_2b, v_2c, I_2d⟩ w_2e ⟨hy, hp, r_2, r_5, o_2f, r_2g⟩
        replace hy := hy.symm
        subst hy
        apply go
        exact ⟨_, (Option.some.inj q_o).symm, (e_2b, v_2c, I_2d), (.c rfl (.c rfl (.c rfl (.c rfl (.c rfl .n))))), ⟨hp, r_2, r_5, o_2f, r_2g⟩⟩
    ·
      have q_o := cond_f q_o hc
      apply go
      have q_2h := congrArg some (q_p _ (Option.some.inj q_o).symm)
      obtain rfl := Option.some.inj q_2h
      exact ⟨(x_e, x_f, e_h, v_i, I_j), (.c rfl (.c rfl .n)), rfl, hp, o_m, r_n⟩
  ·
    rintro ⟨x_2i, x_2j, e_2k, v_2l, I_2m⟩ w_2n ⟨hy, hp, o_2o, r_2p⟩
    replace hy := hy.symm
    subst hy
    apply go
    apply go
    have r_2q := o_2o.frz hp (i := 0) rfl
    obtain ⟨hp, hs⟩ := freeze_hp hp (i := 0) rfl
    replace r_2p := r_2p.step hs
    have hp := hp.sel [] (by decide)
    obtain ⟨x_2r, q_2s, h⟩ := bind_some h
    refine ev_call rfl rfl C100 (((ref01_trim_ok n) _ _  x_2i v_8 r_2q hp.imm _ q_2s).mono ?_)
    rintro _ w_2t ⟨I_2u, v_2v, e_2w, hv, hq, o_2x⟩
    replace hv := hv.symm
    subst hv
    have hs := hq.st
    have hp := hp.join0 hq
    replace r_2p := r_2p.step hs
    apply go
    obtain rfl := Option.some.inj h
    have r_2y := o_2x.frz hp (i := 0) rfl
    obtain ⟨hp, hs⟩ := freeze_hp hp (i := 0) rfl
    replace r_2p := r_2p.step hs
    have hp := hp.sel [] (by decide)
    exact ⟨(Ad I_2u e_2w), v_2v, v_2l, rfl, hp, r_2y, r_2p⟩

end Go.Proofs.YtepadjfmcbjkmaaGreatDoor

namespace Go.Proofs.YtepadjfmcbjkmaaGreatDoor
open Go Go.Proofs.YtepadjfmcbjkmaaGreatDoor.Gw Go.RowKit
set_option linter.unusedVariables false
attribute [local irreducible] Ev EvQ EvS EvH
def ref01_Neg_S (f : Int_2 → Option Int_2) : Prop := ∀ (w0 : World) (I0 : Nat → Prop) (x_0 : Int_2) (v_1 : Value) (r_2 : RepS (dI .u32) w0 I0 v_1 x_0.Mag) (hI : ∀ g, I0 g → g < w0.heap.size) (r : Int_2), f x_0 = some r →
    Ret Tryz.prog 75 #[(.agg #[(.bool x_0.Neg), v_1])] w0 fun v w1 => ∃ (I1 : Nat → Prop) (u_3 : Value), v = (.agg #[(.bool r.Neg), u_3]) ∧ Hp ⟨w0, I0, []⟩ I1 [] w1 ∧ RepS (dI .u32) w1 I1 u_3 r.Mag
theorem ref01_Neg_ok (n : Nat) : ref01_Neg_S (ref01_Neg n) := by
  intro w0 I0 x_0 v_1 r_2 hI r h
  unfold ref01_Neg at h
  refine enter Tryz.func75 rfl (Nat.le_of_ble_eq_true rfl) ?_
  have hp : Hp ⟨w0, I0, []⟩ I0 [] w0 := Hp.start hI
  apply go
  apply go
  refine ev_boxI hp rfl rfl ?_
  intro p_3 I_4 w_5 hp hs a_6
  replace r_2 := r_2.step hs
  refine ev_alloc hp rfl T24 ?_
  intro g_7 w_8 hp hs
  replace a_6 := a_6.step hs
  replace r_2 := r_2.step hs
  apply go
  apply go
  refine ev0 (rn_field rfl rfl FO24_0) ?_
  refine ev (rn_load rfl rfl (run_loadVar1 T4 (a_6.2 0 _ rfl))) ?_
  refine ev0 (rn_field rfl rfl FO24_1) ?_
  refine ev (rn_load rfl rfl (run_loadVar1 T22 (a_6.2 1 _ rfl))) ?_
  obtain ⟨A_9, m_a, m_b, rfl⟩ := r_2.isSl
  refine ev0 (fun w => rn_build (cs := [(.bool (!x_0.Neg)), (.slice A_9 m_a m_b)]) rfl rfl T24 PL24 rfl) ?_
  obtain ⟨x_c, q_d, h⟩ := bind_some h
  refine ev_call rfl rfl C77 (((ref01_Norm_ok n) _ _  (Int_2.mk (!x_0.Neg) x_0.Mag) (.slice A_9 m_a m_b) r_2 hp.imm _ q_d).mono ?_)
  rintro _ w_e ⟨I_f, v_g, hv, hq, r_h⟩
  replace hv := hv.symm
  subst hv
  have hs := hq.st
  have hp := hp.join0 hq
  refine ev_storeA hp (i := 0) (off := 0) (vs := [(.bool x_c.Neg), v_g]) rfl rfl rfl rfl T24 rfl (Nat.le_of_ble_eq_true rfl) (ones_cons rfl (ones_cons r_h.one ones_nil)) ?_
  intro w_i hp hs
  replace r_h := r_h.step hs
  apply go
  obtain rfl := Option.some.inj h
  refine ⟨_, run_loadVarA T24 rfl (hp.at_ (i := 0) rfl), ?_⟩
  have hp := hp.sel [] (by decide)
  exact ⟨I_f, v_g, rfl, hp, r_h⟩

end Go.Proofs.YtepadjfmcbjkmaaGreatDoor

namespace Go.Proofs.YtepadjfmcbjkmaaGreatDoor
open Go Go.Proofs.YtepadjfmcbjkmaaGreatDoor.Gw Go.RowKit
set_option linter.unusedVariables false
attribute [local irreducible] Ev EvQ EvS EvH
def ref01_Sub_S (f : Int_2 → Int_2 → Option Int_2) : Prop := ∀ (w0 : World) (I0 : Nat → Prop) (x_0 : Int_2) (v_1 : Value) (r_2 : RepS (dI .u32) w0 I0 v_1 x_0.Mag) (x_3 : Int_2) (v_4 : Value) (r_5 : RepS (dI .u32) w0 I0 v_4 x_3.Mag) (hI : ∀ g, I0 g → g < w0.heap.size) (r : Int_2), f x_0 x_3 = some r →
    Ret Tryz.prog 111 #[(.agg #[(.bool x_0.Neg), v_1]), (.agg #[(.bool x_3.Neg), v_4])] w0 fun v w1 => ∃ (I1 : Nat → Prop) (u_6 : Value), v = (.agg #[(.bool r.Neg), u_6]) ∧ Hp ⟨w0, I0, []⟩ I1 [] w1 ∧ RepS (dI .u32) w1 I1 u_6 r.Mag
theorem ref01_Sub_ok (n : Nat) : ref01_Sub_S (ref01_Sub n) := by
  intro w0 I0 x_0 v_1 r_2 x_3 v_4 r_5 hI r h
  unfold ref01_Sub at h
  refine enter Tryz.func111 rfl (Nat.le_of_ble_eq_true rfl) ?_
  have hp : Hp ⟨w0, I0, []⟩ I0 [] w0 := Hp.start hI
  apply go
  apply go
  refine ev_boxI hp rfl rfl ?_
  intro p_6 I_7 w_8 hp hs a_9
  replace r_5 := r_5.step hs
  replace r_2 := r_2.step hs
  refine ev_boxI hp rfl rfl ?_
  intro p_a I_b w_c hp hs a_d
  replace a_9 := a_9.step hs
  replace r_2 := r_2.step hs
  replace r_5 := r_5.step hs
  refine ev_alloc hp rfl T24 ?_
  intro g_e w_f hp hs
  replace a_9 := a_9.step hs
  replace r_2 := r_2.step hs
  replace a_d := a_d.step hs
  replace r_5 := r_5.step hs
  apply go
  have hs := hp.stp (Ch.drew [] w_f)
  have hp := hp.drew
  replace a_9 := a_9.step hs
  replace r_2 := r_2.step hs
  replace a_d := a_d.step hs
  replace r_5 := r_5.step hs
  refine W.held [(0, true), (1, true), (2, false), (3, false), (4, false)] (Stp I_b w_f.drew I_b) MX (by kernel_rfl) (Stp.refl _ _) ?_
  have hz := Stp.refl I_b w_f.drew
  refine evh (fun w' hw => rn_load rfl rfl (run_loadVarA T24 rfl (a_9.step hw))) ?_
  refine evh (fun w' hw => rn_load rfl rfl (run_loadVarA T24 rfl (a_d.step hw))) ?_
  obtain ⟨x_g, q_h, h⟩ := bind_some h
  refine ev_call rfl rfl C75 (((ref01_Neg_ok n) _ _  (Int_2.mk x_3.Neg x_3.Mag) v_4 r_5 hp.imm _ q_h).mono ?_)
  rintro _ w_i ⟨I_j, v_k, hv, hq, r_l⟩
  replace hv := hv.symm
  subst hv
  have hs := hq.st
  have hp := hp.join0 hq
  replace hz := hz.trans hs
  replace r_2 := r_2.step hs
  refine ⟨Stp I_j w_i I_j, Stp.refl _ _, fun x hx => hz.held hx, ?_⟩
  have hz := Stp.refl I_j w_i
  obtain ⟨x_m, q_n, h⟩ := bind_some h
  refine ev_call rfl rfl C84 (((ref01_Add_ok n) _ _  (Int_2.mk x_0.Neg x_0.Mag) v_1 r_2 x_g v_k r_l hp.imm _ q_n).mono ?_)
  rintro _ w_o ⟨I_p, v_q, hv, hq, r_r⟩
  replace hv := hv.symm
  subst hv
  have hs := hq.st
  have hp := hp.join0 hq
  replace hz := hz.trans hs
  refine ⟨Stp I_p w_o I_p, Stp.refl _ _, fun x hx => hz.held hx, ?_⟩
  have hz := Stp.refl I_p w_o
  refine ev_storeA hp (i := 0) (off := 0) (vs := [(.bool x_m.Neg), v_q]) rfl rfl rfl rfl T24 rfl (Nat.le_of_ble_eq_true rfl) (ones_cons rfl (ones_cons r_r.one ones_nil)) ?_
  intro w_s hp hs
  replace hz := hz.trans hs
  replace r_r := r_r.step hs
  refine ⟨Stp I_p w_s I_p, Stp.refl _ _, fun x hx => hz.held hx, ?_⟩
  have hz := Stp.refl I_p w_s
  apply go
  obtain rfl := Option.some.inj h
  refine ⟨_, run_loadVarA T24 rfl (hp.at_ (i := 0) rfl), ?_⟩
  have hp := hp.sel [] (by decide)
  exact ⟨I_p, v_q, rfl, hp, r_r⟩

end Go.Proofs.YtepadjfmcbjkmaaGreatDoor

namespace Go.Proofs.YtepadjfmcbjkmaaGreatDoor
open Go Go.Proofs.YtepadjfmcbjkmaaGreatDoor.Gw Go.RowKit
set_option linter.unusedVariables false
attribute [local irreducible] Ev EvQ EvS EvH
def ref01_DivMod_S (f : Int_2 → Int_2 → Option (Int_2 × Int_2 × Int)) : Prop := ∀ (w0 : World) (I0 : Nat → Prop) (x_0 : Int_2) (v_1 : Value) (r_2 : RepS (dI .u32) w0 I0 v_1 x_0.Mag) (x_3 : Int_2) (v_4 : Value) (r_5 : RepS (dI .u32) w0 I0 v_4 x_3.Mag) (hI : ∀ g, I0 g → g < w0.heap.size) (r : (Int_2 × Int_2 × Int)), f x_0 x_3 = some r →
    Ret Tryz.prog 83 #[(.agg #[(.bool x_0.Neg), v_1]), (.agg #[(.bool x_3.Neg), v_4])] w0 fun v w1 => ∃ (I1 : Nat → Prop) (u_6 : Value) (u_7 : Value), v = (.tuple #[(.agg #[(.bool r.1.Neg), u_6]), (.agg #[(.bool r.2.1.Neg), u_7]), (.int .i64 r.2.2)]) ∧ Hp ⟨w0, I0, []⟩ I1 [] w1 ∧ RepS (dI .u32) w1 I1 u_6 r.1.Mag ∧ RepS (dI .u32) w1 I1 u_7 r.2.1.Mag
theorem ref01_DivMod_ok (n : Nat) : ref01_DivMod_S (ref01_DivMod n) := by
  intro w0 I0 x_0 v_1 r_2 x_3 v_4 r_5 hI r h
  unfold ref01_DivMod at h
  refine enter Tryz.func83 rfl (Nat.le_of_ble_eq_true rfl) ?_
  have hp : Hp ⟨w0, I0, []⟩ I0 [] w0 := Hp.start hI
  apply go
  apply go
  refine ev_boxI hp rfl rfl ?_
  intro p_6 I_7 w_8 hp hs a_9
  replace r_5 := r_5.step hs
  replace r_2 := r_2.step hs
  refine ev_boxI hp rfl rfl ?_
  intro p_a I_b w_c hp hs a_d
  replace a_9 := a_9.step hs
  replace r_2 := r_2.step hs
  replace r_5 := r_5.step hs
  refine ev_alloc hp rfl T24 ?_
  intro g_e w_f hp hs
  replace a_9 := a_9.step hs
  replace r_2 := r_2.step hs
  replace a_d := a_d.step hs
  replace r_5 := r_5.step hs
  refine ev_alloc hp rfl T24 ?_
  intro g_g w_h hp hs
  replace a_9 := a_9.step hs
  replace r_2 := r_2.step hs
  replace a_d := a_d.step hs
  replace r_5 := r_5.step hs
  apply go
  apply go
  apply go
  refine ev (rn_load rfl rfl (run_loadVarA T24 rfl a_d)) ?_
  obtain ⟨x_i, q_j, h⟩ := bind_some h
  refine ev_call rfl rfl C73 (((ref01_Sign_ok n) _ _  (Int_2.mk x_3.Neg x_3.Mag) v_4 r_5 hp.imm _ q_j).mono ?_)
  rintro _ w_k ⟨rfl, hc⟩
  have hs := hp.stp hc
  replace hp := hp.ext hc
  replace a_9 := a_9.step hs
  replace r_2 := r_2.step hs
  replace a_d := a_d.step hs
  replace r_5 := r_5.step hs
  apply go
  refine sel_of (fun hc => ?_) (fun hc => ?_)
  ·
    have h := cond_t h hc
    apply go
    apply go
    refine ev0 (fun w => rn_build (cs := [(.bool false), (.slice none 0 0)]) rfl rfl T24 PL24 rfl) ?_
    refine ev0 (fun w => rn_build (cs := [(.bool false), (.slice none 0 0)]) rfl rfl T24 PL24 rfl) ?_
    refine ev_storeA hp (i := 1) (off := 0) (vs := [(.bool false), (.slice none 0 0)]) rfl rfl rfl rfl T24 rfl (Nat.le_of_ble_eq_true rfl) (ones_of rfl) ?_
    intro w_l hp hs
    refine ev_storeA hp (i := 0) (off := 0) (vs := [(.bool false), (.slice none 0 0)]) rfl rfl rfl rfl T24 rfl (Nat.le_of_ble_eq_true rfl) (ones_of rfl) ?_
    intro w_m hp hs
    apply go
    obtain rfl := Option.some.inj h
    refine ⟨_, run_loadVarA T24 rfl (hp.at_ (i := 1) rfl), ?_⟩
    refine ⟨_, run_loadVarA T24 rfl (hp.at_ (i := 0) rfl), ?_⟩
    have hp := hp.sel [] (by decide)
    exact ⟨I_b, .slice none 0 0, .slice none 0 0, rfl, hp, RepS.nil _ _ _, RepS.nil _ _ _⟩
  ·
    have h := cond_f h hc
    apply go
    apply go
    have hs := hp.stp (Ch.drew [] w_k)
    have hp := hp.drew
    replace a_9 := a_9.step hs
    replace r_2 := r_2.step hs
    replace a_d := a_d.step hs
    replace r_5 := r_5.step hs
    refine W.held [(0, true), (1, true), (3, true), (4, true), (2, false), (5, false), (6, false), (7, true), (8, true), (9, true), (10, true), (11, true)] (Stp I_b w_k.drew I_b) MX (by kernel_rfl) (Stp.refl _ _) ?_
    have hz := Stp.refl I_b w_k.drew
    refine evh0 (rn_field rfl rfl FO24_1) ?_
    refine evh (fun w' hw => rn_load rfl rfl (run_loadVar1 T22 ((a_9.step hw).2 1 _ rfl))) ?_
    refine evh0 (rn_field rfl rfl FO24_1) ?_
    refine evh (fun w' hw => rn_load rfl rfl (run_loadVar1 T22 ((a_d.step hw).2 1 _ rfl))) ?_
    obtain ⟨x_n, q_o, h⟩ := bind_some h
    refine ev_call rfl rfl C100 (((ref01_trim_ok n) _ _  x_0.Mag v_1 r_2 hp.imm _ q_o).mono ?_)
    rintro _ w_p ⟨I_q, v_r, e_s, hv, hq, o_t⟩
    replace hv := hv.symm
    subst hv
    have hs := hq.st
    have hp := hp.join0 hq
    replace hz := hz.trans hs
    replace a_9 := a_9.step hs
    replace r_2 := r_2.step hs
    replace a_d := a_d.step hs
    replace r_5 := r_5.step hs
    refine ⟨Stp I_q w_p I_q, Stp.refl _ _, fun x hx => hz.held hx, ?_⟩
    have hz := Stp.refl I_q w_p
    obtain ⟨x_u, q_v, h⟩ := bind_some h
    refine ev_call rfl rfl C100 (((ref01_trim_ok n) _ _  x_3.Mag v_4 r_5 hp.imm _ q_v).mono ?_)
    rintro _ w_w ⟨I_x, v_y, e_z, hv, hq, o_10⟩
    replace hv := hv.symm
    subst hv
    have hs := hq.st
    have hp := hp.join0 hq
    replace hz := hz.trans hs
    replace a_9 := a_9.step hs
    replace r_2 := r_2.step hs
    replace a_d := a_d.step hs
    replace r_5 := r_5.step hs
    replace o_t := o_t.step hs
    refine ⟨Stp I_x w_w I_x, Stp.refl _ _, fun x hx => hz.held hx, ?_⟩
    have hz := Stp.refl I_x w_w
    have r_11 := o_t.frz hp (i := 1) rfl
    obtain ⟨hp, hs⟩ := freeze_hp hp (i := 1) rfl
    replace hz := hz.trans hs
    replace a_9 := a_9.step hs
    replace r_2 := r_2.step hs
    replace a_d := a_d.step hs
    replace r_5 := r_5.step hs
    replace o_10 := o_10.step hs
    have hp := hp.sel [0, 2, 3] (by decide)
    have r_12 := o_10.frz hp (i := 0) rfl
    obtain ⟨hp, hs⟩ := freeze_hp hp (i := 0) rfl
    replace hz := hz.trans hs
    replace a_9 := a_9.step hs
    replace r_2 := r_2.step hs
    replace a_d := a_d.step hs
    replace r_5 := r_5.step hs
    replace r_11 := r_11.step hs
    have hp := hp.sel [1, 2] (by decide)
    obtain ⟨⟨x_13, x_14⟩, q_15, h⟩ := bind_some h
    refine ev_call rfl rfl C110 (((ref01_divide_ok n) _ _  x_n v_r r_11 x_u v_y r_12 hp.imm _ q_15).mono ?_)
    rintro _ w_16 ⟨I_17, v_18, v_19, hv, hq, r_1a, r_1b⟩
    replace hv := hv.symm
    subst hv
    have hs := hq.st
    have hp := hp.join0 hq
    replace hz := hz.trans hs
    replace a_9 := a_9.step hs
    replace r_2 := r_2.step hs
    replace a_d := a_d.step hs
    replace r_5 := r_5.step hs
    refine ⟨Stp I_17 w_16 I_17, Stp.refl _ _, fun x hx => hz.held hx, ?_⟩
    have hz := Stp.refl I_17 w_16
    apply go
    apply go
    refine ev0 (rn_field rfl rfl FO24_0) ?_
    refine ev (rn_load rfl rfl (run_loadVar1 T4 (a_9.2 0 _ rfl))) ?_
    refine ev0 (rn_field rfl rfl FO24_0) ?_
    refine ev (rn_load rfl rfl (run_loadVar1 T4 (a_d.2 0 _ rfl))) ?_
    refine ev0 (rn_neB rfl rfl rfl Tryz.underlying4) ?_
    obtain ⟨A_1c, m_1d, m_1e, rfl⟩ := r_1a.isSl
    refine ev0 (fun w => rn_build (cs := [(.bool (!(x_0.Neg == x_3.Neg))), (.slice A_1c m_1d m_1e)]) rfl rfl T24 PL24 rfl) ?_
    obtain ⟨x_1f, q_1g, h⟩ := bind_some h
    refine ev_call rfl rfl C77 (((ref01_Norm_ok n) _ _  (Int_2.mk (!(x_0.Neg == x_3.Neg)) x_13) (.slice A_1c m_1d m_1e) r_1a hp.imm _ q_1g).mono ?_)
    rintro _ w_1h ⟨I_1i, v_1j, hv, hq, r_1k⟩
    replace hv := hv.symm
    subst hv
    have hs := hq.st
    have hp := hp.join0 hq
    replace a_9 := a_9.step hs
    replace r_2 := r_2.step hs
    replace a_d := a_d.step hs
    replace r_5 := r_5.step hs
    replace r_1b := r_1b.step hs
    refine ev_alloc hp rfl T24 ?_
    intro g_1l w_1m hp hs
    replace a_9 := a_9.step hs
    replace r_2 := r_2.step hs
    replace a_d := a_d.step hs
    replace r_5 := r_5.step hs
    replace r_1b := r_1b.step hs
    replace r_1k := r_1k.step hs
    refine ev_storeA hp (i := 0) (off := 0) (vs := [(.bool x_1f.Neg), v_1j]) rfl rfl rfl rfl T24 rfl (Nat.le_of_ble_eq_true rfl) (ones_cons rfl (ones_cons r_1k.one ones_nil)) ?_
    intro w_1n hp hs
    replace a_9 := a_9.step hs
    replace r_2 := r_2.step hs
    replace a_d := a_d.step hs
    replace r_5 := r_5.step hs
    replace r_1b := r_1b.step hs
    replace r_1k := r_1k.step hs
    apply go
    apply go
    refine ev0 (rn_field rfl rfl FO24_0) ?_
    refine ev (rn_load rfl rfl (run_loadVar1 T4 (a_9.2 0 _ rfl))) ?_
    obtain ⟨A_1o, m_1p, m_1q, rfl⟩ := r_1b.isSl
    refine ev0 (fun w => rn_build (cs := [(.bool x_0.Neg), (.slice A_1o m_1p m_1q)]) rfl rfl T24 PL24 rfl) ?_
    obtain ⟨x_1r, q_1s, h⟩ := bind_some h
    refine ev_call rfl rfl C77 (((ref01_Norm_ok n) _ _  (Int_2.mk x_0.Neg x_14) (.slice A_1o m_1p m_1q) r_1b hp.imm _ q_1s).mono ?_)
    rintro _ w_1t ⟨I_1u, v_1v, hv, hq, r_1w⟩
    replace hv := hv.symm
    subst hv
    have hs := hq.st
    have hp := hp.join0 hq
    replace a_d := a_d.step hs
    replace r_5 := r_5.step hs
    replace r_1k := r_1k.step hs
    refine ev_alloc hp rfl T24 ?_
    intro g_1x w_1y hp hs
    replace a_d := a_d.step hs
    replace r_5 := r_5.step hs
    replace r_1w := r_1w.step hs
    replace r_1k := r_1k.step hs
    refine ev_storeA hp (i := 0) (off := 0) (vs := [(.bool x_1r.Neg), v_1v]) rfl rfl rfl rfl T24 rfl (Nat.le_of_ble_eq_true rfl) (ones_cons rfl (ones_cons r_1w.one ones_nil)) ?_
    intro w_1z hp hs
    replace a_d := a_d.step hs
    replace r_5 := r_5.step hs
    replace r_1w := r_1w.step hs
    replace r_1k := r_1k.step hs
    obtain ⟨y_20, q_21, h⟩ := bind_some h
    refine W.cut (γ := (Bool × (List Int) × Bool × (List Int) × Value × Value × (Nat → Prop))) (fun g => [(4, (.pointer (some ⟨g_e, 0, none⟩))), (5, (.pointer (some ⟨g_g, 0, none⟩))), (9, (.pointer (some ⟨g_1l, 0, none⟩))), (10, (.pointer (some ⟨g_1x, 0, none⟩)))]) (fun g w' => y_20 = ((g.1), (g.2.1), (g.2.2.1), (g.2.2.2.1)) ∧ Hp ⟨w0, I0, []⟩ (g.2.2.2.2.2.2) [some (g_e, [(.bool false), (.slice none 0 0)], 24), some (g_g, [(.bool false), (.slice none 0 0)], 24), some (g_1l, [(.bool (g.1)), (g.2.2.2.2.1)], 24), some (g_1x, [(.bool (g.2.2.1)), (g.2.2.2.2.2.1)], 24)] w' ∧ RepS (dI .u32) w' (g.2.2.2.2.2.2) (g.2.2.2.2.1) (g.2.1) ∧ RepS (dI .u32) w' (g.2.2.2.2.2.2) (g.2.2.2.2.2.1) (g.2.2.2.1)) ?_ ?_
    ·
      apply go
      apply go
      refine ev0 (rn_field rfl rfl FO24_0) ?_
      refine ev (rn_load rfl rfl (run_loadVar1 T4 (hp.cell (i := 0) (off := 0) rfl rfl))) ?_
      apply go
      refine sel_of (fun hc => ?_) (fun hc => ?_)
      ·
        have q_21 := cond_t q_21 hc
        apply go
        have hs := hp.stp (Ch.drew [] w_1z)
        have hp := hp.drew
        replace a_d := a_d.step hs
        replace r_5 := r_5.step hs
        replace r_1w := r_1w.step hs
        replace r_1k := r_1k.step hs
        refine W.heldG (.q 0 (.q 1 (.l 2 (.l 3 (.l 4 .done .no) .no) .no))) (SK (Stp I_1u w_1z.drew I_1u) [(g_1x, [(.bool x_1r.Neg), v_1v], 24)] [[4]]) MX (by kernel_rfl) ⟨Stp.refl _ _, (kp_cons (fun _ => (hp.own 0 _ _ _ rfl).1) kp_nil)⟩ ?_
        have hz := Stp.refl I_1u w_1z.drew
        refine ⟨SK.same (by kernel_rfl), ?_⟩
        refine evh (fun w' hw => rn_load rfl rfl (run_loadVarA T24 rfl ((S0.keep (p := 0) hw rfl rfl (by kernel_rfl)).at_ (i := 0) rfl))) ?_
        refine ⟨SK.same (by kernel_rfl), ?_⟩
        refine evh (fun w' hw => rn_load rfl rfl (run_loadVarA T24 rfl (a_d.step (S0.si hw)))) ?_
        refine ⟨?_, trivial⟩
        obtain ⟨x_22, q_23, q_21⟩ := bind_some q_21
        refine ev_call rfl rfl C102 (((ref01_Abs_ok n) _ _  (Int_2.mk x_3.Neg x_3.Mag) v_4 r_5 hp.imm _ q_23).mono ?_)
        rintro _ w_24 ⟨I_25, v_26, hv, hq, r_27⟩
        replace hv := hv.symm
        subst hv
        have hs := hq.st
        have hp := hp.join0 hq
        replace hz := hz.trans hs
        replace a_d := a_d.step hs
        replace r_5 := r_5.step hs
        replace r_1w := r_1w.step hs
        replace r_1k := r_1k.step hs
        refine ⟨SK (Stp I_25 w_24 I_25) [(g_1x, [(.bool x_1r.Neg), v_1v], 24)] [[4]], ⟨Stp.refl _ _, (kp_cons (fun _ => (hp.own 0 _ _ _ rfl).1) kp_nil)⟩, fun L x h => ⟨hz.held h.1, h.2⟩, ?_⟩
        have hz := Stp.refl I_25 w_24
        refine ⟨?_, trivial⟩
        obtain ⟨x_28, q_29, q_21⟩ := bind_some q_21
        refine ev_call rfl rfl C84 (((ref01_Add_ok n) _ _  (Int_2.mk x_1r.Neg x_1r.Mag) v_1v r_1w x_22 v_26 r_27 hp.imm _ q_29).mono ?_)
        rintro _ w_2a ⟨I_2b, v_2c, hv, hq, r_2d⟩
        replace hv := hv.symm
        subst hv
        have hs := hq.st
        have hp := hp.join0 hq
        replace hz := hz.trans hs
        replace a_d := a_d.step hs
        replace r_5 := r_5.step hs
        replace r_1w := r_1w.step hs
        replace r_1k := r_1k.step hs
        refine ⟨SK (Stp I_2b w_2a I_2b) [(g_1x, [(.bool x_1r.Neg), v_1v], 24)] [[4]], ⟨Stp.refl _ _, (kp_cons (fun _ => (hp.own 0 _ _ _ rfl).1) kp_nil)⟩, fun L x h => ⟨hz.held h.1, h.2⟩, ?_⟩
        have hz := Stp.refl I_2b w_2a
        refine ⟨?_, trivial⟩
        refine ev_storeA hp (i := 0) (off := 0) (vs := [(.bool x_28.Neg), v_2c]) rfl rfl rfl rfl T24 rfl (Nat.le_of_ble_eq_true rfl) (ones_cons rfl (ones_cons r_2d.one ones_nil)) ?_
        intro w_2e hp hs
        replace hz := hz.trans hs
        replace a_d := a_d.step hs
        replace r_5 := r_5.step hs
        replace r_2d := r_2d.step hs
        replace r_1k := r_1k.step hs
        refine ⟨SK (Stp I_2b w_2e I_2b) [(g_1x, [(.bool x_1r.Neg), v_1v], 24)] [[4]], ⟨Stp.refl _ _, (kp_cons (kp_off (by kernel_rfl)) kp_nil)⟩, fun L x h => ⟨hz.held h.1, h.2⟩, ?_⟩
        have hz := Stp.refl I_2b w_2e
        apply go
        apply go
        refine ev0 (rn_field rfl rfl FO24_0) ?_
        refine ev (rn_load rfl rfl (run_loadVar1 T4 (a_d.2 0 _ rfl))) ?_
        apply go
        refine sel_of (fun hc => ?_) (fun hc => ?_)
        ·
          have q_21 := cond_t q_21 hc
          have hs := hp.stp (Ch.drew [] w_2e)
          have hp := hp.drew
          replace r_2d := r_2d.step hs
          replace r_1k := r_1k.step hs
          refine W.heldG (.q 0 (.l 1 (.l 2 (.l 3 .done .no) .no) .no)) (SK (Stp I_2b w_2e.drew I_2b) [(g_1l, [(.bool x_1f.Neg), v_1j], 24)] [[3]]) MX (by kernel_rfl) ⟨Stp.refl _ _, (kp_cons (fun _ => (hp.own 1 _ _ _ rfl).1) kp_nil)⟩ ?_
          have hz := Stp.refl I_2b w_2e.drew
          refine ⟨SK.same (by kernel_rfl), ?_⟩
          refine evh (fun w' hw => rn_load rfl rfl (run_loadVarA T24 rfl ((S0.keep (p := 0) hw rfl rfl (by kernel_rfl)).at_ (i := 0) rfl))) ?_
          refine ⟨?_, trivial⟩
          obtain ⟨x_2f, q_2g, q_21⟩ := bind_some q_21
          refine ev_call rfl rfl C74 (((ref01_Of_ok n) _ _  1 hp.imm _ q_2g).mono ?_)
          rintro _ w_2h ⟨I_2i, v_2j, hv, hq, r_2k⟩
          replace hv := hv.symm
          subst hv
          have hs := hq.st
          have hp := hp.join0 hq
          replace hz := hz.trans hs
          replace r_1k := r_1k.step hs
          replace r_2d := r_2d.step hs
          refine ⟨SK (Stp I_2i w_2h I_2i) [(g_1l, [(.bool x_1f.Neg), v_1j], 24)] [[3]], ⟨Stp.refl _ _, (kp_cons (fun _ => (hp.own 1 _ _ _ rfl).1) kp_nil)⟩, fun L x h => ⟨hz.held h.1, h.2⟩, ?_⟩
          have hz := Stp.refl I_2i w_2h
          refine ⟨?_, trivial⟩
          obtain ⟨x_2l, q_2m, q_21⟩ := bind_some q_21
          refine ev_call rfl rfl C84 (((ref01_Add_ok n) _ _  (Int_2.mk x_1f.Neg x_1f.Mag) v_1j r_1k x_2f v_2j r_2k hp.imm _ q_2m).mono ?_)
          rintro _ w_2n ⟨I_2o, v_2p, hv, hq, r_2q⟩
          replace hv := hv.symm
          subst hv
          have hs := hq.st
          have hp := hp.join0 hq
          replace hz := hz.trans hs
          replace r_2d := r_2d.step hs
          replace r_1k := r_1k.step hs
          refine ⟨SK (Stp I_2o w_2n I_2o) [(g_1l, [(.bool x_1f.Neg), v_1j], 24)] [[3]], ⟨Stp.refl _ _, (kp_cons (fun _ => (hp.own 1 _ _ _ rfl).1) kp_nil)⟩, fun L x h => ⟨hz.held h.1, h.2⟩, ?_⟩
          have hz := Stp.refl I_2o w_2n
          refine ⟨?_, trivial⟩
          refine ev_storeA hp (i := 1) (off := 0) (vs := [(.bool x_2l.Neg), v_2p]) rfl rfl rfl rfl T24 rfl (Nat.le_of_ble_eq_true rfl) (ones_cons rfl (ones_cons r_2q.one ones_nil)) ?_
          intro w_2r hp hs
          replace hz := hz.trans hs
          replace r_2d := r_2d.step hs
          replace r_2q := r_2q.step hs
          refine ⟨SK (Stp I_2o w_2r I_2o) [(g_1l, [(.bool x_1f.Neg), v_1j], 24)] [[3]], ⟨Stp.refl _ _, (kp_cons (kp_off (by kernel_rfl)) kp_nil)⟩, fun L x h => ⟨hz.held h.1, h.2⟩, ?_⟩
          have hz := Stp.refl I_2o w_2r
          obtain rfl := Option.some.inj q_21
          have hp := hp.perm [3, 2, 1, 0] (by decide)
          exact ⟨(x_2l.Neg, x_2l.Mag, x_28.Neg, x_28.Mag, v_2p, v_2c, I_2o), (.c rfl (.c rfl (.c rfl (.c rfl .n)))), rfl, hp, r_2q, r_2d⟩
        ·
          have q_21 := cond_f q_21 hc
          have hs := hp.stp (Ch.drew [] w_2e)
          have hp := hp.drew
          replace r_2d := r_2d.step hs
          replace r_1k := r_1k.step hs
          refine W.heldG (.q 0 (.l 1 (.l 2 (.l 3 .done .no) .no) .no)) (SK (Stp I_2b w_2e.drew I_2b) [(g_1l, [(.bool x_1f.Neg), v_1j], 24)] [[3]]) MX (by kernel_rfl) ⟨Stp.refl _ _, (kp_cons (fun _ => (hp.own 1 _ _ _ rfl).1) kp_nil)⟩ ?_
          have hz := Stp.refl I_2b w_2e.drew
          refine ⟨SK.same (by kernel_rfl), ?_⟩
          refine evh (fun w' hw => rn_load rfl rfl (run_loadVarA T24 rfl ((S0.keep (p := 0) hw rfl rfl (by kernel_rfl)).at_ (i := 0) rfl))) ?_
          refine ⟨?_, trivial⟩
          obtain ⟨x_2s, q_2t, q_21⟩ := bind_some q_21
          refine ev_call rfl rfl C74 (((ref01_Of_ok n) _ _  1 hp.imm _ q_2t).mono ?_)
          rintro _ w_2u ⟨I_2v, v_2w, hv, hq, r_2x⟩
          replace hv := hv.symm
          subst hv
          have hs := hq.st
          have hp := hp.join0 hq
          replace hz := hz.trans hs
          replace r_1k := r_1k.step hs
          replace r_2d := r_2d.step hs
          refine ⟨SK (Stp I_2v w_2u I_2v) [(g_1l, [(.bool x_1f.Neg), v_1j], 24)] [[3]], ⟨Stp.refl _ _, (kp_cons (fun _ => (hp.own 1 _ _ _ rfl).1) kp_nil)⟩, fun L x h => ⟨hz.held h.1, h.2⟩, ?_⟩
          have hz := Stp.refl I_2v w_2u
          refine ⟨?_, trivial⟩
          obtain ⟨x_2y, q_2z, q_21⟩ := bind_some q_21
          refine ev_call rfl rfl C111 (((ref01_Sub_ok n) _ _  (Int_2.mk x_1f.Neg x_1f.Mag) v_1j r_1k x_2s v_2w r_2x hp.imm _ q_2z).mono ?_)
          rintro _ w_30 ⟨I_31, v_32, hv, hq, r_33⟩
          replace hv := hv.symm
          subst hv
          have hs := hq.st
          have hp := hp.join0 hq
          replace hz := hz.trans hs
          replace r_2d := r_2d.step hs
          replace r_1k := r_1k.step hs
          refine ⟨SK (Stp I_31 w_30 I_31) [(g_1l, [(.bool x_1f.Neg), v_1j], 24)] [[3]], ⟨Stp.refl _ _, (kp_cons (fun _ => (hp.own 1 _ _ _ rfl).1) kp_nil)⟩, fun L x h => ⟨hz.held h.1, h.2⟩, ?_⟩
          have hz := Stp.refl I_31 w_30
          refine ⟨?_, trivial⟩
          refine ev_storeA hp (i := 1) (off := 0) (vs := [(.bool x_2y.Neg), v_32]) rfl rfl rfl rfl T24 rfl (Nat.le_of_ble_eq_true rfl) (ones_cons rfl (ones_cons r_33.one ones_nil)) ?_
          intro w_34 hp hs
          replace hz := hz.trans hs
          replace r_2d := r_2d.step hs
          replace r_33 := r_33.step hs
          refine ⟨SK (Stp I_31 w_34 I_31) [(g_1l, [(.bool x_1f.Neg), v_1j], 24)] [[3]], ⟨Stp.refl _ _, (kp_cons (kp_off (by kernel_rfl)) kp_nil)⟩, fun L x h => ⟨hz.held h.1, h.2⟩, ?_⟩
          have hz := Stp.refl I_31 w_34
          obtain rfl := Option.some.inj q_21
          have hp := hp.perm [3, 2, 1, 0] (by decide)
          exact ⟨(x_2y.Neg, x_2y.Mag, x_28.Neg, x_28.Mag, v_32, v_2c, I_31), (.c rfl (.c rfl (.c rfl (.c rfl .n)))), rfl, hp, r_33, r_2d⟩
      ·
        have q_21 := cond_f q_21 hc
        apply go
        obtain rfl := Option.some.inj q_21
        have hp := hp.perm [3, 2, 1, 0] (by decide)
        exact ⟨(x_1f.Neg, x_1f.Mag, x_1r.Neg, x_1r.Mag, v_1j, v_1v, I_1u), (.c rfl (.c rfl (.c rfl (.c rfl .n)))), rfl, hp, r_1k, r_1w⟩
    ·
      rintro ⟨x_35, x_36, x_37, x_38, v_39, v_3a, I_3b⟩ w_3c ⟨hy, hp, r_3d, r_3e⟩
      replace hy := hy.symm
      subst hy
      apply go
      have hs := hp.stp (Ch.drew [] w_3c)
      have hp := hp.drew
      replace r_3d := r_3d.step hs
      replace r_3e := r_3e.step hs
      refine W.held [(0, true), (1, true), (2, false), (3, false), (4, true)] (fun x => Stp I_3b w_3c.drew I_3b x ∧ OwnK [(g_1l, [(.bool x_35), v_39], 24), (g_1x, [(.bool x_37), v_3a], 24)] x) MX (by kernel_rfl) ⟨Stp.refl _ _, (OwnK.cons (hp.own 2 _ _ _ rfl).1 (OwnK.cons (hp.own 3 _ _ _ rfl).1 OwnK.nil))⟩ ?_
      have hz := Stp.refl I_3b w_3c.drew
      refine evh (fun w' hw => rn_load rfl rfl (run_loadVarA T24 rfl (hw.2.at_ (i := 0) rfl))) ?_
      refine evh (fun w' hw => rn_load rfl rfl (run_loadVarA T24 rfl (hw.2.at_ (i := 1) rfl))) ?_
      refine ev_storeA hp (i := 0) (off := 0) (vs := [(.bool x_35), v_39]) rfl rfl rfl rfl T24 rfl (Nat.le_of_ble_eq_true rfl) (ones_cons rfl (ones_cons r_3d.one ones_nil)) ?_
      intro w_3f hp hs
      replace hz := hz.trans hs
      replace r_3e := r_3e.step hs
      replace r_3d := r_3d.step hs
      refine ⟨fun x => Stp I_3b w_3f I_3b x ∧ OwnK [(g_1l, [(.bool x_35), v_39], 24), (g_1x, [(.bool x_37), v_3a], 24)] x, ⟨Stp.refl _ _, (OwnK.cons (hp.own 2 _ _ _ rfl).1 (OwnK.cons (hp.own 3 _ _ _ rfl).1 OwnK.nil))⟩, fun x hx => ⟨hz.held hx.1, hx.2⟩, ?_⟩
      have hz := Stp.refl I_3b w_3f
      refine ev_storeA hp (i := 1) (off := 0) (vs := [(.bool x_37), v_3a]) rfl rfl rfl rfl T24 rfl (Nat.le_of_ble_eq_true rfl) (ones_cons rfl (ones_cons r_3e.one ones_nil)) ?_
      intro w_3g hp hs
      replace hz := hz.trans hs
      replace r_3d := r_3d.step hs
      replace r_3e := r_3e.step hs
      refine ⟨fun x => Stp I_3b w_3g I_3b x ∧ OwnK [(g_1l, [(.bool x_35), v_39], 24), (g_1x, [(.bool x_37), v_3a], 24)] x, ⟨Stp.refl _ _, (OwnK.cons (hp.own 2 _ _ _ rfl).1 (OwnK.cons (hp.own 3 _ _ _ rfl).1 OwnK.nil))⟩, fun x hx => ⟨hz.held hx.1, hx.2⟩, ?_⟩
      have hz := Stp.refl I_3b w_3g
      apply go
      obtain rfl := Option.some.inj h
      refine ⟨_, run_loadVarA T24 rfl (hp.at_ (i := 0) rfl), ?_⟩
      refine ⟨_, run_loadVarA T24 rfl (hp.at_ (i := 1) rfl), ?_⟩
      have hp := hp.sel [] (by decide)
      exact ⟨I_3b, v_39, v_3a, rfl, hp, r_3d, r_3e⟩

end Go.Proofs.YtepadjfmcbjkmaaGreatDoor

namespace Go.Proofs.YtepadjfmcbjkmaaGreatDoor
open Go Go.Proofs.YtepadjfmcbjkmaaGreatDoor.Gw Go.RowKit
set_option linter.unusedVariables false
attribute [local irreducible] Ev EvQ EvS EvH
def ref02_part_S (f : Int_2 → Int_2 → Option Int_2) : Prop := ∀ (w0 : World) (I0 : Nat → Prop) (x_0 : Int_2) (v_1 : Value) (r_2 : RepS (dI .u32) w0 I0 v_1 x_0.Mag) (x_3 : Int_2) (v_4 : Value) (r_5 : RepS (dI .u32) w0 I0 v_4 x_3.Mag) (hI : ∀ g, I0 g → g < w0.heap.size) (r : Int_2), f x_0 x_3 = some r →
    Ret Tryz.prog 50 #[(.agg #[(.bool x_0.Neg), v_1]), (.agg #[(.bool x_3.Neg), v_4])] w0 fun v w1 => ∃ (I1 : Nat → Prop) (u_6 : Value), v = (.agg #[(.bool r.Neg), u_6]) ∧ Hp ⟨w0, I0, []⟩ I1 [] w1 ∧ RepS (dI .u32) w1 I1 u_6 r.Mag
theorem ref02_part_ok (n : Nat) : ref02_part_S (ref02_part n) := by
  intro w0 I0 x_0 v_1 r_2 x_3 v_4 r_5 hI r h
  unfold ref02_part at h
  refine enter Tryz.func50 rfl (Nat.le_of_ble_eq_true rfl) ?_
  have hp : Hp ⟨w0, I0, []⟩ I0 [] w0 := Hp.start hI
  apply go
  apply go
  refine ev_boxI hp rfl rfl ?_
  intro p_6 I_7 w_8 hp hs a_9
  replace r_5 := r_5.step hs
  replace r_2 := r_2.step hs
  refine ev_boxI hp rfl rfl ?_
  intro p_a I_b w_c hp hs a_d
  replace a_9 := a_9.step hs
  replace r_2 := r_2.step hs
  replace r_5 := r_5.step hs
  refine ev_alloc hp rfl T24 ?_
  intro g_e w_f hp hs
  replace a_9 := a_9.step hs
  replace r_2 := r_2.step hs
  replace a_d := a_d.step hs
  replace r_5 := r_5.step hs
  apply go
  apply go
  refine ev (rn_load rfl rfl (run_loadVarA T24 rfl a_9)) ?_
  refine ev (rn_load rfl rfl (run_loadVarA T24 rfl a_d)) ?_
  obtain ⟨⟨x_g, x_h, x_i⟩, q_j, h⟩ := bind_some h
  refine ev_call rfl rfl C83 (((ref01_DivMod_ok n) _ _  (Int_2.mk x_0.Neg x_0.Mag) v_1 r_2 (Int_2.mk x_3.Neg x_3.Mag) v_4 r_5 hp.imm _ q_j).mono ?_)
  rintro _ w_k ⟨I_l, v_m, v_n, hv, hq, r_o, r_p⟩
  replace hv := hv.symm
  subst hv
  have hs := hq.st
  have hp := hp.join0 hq
  refine ev_alloc hp rfl T24 ?_
  intro g_q w_r hp hs
  replace r_o := r_o.step hs
  replace r_p := r_p.step hs
  refine ev_alloc hp rfl T24 ?_
  intro g_s w_t hp hs
  replace r_o := r_o.step hs
  replace r_p := r_p.step hs
  refine ev_storeA hp (i := 1) (off := 0) (vs := [(.bool x_g.Neg), v_m]) rfl rfl rfl rfl T24 rfl (Nat.le_of_ble_eq_true rfl) (ones_cons rfl (ones_cons r_o.one ones_nil)) ?_
  intro w_u hp hs
  replace r_p := r_p.step hs
  replace r_o := r_o.step hs
  refine ev_storeA hp (i := 0) (off := 0) (vs := [(.bool x_h.Neg), v_n]) rfl rfl rfl rfl T24 rfl (Nat.le_of_ble_eq_true rfl) (ones_cons rfl (ones_cons r_p.one ones_nil)) ?_
  intro w_v hp hs
  replace r_p := r_p.step hs
  replace r_o := r_o.step hs
  apply go
  apply go
  refine ev (rn_load rfl rfl (run_loadVarA T24 rfl (hp.at_ (i := 1) rfl))) ?_
  refine ev_storeA hp (i := 2) (off := 0) (vs := [(.bool x_g.Neg), v_m]) rfl rfl rfl rfl T24 rfl (Nat.le_of_ble_eq_true rfl) (ones_cons rfl (ones_cons r_o.one ones_nil)) ?_
  intro w_w hp hs
  replace r_p := r_p.step hs
  replace r_o := r_o.step hs
  apply go
  obtain rfl := Option.some.inj h
  refine ⟨_, run_loadVarA T24 rfl (hp.at_ (i := 2) rfl), ?_⟩
  have hp := hp.sel [] (by decide)
  exact ⟨I_l, v_m, rfl, hp, r_o⟩

end Go.Proofs.YtepadjfmcbjkmaaGreatDoor

namespace Go.Proofs.YtepadjfmcbjkmaaGreatDoor
open Go Go.Proofs.YtepadjfmcbjkmaaGreatDoor.Gw Go.RowKit
set_option linter.unusedVariables false
attribute [local irreducible] Ev EvQ EvS EvH
def ref01_half_S (f : (List Int) → Option (List Int)) : Prop := ∀ (w0 : World) (I0 : Nat → Prop) (x_0 : (List Int)) (v_1 : Value) (r_2 : RepS (dI .u32) w0 I0 v_1 x_0) (hI : ∀ g, I0 g → g < w0.heap.size) (r : (List Int)), f x_0 = some r →
    Ret Tryz.prog 103 #[v_1] w0 fun v w1 => ∃ (I1 : Nat → Prop) (u_3 : Value), v = u_3 ∧ Hp ⟨w0, I0, []⟩ I1 [] w1 ∧ RepS (dI .u32) w1 I1 u_3 r
theorem ref01_half_ok (n : Nat) : ref01_half_S (ref01_half n) := by
  intro w0 I0 x_0 v_1 r_2 hI r h
  unfold ref01_half at h
  refine enter Tryz.func103 rfl (Nat.le_of_ble_eq_true rfl) ?_
  have hp : Hp ⟨w0, I0, []⟩ I0 [] w0 := Hp.start hI
  apply go
  apply go
  apply go
  apply go
  refine ev_litON (d := (dI .u32)) (xs := ([] : List Int)) (cs := []) hp rfl rfl Tryz.underlying22 T46 (by decide) (by decide) rfl rfl (Elems.nil _ _ _ _) ?_
  intro v_3 e_4 w_5 hp hs o_6
  replace r_2 := r_2.step hs
  obtain ⟨x_7, q_8, h⟩ := bind_some h
  refine ev_append hp (i := 0) rfl rfl rfl rfl Tryz.underlying22 T46 rfl rfl o_6 r_2 q_8 ?_
  rintro v_9 e_a w_b hp hs o_c
  replace r_2 := r_2.step hs
  obtain ⟨y_d, q_e, h⟩ := bind_some h
  refine W.cut (γ := ((List Int) × Ent)) (fun g => [(3, v_9)]) (fun g w' => y_d = (g.1) ∧ Hp ⟨w0, I0, []⟩ I0 [(g.2)] w' ∧ OwnS (dI .u32) 46 w' I0 v_9 (g.2) (g.1)) ?_ ?_
  ·
    apply go
    apply go
    apply go
    refine W.loop q_e (γ := Ent) (fun s g => [(0, v_1), (3, v_9), (4, (.int .i64 (s.2)))]) (fun s g w' => Hp ⟨w0, I0, []⟩ I0 [(g)] w' ∧ RepS (dI .u32) w' I0 v_1 x_0 ∧ OwnS (dI .u32) 46 w' I0 v_9 (g) (s.1)) e_a (.c rfl (.c rfl (.c rfl .n))) ⟨hp, r_2, o_c⟩ ?_
    rintro ⟨x_f, x_g⟩ e_h w_i y_j ⟨hp, r_2, o_k⟩ q_l q_m
    unfold ref01_half_L1 at q_l
    apply go
    apply go
    apply go
    refine ev0 (x_lenO rfl rfl Tryz.underlying22 o_k) ?_
    apply go
    refine sel_of (fun hc => ?_) (fun hc => ?_)
    ·
      have q_l := cond_t q_l hc
      apply go
      obtain ⟨y_n, q_o, q_l⟩ := bind_some q_l
      refine W.cut (γ := ((List Int) × Ent)) (fun g => [(0, v_1), (3, v_9), (4, (.int .i64 x_g))]) (fun g w' => y_n = (g.1) ∧ Hp ⟨w0, I0, []⟩ I0 [(g.2)] w' ∧ RepS (dI .u32) w' I0 v_1 x_0 ∧ OwnS (dI .u32) 46 w' I0 v_9 (g.2) (g.1)) ?_ ?_
      ·
        apply go
        apply go
        apply go
        obtain ⟨x_p, q_q, q_o⟩ := bind_some q_o
        refine ev_indexO rfl rfl rfl Tryz.underlying22 T46 o_k q_q ?_
        intro g_r c_s h_t d_u l_v
        refine ev (rn_load rfl rfl (run_loadVar1 T46 (hp.cellE (i := 0) rfl h_t d_u (j := 0) rfl))) ?_
        refine ⟨by decide, ?_⟩
        obtain ⟨x_w, q_x, q_o⟩ := bind_some q_o
        refine ev_indexO rfl rfl rfl Tryz.underlying22 T46 o_k q_x ?_
        intro g_y c_z h_10 d_11 l_12
        refine ev_storeE hp (i := 0) rfl h_10 rfl rfl rfl T46 o_k q_x (x0 := (x_p.fdiv (2 ^ min (1 : Int).toNat (IntKind.u32).bits))) rfl ?_
        intro e_13 w_14 hp hs o_15
        replace r_2 := r_2.step hs
        apply go
        apply go
        refine ev0 (rn_len rfl rfl Tryz.underlying22 r_2) ?_
        apply go
        refine sel_of (fun hc => ?_) (fun hc => ?_)
        ·
          have q_o := cond_t q_o hc
          have hs := hp.stp (Ch.drew [] w_14)
          have hp := hp.drew
          replace r_2 := r_2.step hs
          replace o_15 := o_15.step hs
          refine W.tail 15 MX (by kernel_rfl) ?_
          obtain ⟨x_16, q_17, q_o⟩ := bind_some q_o
          refine evs_indexO rfl rfl rfl Tryz.underlying22 T46 o_15 q_17 ?_
          intro g_18 c_19 h_1a d_1b l_1c
          refine evs (rn_load rfl rfl (run_loadVar1 T46 (hp.cellE (i := 0) rfl h_1a d_1b (j := 0) rfl))) ?_
          obtain ⟨x_1d, q_1e, q_o⟩ := bind_some q_o
          refine evs_index rfl rfl rfl Tryz.underlying22 T46 r_2 q_1e ?_
          intro p_1f c_1g d_1h a_1i
          obtain rfl : c_1g = [(.int .u32 x_1d)] := d_1h
          refine evs (rn_load rfl rfl (run_loadVar1 T46 (a_1i.2 0 _ rfl))) ?_
          refine ⟨by decide, ?_⟩
          refine ⟨by decide, ?_⟩
          obtain ⟨x_1j, q_1k, q_o⟩ := bind_some q_o
          refine evs_indexO rfl rfl rfl Tryz.underlying22 T46 o_15 q_1k ?_
          intro g_1l c_1m h_1n d_1o l_1p
          refine ev_storeE hp (i := 0) rfl h_1n rfl rfl rfl T46 o_15 q_1k (x0 := (IntKind.u32.wrap (x_16 + (IntKind.u32.wrap ((x_1d.tmod 2) * 2 ^ min (31 : Int).toNat (IntKind.u32).bits))))) rfl ?_
          intro e_1q w_1r hp hs o_1s
          replace r_2 := r_2.step hs
          obtain rfl := Option.some.inj q_o
          exact ⟨((upd (upd x_f x_g (x_p.fdiv (2 ^ min (1 : Int).toNat (IntKind.u32).bits))) x_g (IntKind.u32.wrap (x_16 + (IntKind.u32.wrap ((x_1d.tmod 2) * 2 ^ min (31 : Int).toNat (IntKind.u32).bits))))), e_1q), (.c rfl (.c rfl (.c rfl .n))), rfl, hp, r_2, o_1s⟩
        ·
          have q_o := cond_f q_o hc
          apply go
          obtain rfl := Option.some.inj q_o
          exact ⟨((upd x_f x_g (x_p.fdiv (2 ^ min (1 : Int).toNat (IntKind.u32).bits))), e_13), (.c rfl (.c rfl (.c rfl .n))), rfl, hp, r_2, o_15⟩
      ·
        rintro ⟨x_1t, e_1u⟩ w_1v ⟨hy, hp, r_2, o_1w⟩
        replace hy := hy.symm
        subst hy
        apply go
        exact ⟨_, (Option.some.inj q_l).symm, e_1u, (.c rfl (.c rfl (.c rfl .n))), ⟨hp, r_2, o_1w⟩⟩
    ·
      have q_l := cond_f q_l hc
      apply go
      have q_1x := congrArg some (q_m _ (Option.some.inj q_l).symm)
      obtain rfl := Option.some.inj q_1x
      exact ⟨(x_f, e_h), (.c rfl .n), rfl, hp, o_k⟩
  ·
    rintro ⟨x_1y, e_1z⟩ w_20 ⟨hy, hp, o_21⟩
    replace hy := hy.symm
    subst hy
    apply go
    apply go
    have r_22 := o_21.frz hp (i := 0) rfl
    obtain ⟨hp, hs⟩ := freeze_hp hp (i := 0) rfl
    have hp := hp.sel [] (by decide)
    obtain ⟨x_23, q_24, h⟩ := bind_some h
    refine ev_call rfl rfl C100 (((ref01_trim_ok n) _ _  x_1y v_9 r_22 hp.imm _ q_24).mono ?_)
    rintro _ w_25 ⟨I_26, v_27, e_28, hv, hq, o_29⟩
    replace hv := hv.symm
    subst hv
    have hs := hq.st
    have hp := hp.join0 hq
    apply go
    obtain rfl := Option.some.inj h
    have r_2a := o_29.frz hp (i := 0) rfl
    obtain ⟨hp, hs⟩ := freeze_hp hp (i := 0) rfl
    have hp := hp.sel [] (by decide)
    exact ⟨(Ad I_26 e_28), v_27, rfl, hp, r_2a⟩

end Go.Proofs.YtepadjfmcbjkmaaGreatDoor

namespace Go.Proofs.YtepadjfmcbjkmaaGreatDoor
open Go Go.Proofs.YtepadjfmcbjkmaaGreatDoor.Gw Go.RowKit
set_option linter.unusedVariables false
attribute [local irreducible] Ev EvQ EvS EvH
def ref01_Gcd_S (f : Int_2 → Int_2 → Option Int_2) : Prop := ∀ (w0 : World) (I0 : Nat → Prop) (x_0 : Int_2) (v_1 : Value) (r_2 : RepS (dI .u32) w0 I0 v_1 x_0.Mag) (x_3 : Int_2) (v_4 : Value) (r_5 : RepS (dI .u32) w0 I0 v_4 x_3.Mag) (hI : ∀ g, I0 g → g < w0.heap.size) (r : Int_2), f x_0 x_3 = some r →
    Ret Tryz.prog 76 #[(.agg #[(.bool x_0.Neg), v_1]), (.agg #[(.bool x_3.Neg), v_4])] w0 fun v w1 => ∃ (I1 : Nat → Prop) (u_6 : Value), v = (.agg #[(.bool r.Neg), u_6]) ∧ Hp ⟨w0, I0, []⟩ I1 [] w1 ∧ RepS (dI .u32) w1 I1 u_6 r.Mag
theorem ref01_Gcd_ok (n : Nat) : ref01_Gcd_S (ref01_Gcd n) := by
  intro w0 I0 x_0 v_1 r_2 x_3 v_4 r_5 hI r h
  unfold ref01_Gcd at h
  refine enter Tryz.func76 rfl (Nat.le_of_ble_eq_true rfl) ?_
  have hp : Hp ⟨w0, I0, []⟩ I0 [] w0 := Hp.start hI
  apply go
  apply go
  refine ev_boxI hp rfl rfl ?_
  intro p_6 I_7 w_8 hp hs a_9
  replace r_5 := r_5.step hs
  replace r_2 := r_2.step hs
  refine ev_boxI hp rfl rfl ?_
  intro p_a I_b w_c hp hs a_d
  replace a_9 := a_9.step hs
  replace r_2 := r_2.step hs
  replace r_5 := r_5.step hs
  refine ev_alloc hp rfl T24 ?_
  intro g_e w_f hp hs
  replace a_9 := a_9.step hs
  replace r_2 := r_2.step hs
  replace a_d := a_d.step hs
  replace r_5 := r_5.step hs
  apply go
  apply go
  refine ev0 (rn_field rfl rfl FO24_1) ?_
  refine ev (rn_load rfl rfl (run_loadVar1 T22 (a_9.2 1 _ rfl))) ?_
  obtain ⟨x_g, q_h, h⟩ := bind_some h
  refine ev_call rfl rfl C100 (((ref01_trim_ok n) _ _  x_0.Mag v_1 r_2 hp.imm _ q_h).mono ?_)
  rintro _ w_i ⟨I_j, v_k, e_l, hv, hq, o_m⟩
  replace hv := hv.symm
  subst hv
  have hs := hq.st
  have hp := hp.join0 hq
  replace a_9 := a_9.step hs
  replace r_2 := r_2.step hs
  replace a_d := a_d.step hs
  replace r_5 := r_5.step hs
  apply go
  apply go
  refine ev0 (rn_field rfl rfl FO24_1) ?_
  refine ev (rn_load rfl rfl (run_loadVar1 T22 (a_d.2 1 _ rfl))) ?_
  obtain ⟨x_n, q_o, h⟩ := bind_some h
  refine ev_call rfl rfl C100 (((ref01_trim_ok n) _ _  x_3.Mag v_4 r_5 hp.imm _ q_o).mono ?_)
  rintro _ w_p ⟨I_q, v_r, e_s, hv, hq, o_t⟩
  replace hv := hv.symm
  subst hv
  have hs := hq.st
  have hp := hp.join0 hq
  replace a_9 := a_9.step hs
  replace r_2 := r_2.step hs
  replace a_d := a_d.step hs
  replace r_5 := r_5.step hs
  replace o_m := o_m.step hs
  apply go
  apply go
  apply go
  refine ev0 (x_lenO rfl rfl Tryz.underlying22 o_m) ?_
  apply go
  refine sel_of (fun hc => ?_) (fun hc => ?_)
  ·
    have h := cond_t h hc
    apply go
    apply go
    refine ev (rn_load rfl rfl (run_loadVarA T24 rfl a_d)) ?_
    obtain ⟨x_u, q_v, h⟩ := bind_some h
    refine ev_call rfl rfl C102 (((ref01_Abs_ok n) _ _  (Int_2.mk x_3.Neg x_3.Mag) v_4 r_5 hp.imm _ q_v).mono ?_)
    rintro _ w_w ⟨I_x, v_y, hv, hq, r_z⟩
    replace hv := hv.symm
    subst hv
    have hs := hq.st
    have hp := hp.join0 hq
    refine ev_storeA hp (i := 2) (off := 0) (vs := [(.bool x_u.Neg), v_y]) rfl rfl rfl rfl T24 rfl (Nat.le_of_ble_eq_true rfl) (ones_cons rfl (ones_cons r_z.one ones_nil)) ?_
    intro w_10 hp hs
    replace r_z := r_z.step hs
    apply go
    obtain rfl := Option.some.inj h
    refine ⟨_, run_loadVarA T24 rfl (hp.at_ (i := 2) rfl), ?_⟩
    have hp := hp.sel [] (by decide)
    exact ⟨I_x, v_y, rfl, hp, r_z⟩
  ·
    have h := cond_f h hc
    apply go
    apply go
    apply go
    apply go
    refine ev0 (x_lenO rfl rfl Tryz.underlying22 o_t) ?_
    apply go
    refine sel_of (fun hc => ?_) (fun hc => ?_)
    ·
      have h := cond_t h hc
      apply go
      apply go
      refine ev (rn_load rfl rfl (run_loadVarA T24 rfl a_9)) ?_
      obtain ⟨x_11, q_12, h⟩ := bind_some h
      refine ev_call rfl rfl C102 (((ref01_Abs_ok n) _ _  (Int_2.mk x_0.Neg x_0.Mag) v_1 r_2 hp.imm _ q_12).mono ?_)
      rintro _ w_13 ⟨I_14, v_15, hv, hq, r_16⟩
      replace hv := hv.symm
      subst hv
      have hs := hq.st
      have hp := hp.join0 hq
      refine ev_storeA hp (i := 2) (off := 0) (vs := [(.bool x_11.Neg), v_15]) rfl rfl rfl rfl T24 rfl (Nat.le_of_ble_eq_true rfl) (ones_cons rfl (ones_cons r_16.one ones_nil)) ?_
      intro w_17 hp hs
      replace r_16 := r_16.step hs
      apply go
      obtain rfl := Option.some.inj h
      refine ⟨_, run_loadVarA T24 rfl (hp.at_ (i := 2) rfl), ?_⟩
      have hp := hp.sel [] (by decide)
      exact ⟨I_14, v_15, rfl, hp, r_16⟩
    ·
      have h := cond_f h hc
      apply go
      apply go
      apply go
      obtain ⟨y_18, q_19, h⟩ := bind_some h
      refine W.cut (γ := ((List Int) × (List Int) × Int × Value × Value × (Nat → Prop))) (fun g => [(4, (.pointer (some ⟨g_e, 0, none⟩))), (5, (g.2.2.2.1)), (6, (g.2.2.2.2.1)), (7, (.int .i64 (g.2.2.1)))]) (fun g w' => y_18 = ((g.1), (g.2.1), (g.2.2.1)) ∧ Hp ⟨w0, I0, []⟩ (g.2.2.2.2.2) [some (g_e, [(.bool false), (.slice none 0 0)], 24)] w' ∧ RepS (dI .u32) w' (g.2.2.2.2.2) (g.2.2.2.1) (g.1) ∧ RepS (dI .u32) w' (g.2.2.2.2.2) (g.2.2.2.2.1) (g.2.1)) ?_ ?_
      ·
        apply go
        have r_1a := o_m.frz hp (i := 1) rfl
        obtain ⟨hp, hs⟩ := freeze_hp hp (i := 1) rfl
        replace o_t := o_t.step hs
        have hp := hp.sel [0, 2] (by decide)
        have r_1b := o_t.frz hp (i := 0) rfl
        obtain ⟨hp, hs⟩ := freeze_hp hp (i := 0) rfl
        replace r_1a := r_1a.step hs
        have hp := hp.sel [1] (by decide)
        refine W.loop q_19 (γ := (Value × Value × (Nat → Prop))) (fun s g => [(4, (.pointer (some ⟨g_e, 0, none⟩))), (5, (g.1)), (6, (g.2.1)), (7, (.int .i64 (s.2.2)))]) (fun s g w' => Hp ⟨w0, I0, []⟩ (g.2.2) [some (g_e, [(.bool false), (.slice none 0 0)], 24)] w' ∧ RepS (dI .u32) w' (g.2.2) (g.1) (s.1) ∧ RepS (dI .u32) w' (g.2.2) (g.2.1) (s.2.1)) (v_k, v_r, (Ad (Ad I_q e_l) e_s)) (.c rfl (.c rfl (.c rfl (.c rfl .n)))) ⟨hp, r_1a, r_1b⟩ ?_
        rintro ⟨x_1c, x_1d, x_1e⟩ ⟨v_1f, v_1g, I_1h⟩ w_1i y_1j ⟨hp, r_1k, r_1l⟩ q_1m q_1n
        unfold ref01_Gcd_L1 at q_1m
        apply go
        obtain ⟨y_1o, q_1p, q_1m⟩ := bind_some q_1m
        refine W.cut (γ := Bool) (fun g => [(4, (.pointer (some ⟨g_e, 0, none⟩))), (5, v_1f), (6, v_1g), (7, (.int .i64 x_1e)), (36, (.bool (g)))]) (fun g w' => y_1o = (g) ∧ w_1i = w') ?_ ?_
        ·
          apply go
          obtain ⟨x_1q, q_1r, q_1p⟩ := bind_some q_1p
          refine ev_index rfl rfl rfl Tryz.underlying22 T46 r_1k q_1r ?_
          intro p_1s c_1t d_1u a_1v
          obtain rfl : c_1t = [(.int .u32 x_1q)] := d_1u
          refine ev (rn_load rfl rfl (run_loadVar1 T46 (a_1v.2 0 _ rfl))) ?_
          refine ⟨by decide, ?_⟩
          refine sel_of (fun hc => ?_) (fun hc => ?_)
          ·
            have q_1p := cond_t q_1p hc
            obtain ⟨x_1w, q_1x, q_1p⟩ := bind_some q_1p
            refine ev_index rfl rfl rfl Tryz.underlying22 T46 r_1l q_1x ?_
            intro p_1y c_1z d_20 a_21
            obtain rfl : c_1z = [(.int .u32 x_1w)] := d_20
            refine ev (rn_load rfl rfl (run_loadVar1 T46 (a_21.2 0 _ rfl))) ?_
            refine ⟨by decide, ?_⟩
            obtain rfl := Option.some.inj q_1p
            exact ⟨((x_1w.tmod 2) == 0), (.c rfl (.c rfl (.c rfl (.c rfl (.c rfl .n))))), rfl, rfl⟩
          ·
            have q_1p := cond_f q_1p hc
            obtain rfl := Option.some.inj q_1p
            exact ⟨false, (.c rfl (.c rfl (.c rfl (.c rfl (.c rfl .n))))), rfl, rfl⟩
        ·
          rintro x_22 _ ⟨hy, rfl⟩
          replace hy := hy.symm
          subst hy
          apply go
          refine sel_of (fun hc => ?_) (fun hc => ?_)
          ·
            have q_1m := cond_t q_1m hc
            apply go
            apply go
            apply go
            apply go
            obtain ⟨x_23, q_24, q_1m⟩ := bind_some q_1m
            refine ev_call rfl rfl C103 (((ref01_half_ok n) _ _  x_1c v_1f r_1k hp.imm _ q_24).mono ?_)
            rintro _ w_25 ⟨I_26, v_27, hv, hq, r_28⟩
            replace hv := hv.symm
            subst hv
            have hs := hq.st
            have hp := hp.join0 hq
            replace r_1l := r_1l.step hs
            apply go
            apply go
            obtain ⟨x_29, q_2a, q_1m⟩ := bind_some q_1m
            refine ev_call rfl rfl C103 (((ref01_half_ok n) _ _  x_1d v_1g r_1l hp.imm _ q_2a).mono ?_)
            rintro _ w_2b ⟨I_2c, v_2d, hv, hq, r_2e⟩
            replace hv := hv.symm
            subst hv
            have hs := hq.st
            have hp := hp.join0 hq
            replace r_28 := r_28.step hs
            apply go
            exact ⟨_, (Option.some.inj q_1m).symm, (v_27, v_2d, I_2c), (.c rfl (.c rfl (.c rfl (.c rfl .n)))), ⟨hp, r_28, r_2e⟩⟩
          ·
            have q_1m := cond_f q_1m hc
            apply go
            have q_2f := congrArg some (q_1n _ (Option.some.inj q_1m).symm)
            obtain rfl := Option.some.inj q_2f
            exact ⟨(x_1c, x_1d, x_1e, v_1f, v_1g, I_1h), (.c rfl (.c rfl (.c rfl (.c rfl .n)))), rfl, hp, r_1k, r_1l⟩
      ·
        rintro ⟨x_2g, x_2h, x_2i, v_2j, v_2k, I_2l⟩ w_2m ⟨hy, hp, r_2n, r_2o⟩
        replace hy := hy.symm
        subst hy
        obtain ⟨y_2p, q_2q, h⟩ := bind_some h
        refine W.cut (γ := ((List Int) × Value × (Nat → Prop))) (fun g => [(4, (.pointer (some ⟨g_e, 0, none⟩))), (5, (g.2.1)), (7, (.int .i64 x_2i))]) (fun g w' => y_2p = (g.1) ∧ Hp ⟨w0, I0, []⟩ (g.2.2) [some (g_e, [(.bool false), (.slice none 0 0)], 24)] w' ∧ RepS (dI .u32) w' (g.2.2) (g.2.1) (g.1)) ?_ ?_
        ·
          apply go
          refine W.loop q_2q (γ := (Value × Value × (Nat → Prop))) (fun s g => [(4, (.pointer (some ⟨g_e, 0, none⟩))), (5, (g.1)), (6, (g.2.1)), (7, (.int .i64 x_2i))]) (fun s g w' => Hp ⟨w0, I0, []⟩ (g.2.2) [some (g_e, [(.bool false), (.slice none 0 0)], 24)] w' ∧ RepS (dI .u32) w' (g.2.2) (g.1) (s.1) ∧ RepS (dI .u32) w' (g.2.2) (g.2.1) (s.2)) (v_2j, v_2k, I_2l) (.c rfl (.c rfl (.c rfl (.c rfl .n)))) ⟨hp, r_2n, r_2o⟩ ?_
          rintro ⟨x_2r, x_2s⟩ ⟨v_2t, v_2u, I_2v⟩ w_2w y_2x ⟨hp, r_2y, r_2z⟩ q_30 q_31
          unfold ref01_Gcd_L3 at q_30
          apply go
          apply go
          apply go
          obtain ⟨x_32, q_33, q_30⟩ := bind_some q_30
          refine ev_call rfl rfl C78 (((ref01_cmp_ok n) _ _  x_2r v_2t r_2y x_2s v_2u r_2z hp.imm _ q_33).mono ?_)
          rintro _ w_34 ⟨rfl, hc⟩
          have hs := hp.stp hc
          replace hp := hp.ext hc
          replace r_2y := r_2y.step hs
          replace r_2z := r_2z.step hs
          apply go
          refine sel_of (fun hc => ?_) (fun hc => ?_)
          ·
            have q_30 := cond_t q_30 hc
            apply go
            apply go
            apply go
            apply go
            apply go
            obtain ⟨x_35, q_36, q_30⟩ := bind_some q_30
            refine ev_index rfl rfl rfl Tryz.underlying22 T46 r_2y q_36 ?_
            intro p_37 c_38 d_39 a_3a
            obtain rfl : c_38 = [(.int .u32 x_35)] := d_39
            refine ev (rn_load rfl rfl (run_loadVar1 T46 (a_3a.2 0 _ rfl))) ?_
            refine ⟨by decide, ?_⟩
            apply go
            refine sel_of (fun hc => ?_) (fun hc => ?_)
            ·
              have q_30 := cond_t q_30 hc
              apply go
              obtain ⟨x_3b, q_3c, q_30⟩ := bind_some q_30
              refine ev_call rfl rfl C103 (((ref01_half_ok n) _ _  x_2r v_2t r_2y hp.imm _ q_3c).mono ?_)
              rintro _ w_3d ⟨I_3e, v_3f, hv, hq, r_3g⟩
              replace hv := hv.symm
              subst hv
              have hs := hq.st
              have hp := hp.join0 hq
              replace r_2z := r_2z.step hs
              exact ⟨_, (Option.some.inj q_30).symm, (v_3f, v_2u, I_3e), (.c rfl (.c rfl (.c rfl (.c rfl .n)))), ⟨hp, r_3g, r_2z⟩⟩
            ·
              have q_30 := cond_f q_30 hc
              apply go
              apply go
              obtain ⟨x_3h, q_3i, q_30⟩ := bind_some q_30
              refine ev_index rfl rfl rfl Tryz.underlying22 T46 r_2z q_3i ?_
              intro p_3j c_3k d_3l a_3m
              obtain rfl : c_3k = [(.int .u32 x_3h)] := d_3l
              refine ev (rn_load rfl rfl (run_loadVar1 T46 (a_3m.2 0 _ rfl))) ?_
              refine ⟨by decide, ?_⟩
              apply go
              refine sel_of (fun hc => ?_) (fun hc => ?_)
              ·
                have q_30 := cond_t q_30 hc
                apply go
                obtain ⟨x_3n, q_3o, q_30⟩ := bind_some q_30
                refine ev_call rfl rfl C103 (((ref01_half_ok n) _ _  x_2s v_2u r_2z hp.imm _ q_3o).mono ?_)
                rintro _ w_3p ⟨I_3q, v_3r, hv, hq, r_3s⟩
                replace hv := hv.symm
                subst hv
                have hs := hq.st
                have hp := hp.join0 hq
                replace r_2y := r_2y.step hs
                exact ⟨_, (Option.some.inj q_30).symm, (v_2t, v_3r, I_3q), (.c rfl (.c rfl (.c rfl (.c rfl .n)))), ⟨hp, r_2y, r_3s⟩⟩
              ·
                have q_30 := cond_f q_30 hc
                apply go
                apply go
                obtain ⟨x_3t, q_3u, q_30⟩ := bind_some q_30
                refine ev_call rfl rfl C78 (((ref01_cmp_ok n) _ _  x_2r v_2t r_2y x_2s v_2u r_2z hp.imm _ q_3u).mono ?_)
                rintro _ w_3v ⟨rfl, hc⟩
                have hs := hp.stp hc
                replace hp := hp.ext hc
                replace r_2y := r_2y.step hs
                replace r_2z := r_2z.step hs
                apply go
                refine sel_of (fun hc => ?_) (fun hc => ?_)
                ·
                  have q_30 := cond_t q_30 hc
                  apply go
                  obtain ⟨x_3w, q_3x, q_30⟩ := bind_some q_30
                  refine ev_call rfl rfl C104 (((ref01_sub_ok n) _ _  x_2r v_2t r_2y x_2s v_2u r_2z hp.imm _ q_3x).mono ?_)
                  rintro _ w_3y ⟨I_3z, v_40, hv, hq, r_41⟩
                  replace hv := hv.symm
                  subst hv
                  have hs := hq.st
                  have hp := hp.join0 hq
                  replace r_2z := r_2z.step hs
                  exact ⟨_, (Option.some.inj q_30).symm, (v_40, v_2u, I_3z), (.c rfl (.c rfl (.c rfl (.c rfl .n)))), ⟨hp, r_41, r_2z⟩⟩
                ·
                  have q_30 := cond_f q_30 hc
                  apply go
                  obtain ⟨x_42, q_43, q_30⟩ := bind_some q_30
                  refine ev_call rfl rfl C104 (((ref01_sub_ok n) _ _  x_2s v_2u r_2z x_2r v_2t r_2y hp.imm _ q_43).mono ?_)
                  rintro _ w_44 ⟨I_45, v_46, hv, hq, r_47⟩
                  replace hv := hv.symm
                  subst hv
                  have hs := hq.st
                  have hp := hp.join0 hq
                  replace r_2y := r_2y.step hs
                  exact ⟨_, (Option.some.inj q_30).symm, (v_2t, v_46, I_45), (.c rfl (.c rfl (.c rfl (.c rfl .n)))), ⟨hp, r_2y, r_47⟩⟩
          ·
            have q_30 := cond_f q_30 hc
            apply go
            have q_48 := congrArg some (q_31 _ (Option.some.inj q_30).symm)
            obtain rfl := Option.some.inj q_48
            exact ⟨(x_2r, v_2t, I_2v), (.c rfl (.c rfl (.c rfl .n))), rfl, hp, r_2y⟩
        ·
          rintro ⟨x_49, v_4a, I_4b⟩ w_4c ⟨hy, hp, r_4d⟩
          replace hy := hy.symm
          subst hy
          obtain ⟨y_4e, q_4f, h⟩ := bind_some h
          refine W.cut (γ := ((List Int) × Value × (Nat → Prop))) (fun g => [(4, (.pointer (some ⟨g_e, 0, none⟩))), (5, (g.2.1))]) (fun g w' => y_4e = (g.1) ∧ Hp ⟨w0, I0, []⟩ (g.2.2) [some (g_e, [(.bool false), (.slice none 0 0)], 24)] w' ∧ RepS (dI .u32) w' (g.2.2) (g.2.1) (g.1)) ?_ ?_
          ·
            apply go
            apply go
            apply go
            refine W.loop q_4f (γ := (Value × (Nat → Prop))) (fun s g => [(4, (.pointer (some ⟨g_e, 0, none⟩))), (5, (g.1)), (7, (.int .i64 x_2i)), (8, (.int .i64 (s.2)))]) (fun s g w' => Hp ⟨w0, I0, []⟩ (g.2) [some (g_e, [(.bool false), (.slice none 0 0)], 24)] w' ∧ RepS (dI .u32) w' (g.2) (g.1) (s.1)) (v_4a, I_4b) (.c rfl (.c rfl (.c rfl (.c rfl .n)))) ⟨hp, r_4d⟩ ?_
            rintro ⟨x_4g, x_4h⟩ ⟨v_4i, I_4j⟩ w_4k y_4l ⟨hp, r_4m⟩ q_4n q_4o
            unfold ref01_Gcd_L5 at q_4n
            apply go
            apply go
            apply go
            apply go
            refine sel_of (fun hc => ?_) (fun hc => ?_)
            ·
              have q_4n := cond_t q_4n hc
              apply go
              apply go
              apply go
              apply go
              obtain ⟨x_4p, q_4q, q_4n⟩ := bind_some q_4n
              refine ev_call rfl rfl C105 (((ref01_add_ok n) _ _  x_4g v_4i r_4m x_4g v_4i r_4m hp.imm _ q_4q).mono ?_)
              rintro _ w_4r ⟨I_4s, v_4t, hv, hq, r_4u⟩
              replace hv := hv.symm
              subst hv
              have hs := hq.st
              have hp := hp.join0 hq
              apply go
              exact ⟨_, (Option.some.inj q_4n).symm, (v_4t, I_4s), (.c rfl (.c rfl (.c rfl (.c rfl .n)))), ⟨hp, r_4u⟩⟩
            ·
              have q_4n := cond_f q_4n hc
              apply go
              have q_4v := congrArg some (q_4o _ (Option.some.inj q_4n).symm)
              obtain rfl := Option.some.inj q_4v
              exact ⟨(x_4g, v_4i, I_4j), (.c rfl (.c rfl .n)), rfl, hp, r_4m⟩
          ·
            rintro ⟨x_4w, v_4x, I_4y⟩ w_4z ⟨hy, hp, r_50⟩
            replace hy := hy.symm
            subst hy
            apply go
            apply go
            obtain ⟨A_51, m_52, m_53, rfl⟩ := r_50.isSl
            refine ev0 (fun w => rn_build (cs := [(.bool false), (.slice A_51 m_52 m_53)]) rfl rfl T24 PL24 rfl) ?_
            refine ev_storeA hp (i := 0) (off := 0) (vs := [(.bool false), (.slice A_51 m_52 m_53)]) rfl rfl rfl rfl T24 rfl (Nat.le_of_ble_eq_true rfl) (ones_cons rfl (ones_cons r_50.one ones_nil)) ?_
            intro w_54 hp hs
            replace r_50 := r_50.step hs
            apply go
            obtain rfl := Option.some.inj h
            refine ⟨_, run_loadVarA T24 rfl (hp.at_ (i := 0) rfl), ?_⟩
            have hp := hp.sel [] (by decide)
            exact ⟨I_4y, (.slice A_51 m_52 m_53), rfl, hp, r_50⟩

end Go.Proofs.YtepadjfmcbjkmaaGreatDoor
