/-
  Each function of the program computes the plain function of its name.
-/
import Derived.Test.YtcdboppghnchpaaDoorFactsA
import Derived.Test.YtcdboppghnchpaaDoorCoreA
import Derived.Test.YtcdboppghnchpaaDoorWalkB
import Derived.Test.YtcdboppghnchpaaDoorWalkA
import Derived.Test.YtcdboppghnchpaaDoorWalkC
import Derived.Test.YtcdboppghnchpaaDoorCoreB
namespace Go.Proofs.YtcdboppghnchpaaDoor
open Go Go.Proofs.YtcdboppghnchpaaDoor.Gw Go.RowKit
set_option linter.unusedVariables false
attribute [local irreducible] Ev EvQ EvS EvH vch
def top_WholeBeams_S (f : Pose → Int → Int → Option Bool) : Prop := ∀ (w0 : World) (I0 : Nat → Prop) (tb : Tb w0 I0 2 .u64 pow10) (x_0 : Pose) (x_1 : Int) (x_2 : Int) (hI : ∀ g, I0 g → g < w0.heap.size) (r : Bool), f x_0 x_1 x_2 = some r →
    Ret Tryd.prog 3 #[(.agg #[(.int .i64 x_0.X), (.int .i64 x_0.Y), (.int .i64 x_0.H)]), (.int .i64 x_1), (.int .i64 x_2)] w0 fun v w1 => v = (.bool r) ∧ Ch [] w0 w1
set_option maxHeartbeats 6400000 in
theorem top_WholeBeams_ok (n : Nat) : top_WholeBeams_S (top_WholeBeams n) := by
 intro w0 I0 tb x_0 x_1 x_2 hI r h
 unfold top_WholeBeams at h
 refine enter Tryd.func3 rfl (Nat.le_of_ble_eq_true rfl) ?_
 have hp : Hp ⟨w0, I0, []⟩ I0 [] w0 := Hp.start hI
 apply go
 apply go
 refine ev_box hp rfl rfl ?_
 intro g_3 w_4 hp hs
 have ha := hs
 apply go
 apply go
 apply go
 obtain ⟨x_5, q_6, h⟩ := bind_some h
 replace tb := tb.step ha
 refine ev_call rfl rfl C5 (((top_beamsAwake_ok n) _ _ tb  hp.imm _ q_6).mono ?_)
 rintro _ w_7 ⟨rfl, hc⟩
 have hs := hp.stp hc
 replace hp := hp.ext hc
 replace ha := hs
 apply go
 refine sel_of (fun hc => ?_) (fun hc => ?_)
 ·
  have h := cond_t h hc
  apply go
  apply go
  apply go
  obtain rfl := Option.some.inj h
  exact ⟨rfl, hp.ch⟩
 have h := cond_f h hc
 apply go
 apply go
 have hs := hp.stp (Ch.drew [] w_7)
 have hp := hp.drew
 replace ha := ha.trans hs
 refine W.heldG (.q 0 (.q 1 (.q 3 (.q 4 (.q 6 (.q 7 (.l 2 (.l 5 (.l 8 (.q 9 (.l 10 .done .no)) .no) .no) .no))))))) (SK (Stp I0 w_7.drew I0) [(g_3, [(.int .i64 x_0.X), (.int .i64 x_0.Y), (.int .i64 x_0.H)], 23)] [[10]]) MX (by kernel_rfl) ⟨Stp.refl _ _, (kp_cons (fun _ => (hp.own 0 _ _ _ rfl).1) kp_nil)⟩ ?_
 have hz := Stp.refl I0 w_7.drew
 refine ⟨SK.same (by kernel_rfl), ?_⟩
 refine evh0 (rn_field rfl rfl FO23_0) ?_
 refine ⟨SK.same (by kernel_rfl), ?_⟩
 refine evh (fun w' hw => rn_load rfl rfl (run_loadVar1 T3 ((S0.keep (p := 0) hw rfl rfl (by kernel_rfl)).cell (i := 0) (off := 0) rfl rfl))) ?_
 refine ⟨SK.same (by kernel_rfl), ?_⟩
 refine evh0 (rn_field rfl rfl FO23_1) ?_
 refine ⟨SK.same (by kernel_rfl), ?_⟩
 refine evh (fun w' hw => rn_load rfl rfl (run_loadVar1 T3 ((S0.keep (p := 0) hw rfl rfl (by kernel_rfl)).cell (i := 0) (off := 1) rfl rfl))) ?_
 refine ⟨SK.same (by kernel_rfl), ?_⟩
 refine evh0 (rn_field rfl rfl FO23_2) ?_
 refine ⟨SK.same (by kernel_rfl), ?_⟩
 refine evh (fun w' hw => rn_load rfl rfl (run_loadVar1 T3 ((S0.keep (p := 0) hw rfl rfl (by kernel_rfl)).cell (i := 0) (off := 2) rfl rfl))) ?_
 refine ⟨?_, trivial⟩
 obtain ⟨x_8, q_9, h⟩ := bind_some h
 refine ev_call rfl rfl C6 (((base_Clip_ok n) _ _  x_0.X (-1048576) 1048576 hp.imm _ q_9).mono ?_)
 rintro _ w_a ⟨rfl, hc⟩
 have hs := hp.stp hc
 replace hp := hp.ext hc
 replace hz := hz.trans hs
 replace ha := ha.trans hs
 refine nxS hz (hp.kc 0 rfl kp_nil) ?_
 have hz := Stp.refl I0 w_a
 refine ⟨?_, trivial⟩
 obtain ⟨x_b, q_c, h⟩ := bind_some h
 refine ev_call rfl rfl C6 (((base_Clip_ok n) _ _  x_0.Y (-1048576) 1048576 hp.imm _ q_c).mono ?_)
 rintro _ w_d ⟨rfl, hc⟩
 have hs := hp.stp hc
 replace hp := hp.ext hc
 replace hz := hz.trans hs
 replace ha := ha.trans hs
 refine nxS hz (hp.kc 0 rfl kp_nil) ?_
 have hz := Stp.refl I0 w_d
 refine ⟨?_, trivial⟩
 obtain ⟨x_e, q_f, h⟩ := bind_some h
 refine ev_call rfl rfl C7 (((base_Mod_ok n) _ _  x_0.H 256 hp.imm _ q_f).mono ?_)
 rintro _ w_g ⟨rfl, hc⟩
 have hs := hp.stp hc
 replace hp := hp.ext hc
 replace hz := hz.trans hs
 replace ha := ha.trans hs
 refine nxS hz (hp.kc 0 rfl kp_nil) ?_
 have hz := Stp.refl I0 w_g
 refine ⟨SK.same (by kernel_rfl), ?_⟩
 refine evh0 (fun w => rn_build (cs := [(.int .i64 x_8), (.int .i64 x_b), (.int .i64 x_e)]) rfl rfl T23 PL23 rfl) ?_
 refine ⟨?_, trivial⟩
 refine ev_storeA hp (i := 0) (off := 0) (vs := [(.int .i64 x_8), (.int .i64 x_b), (.int .i64 x_e)]) rfl rfl rfl rfl T23 rfl (Nat.le_of_ble_eq_true rfl) (ones_of rfl) ?_
 intro w_h hp hs
 replace hz := hz.trans hs
 replace ha := ha.trans hs
 refine nxS hz (kp_cons (kp_off (by kernel_rfl)) kp_nil) ?_
 have hz := Stp.refl I0 w_h
 apply go
 apply go
 obtain ⟨x_i, q_j, h⟩ := bind_some h
 refine ev_call rfl rfl C7 (((base_Mod_ok n) _ _  x_1 256 hp.imm _ q_j).mono ?_)
 rintro _ w_k ⟨rfl, hc⟩
 have hs := hp.stp hc
 replace hp := hp.ext hc
 replace ha := ha.trans hs
 obtain ⟨x_l, q_m, h⟩ := bind_some h
 refine ev_call rfl rfl C6 (((base_Clip_ok n) _ _  x_2 0 2048 hp.imm _ q_m).mono ?_)
 rintro _ w_n ⟨rfl, hc⟩
 have hs := hp.stp hc
 replace hp := hp.ext hc
 replace ha := ha.trans hs
 apply go
 apply go
 obtain ⟨x_o, q_p, h⟩ := bind_some h
 refine ev_call rfl rfl C8 (((rational_Of_ok n) _ _  0 1 hp.imm _ q_p).mono ?_)
 rintro _ w_q ⟨I_r, v_s, v_t, hv, hq, r_u, r_v⟩
 replace hv := hv.symm
 subst hv
 have hs := hq.st
 have hp := hp.join0 hq
 replace ha := ha.trans hs
 refine ev_alloc hp rfl T31 ?_
 intro g_w w_x hp hs
 replace tb := tb.step ha
 replace ha := hs
 replace r_u := r_u.step ha
 replace r_v := r_v.step ha
 refine ev_storeA hp (i := 0) (off := 0) (vs := [(.bool x_o.Num.Neg), v_s, (.bool x_o.Den.Neg), v_t]) rfl rfl rfl rfl T31 rfl (lbe rfl) (on2 r_u.one (on2 r_v.one ones_nil)) ?_
 intro w_y hp hs
 replace tb := tb.step ha
 replace ha := hs
 apply go
 apply go
 refine ev0 (rn_field rfl rfl FO23_2) ?_
 refine ev (rn_load rfl rfl (run_loadVar1 T3 (hp.cell (i := 1) (off := 2) rfl rfl))) ?_
 obtain ⟨x_z, q_10, h⟩ := bind_some h
 refine ev_call rfl rfl C9 (((heading_Beam_ok n) _ _  x_e x_i hp.imm _ q_10).mono ?_)
 rintro _ w_11 ⟨rfl, hc⟩
 have hs := hp.stp hc
 replace hp := hp.ext hc
 replace ha := ha.trans hs
 refine ev_alloc hp rfl T34 ?_
 intro g_12 w_13 hp hs
 replace ha := ha.trans hs
 refine ev_storeA hp (i := 0) (off := 0) (vs := [(.int .i64 x_z.X), (.int .i64 x_z.Y), (.int .i64 x_z.D)]) rfl rfl rfl rfl T34 rfl (Nat.le_of_ble_eq_true rfl) (ones_of rfl) ?_
 intro w_14 hp hs
 replace ha := ha.trans hs
 apply go
 apply go
 apply go
 refine ev0 (rn_field rfl rfl FO34_2) ?_
 refine ev (rn_load rfl rfl (run_loadVar1 T3 (hp.cell (i := 0) (off := 2) rfl rfl))) ?_
 apply go
 refine sel_of (fun hc => ?_) (fun hc => ?_)
 ·
  have h := cond_t h hc
  apply go
  apply go
  apply go
  obtain rfl := Option.some.inj h
  exact ⟨rfl, hp.ch⟩
 have h := cond_f h hc
 apply go
 obtain ⟨y_15, q_16, h⟩ := bind_some h
 refine W.cut (γ := (Bool × (List Int) × Bool × (List Int) × Nat × Value × Value × (Nat → Prop))) (fun g => [(1, (.int .i64 x_i)), (2, (.int .i64 x_l)), (3, (.pointer (some ⟨g_3, 0, none⟩))), (7, (.pointer (some ⟨g_w, 0, none⟩))), (8, (.pointer (some ⟨g_12, 0, none⟩))), (9, (.pointer (some ⟨(g.2.2.2.2.1), 0, none⟩)))]) (fun g w' => y_15 = ((g.1), (g.2.1), (g.2.2.1), (g.2.2.2.1)) ∧ Hp ⟨w0, I0, []⟩ (g.2.2.2.2.2.2.2) [some (g_3, [(.int .i64 x_8), (.int .i64 x_b), (.int .i64 x_e)], 23), some (g_w, [(.bool x_o.Num.Neg), v_s, (.bool x_o.Den.Neg), v_t], 31), some (g_12, [(.int .i64 x_z.X), (.int .i64 x_z.Y), (.int .i64 x_z.D)], 34), some ((g.2.2.2.2.1), [(.bool (g.1)), (g.2.2.2.2.2.1), (.bool (g.2.2.1)), (g.2.2.2.2.2.2.1)], 31)] w' ∧ RepS (dI .u32) w' (g.2.2.2.2.2.2.2) v_s x_o.Num.Mag ∧ RepS (dI .u32) w' (g.2.2.2.2.2.2.2) v_t x_o.Den.Mag ∧ RepS (dI .u32) w' (g.2.2.2.2.2.2.2) (g.2.2.2.2.2.1) (g.2.1) ∧ RepS (dI .u32) w' (g.2.2.2.2.2.2.2) (g.2.2.2.2.2.2.1) (g.2.2.2.1) ∧ Tb w' (g.2.2.2.2.2.2.2) 2 .u64 pow10) ?_ ?_
 ·
  have hs := hp.stp (Ch.drew [] w_14)
  have hp := hp.drew
  replace ha := ha.trans hs
  refine W.heldG (.q 0 (.q 1 (.q 3 (.q 4 (.q 5 (.q 6 (.q 7 (.q 8 (.l 2 (.l 9 (.l 10 (.l 11 (.l 12 .done .no) .no) (.l 11 (.l 10 (.l 12 .done .no) .no) .no)) (.l 11 (.l 9 (.l 10 (.l 12 .done .no) .no) .no) .no)) (.l 11 (.l 2 (.l 9 (.l 10 (.l 12 .done .no) .no) .no) .no) .no)))))))))) (SK (Stp I_r w_14.drew I_r) [(g_3, [(.int .i64 x_8), (.int .i64 x_b), (.int .i64 x_e)], 23), (g_12, [(.int .i64 x_z.X), (.int .i64 x_z.Y), (.int .i64 x_z.D)], 34)] [[], []]) MX (by kernel_rfl) ⟨Stp.refl _ _, (kp_cons (fun _ => (hp.own 2 _ _ _ rfl).1) (kp_cons (fun _ => (hp.own 0 _ _ _ rfl).1) kp_nil))⟩ ?_
  have hz := Stp.refl I_r w_14.drew
  refine ⟨SK.same (by kernel_rfl), ?_⟩
  refine evh0 (rn_field rfl rfl FO23_0) ?_
  refine ⟨SK.same (by kernel_rfl), ?_⟩
  refine evh (fun w' hw => rn_load rfl rfl (run_loadVar1 T3 ((S0.keep (p := 0) hw rfl rfl (by kernel_rfl)).cell (i := 0) (off := 0) rfl rfl))) ?_
  refine ⟨SK.same (by kernel_rfl), ?_⟩
  refine ⟨SK.same (by kernel_rfl), ?_⟩
  refine evh0 (rn_field rfl rfl FO34_0) ?_
  refine ⟨SK.same (by kernel_rfl), ?_⟩
  refine evh (fun w' hw => rn_load rfl rfl (run_loadVar1 T3 ((S0.keep (p := 1) hw rfl rfl (by kernel_rfl)).cell (i := 0) (off := 0) rfl rfl))) ?_
  refine ⟨SK.same (by kernel_rfl), ?_⟩
  refine ⟨SK.same (by kernel_rfl), ?_⟩
  refine evh0 (rn_field rfl rfl FO34_2) ?_
  refine ⟨SK.same (by kernel_rfl), ?_⟩
  refine evh (fun w' hw => rn_load rfl rfl (run_loadVar1 T3 ((S0.keep (p := 1) hw rfl rfl (by kernel_rfl)).cell (i := 0) (off := 2) rfl rfl))) ?_
  refine ⟨?_, ?_⟩
  ·
   obtain ⟨x_17, q_18, q_16⟩ := bind_some q_16
   refine ev_call rfl rfl C8 (((rational_Of_ok n) _ _  x_8 1 hp.imm _ q_18).mono ?_)
   rintro _ w_19 ⟨I_1a, v_1b, v_1c, hv, hq, r_1d, r_1e⟩
   replace hv := hv.symm
   subst hv
   have hs := hq.st
   have hp := hp.join0 hq
   replace hz := hz.trans hs
   replace ha := ha.trans hs
   refine nxS hz (hp.kc 2 rfl (hp.kc 0 rfl kp_nil)) ?_
   have hz := Stp.refl I_1a w_19
   refine ⟨?_, ?_⟩
   ·
    obtain ⟨x_1f, q_1g, q_16⟩ := bind_some q_16
    refine ev_call rfl rfl C8 (((rational_Of_ok n) _ _  (IntKind.i64.wrap (x_l * x_z.X)) x_z.D hp.imm _ q_1g).mono ?_)
    rintro _ w_1h ⟨I_1i, v_1j, v_1k, hv, hq, r_1l, r_1m⟩
    replace hv := hv.symm
    subst hv
    have hs := hq.st
    have hp := hp.join0 hq
    replace hz := hz.trans hs
    replace ha := ha.trans hs
    replace r_1d := r_1d.step hs
    replace r_1e := r_1e.step hs
    refine nxS hz (hp.kc 2 rfl (hp.kc 0 rfl kp_nil)) ?_
    have hz := Stp.refl I_1i w_1h
    refine ⟨?_, ?_⟩
    ·
     obtain ⟨x_1n, q_1o, q_16⟩ := bind_some q_16
     refine ev_call rfl rfl C10 (((rational_Add_ok n) _ _  x_17 v_1b r_1d v_1c r_1e x_1f v_1j r_1l v_1k r_1m hp.imm _ q_1o).mono ?_)
     rintro _ w_1p ⟨I_1q, v_1r, v_1s, hv, hq, r_1t, r_1u⟩
     replace hv := hv.symm
     subst hv
     have hs := hq.st
     have hp := hp.join0 hq
     replace hz := hz.trans hs
     replace ha := ha.trans hs
     refine nxS hz (hp.kc 2 rfl (hp.kc 0 rfl kp_nil)) ?_
     have hz := Stp.refl I_1q w_1p
     refine ⟨?_, trivial⟩
     refine ev_alloc hp rfl T31 ?_
     intro g_1v w_1w hp hs
     replace hz := hz.trans hs
     replace ha := ha.trans hs
     replace r_1t := r_1t.step hs
     replace r_1u := r_1u.step hs
     refine nxS hz (hp.kc 3 rfl (hp.kc 1 rfl kp_nil)) ?_
     have hz := Stp.refl I_1q w_1w
     refine ⟨?_, trivial⟩
     refine ev_storeA hp (i := 0) (off := 0) (vs := [(.bool x_1n.Num.Neg), v_1r, (.bool x_1n.Den.Neg), v_1s]) rfl rfl rfl rfl T31 rfl (lbe rfl) (on2 r_1t.one (on2 r_1u.one ones_nil)) ?_
     intro w_1x hp hs
     replace hz := hz.trans hs
     replace ha := ha.trans hs
     replace r_1t := r_1t.step hs
     replace r_1u := r_1u.step hs
     refine nxS hz (hp.kc 3 rfl (hp.kc 1 rfl kp_nil)) ?_
     have hz := Stp.refl I_1q w_1x
     obtain rfl := Option.some.inj q_16
     have hp := hp.perm [3, 2, 1, 0] (by decide)
     replace r_u := r_u.step ha
     replace r_v := r_v.step ha
     replace tb := tb.step ha
     exact ⟨(x_1n.Num.Neg, x_1n.Num.Mag, x_1n.Den.Neg, x_1n.Den.Mag, g_1v, v_1r, v_1s, I_1q), (.c rfl (.c rfl (.c rfl (.c rfl (.c rfl (.c rfl .n)))))), rfl, hp, r_u, r_v, r_1t, r_1u, tb⟩
    refine ⟨?_, trivial⟩
    refine ev_alloc hp rfl T31 ?_
    intro g_1y w_1z hp hs
    replace hz := hz.trans hs
    replace r_u := r_u.step ha
    replace r_v := r_v.step ha
    replace tb := tb.step ha
    replace ha := hs
    refine nxS hz (hp.kc 3 rfl (hp.kc 1 rfl kp_nil)) ?_
    have hz := Stp.refl I_1i w_1z
    refine ⟨?_, trivial⟩
    obtain ⟨x_20, q_21, q_16⟩ := bind_some q_16
    replace r_1d := r_1d.step ha
    replace r_1e := r_1e.step ha
    replace r_1l := r_1l.step ha
    replace r_1m := r_1m.step ha
    refine ev_call rfl rfl C10 (((rational_Add_ok n) _ _  x_17 v_1b r_1d v_1c r_1e x_1f v_1j r_1l v_1k r_1m hp.imm _ q_21).mono ?_)
    rintro _ w_22 ⟨I_23, v_24, v_25, hv, hq, r_26, r_27⟩
    replace hv := hv.symm
    subst hv
    have hs := hq.st
    have hp := hp.join0 hq
    replace hz := hz.trans hs
    replace ha := ha.trans hs
    refine nxS hz (hp.kc 3 rfl (hp.kc 1 rfl kp_nil)) ?_
    have hz := Stp.refl I_23 w_22
    refine ⟨?_, trivial⟩
    refine ev_storeA hp (i := 0) (off := 0) (vs := [(.bool x_20.Num.Neg), v_24, (.bool x_20.Den.Neg), v_25]) rfl rfl rfl rfl T31 rfl (lbe rfl) (on2 r_26.one (on2 r_27.one ones_nil)) ?_
    intro w_28 hp hs
    replace hz := hz.trans hs
    replace ha := ha.trans hs
    replace r_26 := r_26.step hs
    replace r_27 := r_27.step hs
    refine nxS hz (hp.kc 3 rfl (hp.kc 1 rfl kp_nil)) ?_
    have hz := Stp.refl I_23 w_28
    obtain rfl := Option.some.inj q_16
    have hp := hp.perm [3, 2, 1, 0] (by decide)
    replace r_u := r_u.step ha
    replace r_v := r_v.step ha
    replace tb := tb.step ha
    exact ⟨(x_20.Num.Neg, x_20.Num.Mag, x_20.Den.Neg, x_20.Den.Mag, g_1y, v_24, v_25, I_23), (.c rfl (.c rfl (.c rfl (.c rfl (.c rfl (.c rfl .n)))))), rfl, hp, r_u, r_v, r_26, r_27, tb⟩
   refine ⟨?_, trivial⟩
   refine ev_alloc hp rfl T31 ?_
   intro g_29 w_2a hp hs
   replace hz := hz.trans hs
   replace ha := ha.trans hs
   replace r_1d := r_1d.step hs
   replace r_1e := r_1e.step hs
   refine nxS hz (hp.kc 3 rfl (hp.kc 1 rfl kp_nil)) ?_
   have hz := Stp.refl I_1a w_2a
   refine ⟨?_, trivial⟩
   obtain ⟨x_2b, q_2c, q_16⟩ := bind_some q_16
   refine ev_call rfl rfl C8 (((rational_Of_ok n) _ _  (IntKind.i64.wrap (x_l * x_z.X)) x_z.D hp.imm _ q_2c).mono ?_)
   rintro _ w_2d ⟨I_2e, v_2f, v_2g, hv, hq, r_2h, r_2i⟩
   replace hv := hv.symm
   subst hv
   have hs := hq.st
   have hp := hp.join0 hq
   replace hz := hz.trans hs
   replace ha := ha.trans hs
   replace r_1d := r_1d.step hs
   replace r_1e := r_1e.step hs
   refine nxS hz (hp.kc 3 rfl (hp.kc 1 rfl kp_nil)) ?_
   have hz := Stp.refl I_2e w_2d
   refine ⟨?_, trivial⟩
   obtain ⟨x_2j, q_2k, q_16⟩ := bind_some q_16
   refine ev_call rfl rfl C10 (((rational_Add_ok n) _ _  x_17 v_1b r_1d v_1c r_1e x_2b v_2f r_2h v_2g r_2i hp.imm _ q_2k).mono ?_)
   rintro _ w_2l ⟨I_2m, v_2n, v_2o, hv, hq, r_2p, r_2q⟩
   replace hv := hv.symm
   subst hv
   have hs := hq.st
   have hp := hp.join0 hq
   replace hz := hz.trans hs
   replace ha := ha.trans hs
   refine nxS hz (hp.kc 3 rfl (hp.kc 1 rfl kp_nil)) ?_
   have hz := Stp.refl I_2m w_2l
   refine ⟨?_, trivial⟩
   refine ev_storeA hp (i := 0) (off := 0) (vs := [(.bool x_2j.Num.Neg), v_2n, (.bool x_2j.Den.Neg), v_2o]) rfl rfl rfl rfl T31 rfl (lbe rfl) (on2 r_2p.one (on2 r_2q.one ones_nil)) ?_
   intro w_2r hp hs
   replace hz := hz.trans hs
   replace ha := ha.trans hs
   replace r_2p := r_2p.step hs
   replace r_2q := r_2q.step hs
   refine nxS hz (hp.kc 3 rfl (hp.kc 1 rfl kp_nil)) ?_
   have hz := Stp.refl I_2m w_2r
   obtain rfl := Option.some.inj q_16
   have hp := hp.perm [3, 2, 1, 0] (by decide)
   replace r_u := r_u.step ha
   replace r_v := r_v.step ha
   replace tb := tb.step ha
   exact ⟨(x_2j.Num.Neg, x_2j.Num.Mag, x_2j.Den.Neg, x_2j.Den.Mag, g_29, v_2n, v_2o, I_2m), (.c rfl (.c rfl (.c rfl (.c rfl (.c rfl (.c rfl .n)))))), rfl, hp, r_u, r_v, r_2p, r_2q, tb⟩
  refine ⟨?_, trivial⟩
  refine ev_alloc hp rfl T31 ?_
  intro g_2s w_2t hp hs
  replace hz := hz.trans hs
  replace ha := ha.trans hs
  refine nxS hz (hp.kc 3 rfl (hp.kc 1 rfl kp_nil)) ?_
  have hz := Stp.refl I_r w_2t
  refine ⟨?_, trivial⟩
  obtain ⟨x_2u, q_2v, q_16⟩ := bind_some q_16
  refine ev_call rfl rfl C8 (((rational_Of_ok n) _ _  x_8 1 hp.imm _ q_2v).mono ?_)
  rintro _ w_2w ⟨I_2x, v_2y, v_2z, hv, hq, r_30, r_31⟩
  replace hv := hv.symm
  subst hv
  have hs := hq.st
  have hp := hp.join0 hq
  replace hz := hz.trans hs
  replace ha := ha.trans hs
  refine nxS hz (hp.kc 3 rfl (hp.kc 1 rfl kp_nil)) ?_
  have hz := Stp.refl I_2x w_2w
  refine ⟨?_, trivial⟩
  obtain ⟨x_32, q_33, q_16⟩ := bind_some q_16
  refine ev_call rfl rfl C8 (((rational_Of_ok n) _ _  (IntKind.i64.wrap (x_l * x_z.X)) x_z.D hp.imm _ q_33).mono ?_)
  rintro _ w_34 ⟨I_35, v_36, v_37, hv, hq, r_38, r_39⟩
  replace hv := hv.symm
  subst hv
  have hs := hq.st
  have hp := hp.join0 hq
  replace hz := hz.trans hs
  replace ha := ha.trans hs
  replace r_30 := r_30.step hs
  replace r_31 := r_31.step hs
  refine nxS hz (hp.kc 3 rfl (hp.kc 1 rfl kp_nil)) ?_
  have hz := Stp.refl I_35 w_34
  refine ⟨?_, trivial⟩
  obtain ⟨x_3a, q_3b, q_16⟩ := bind_some q_16
  refine ev_call rfl rfl C10 (((rational_Add_ok n) _ _  x_2u v_2y r_30 v_2z r_31 x_32 v_36 r_38 v_37 r_39 hp.imm _ q_3b).mono ?_)
  rintro _ w_3c ⟨I_3d, v_3e, v_3f, hv, hq, r_3g, r_3h⟩
  replace hv := hv.symm
  subst hv
  have hs := hq.st
  have hp := hp.join0 hq
  replace hz := hz.trans hs
  replace ha := ha.trans hs
  refine nxS hz (hp.kc 3 rfl (hp.kc 1 rfl kp_nil)) ?_
  have hz := Stp.refl I_3d w_3c
  refine ⟨?_, trivial⟩
  refine ev_storeA hp (i := 0) (off := 0) (vs := [(.bool x_3a.Num.Neg), v_3e, (.bool x_3a.Den.Neg), v_3f]) rfl rfl rfl rfl T31 rfl (lbe rfl) (on2 r_3g.one (on2 r_3h.one ones_nil)) ?_
  intro w_3i hp hs
  replace hz := hz.trans hs
  replace ha := ha.trans hs
  replace r_3g := r_3g.step hs
  replace r_3h := r_3h.step hs
  refine nxS hz (hp.kc 3 rfl (hp.kc 1 rfl kp_nil)) ?_
  have hz := Stp.refl I_3d w_3i
  obtain rfl := Option.some.inj q_16
  have hp := hp.perm [3, 2, 1, 0] (by decide)
  replace r_u := r_u.step ha
  replace r_v := r_v.step ha
  replace tb := tb.step ha
  exact ⟨(x_3a.Num.Neg, x_3a.Num.Mag, x_3a.Den.Neg, x_3a.Den.Mag, g_2s, v_3e, v_3f, I_3d), (.c rfl (.c rfl (.c rfl (.c rfl (.c rfl (.c rfl .n)))))), rfl, hp, r_u, r_v, r_3g, r_3h, tb⟩
 rintro ⟨x_3j, x_3k, x_3l, x_3m, g_3n, v_3o, v_3p, I_3q⟩ w_3r ⟨hy, hp, r_u, r_v, r_3s, r_3t, tb⟩
 replace hy := hy.symm
 subst hy
 obtain ⟨y_3u, q_3v, h⟩ := bind_some h
 refine W.cut (γ := (Bool × (List Int) × Bool × (List Int) × Nat × Value × Value × (Nat → Prop))) (fun g => [(1, (.int .i64 x_i)), (2, (.int .i64 x_l)), (3, (.pointer (some ⟨g_3, 0, none⟩))), (7, (.pointer (some ⟨g_w, 0, none⟩))), (8, (.pointer (some ⟨g_12, 0, none⟩))), (9, (.pointer (some ⟨g_3n, 0, none⟩))), (10, (.pointer (some ⟨(g.2.2.2.2.1), 0, none⟩)))]) (fun g w' => y_3u = ((g.1), (g.2.1), (g.2.2.1), (g.2.2.2.1)) ∧ Hp ⟨w0, I0, []⟩ (g.2.2.2.2.2.2.2) [some (g_3, [(.int .i64 x_8), (.int .i64 x_b), (.int .i64 x_e)], 23), some (g_w, [(.bool x_o.Num.Neg), v_s, (.bool x_o.Den.Neg), v_t], 31), some (g_12, [(.int .i64 x_z.X), (.int .i64 x_z.Y), (.int .i64 x_z.D)], 34), some (g_3n, [(.bool x_3j), v_3o, (.bool x_3l), v_3p], 31), some ((g.2.2.2.2.1), [(.bool (g.1)), (g.2.2.2.2.2.1), (.bool (g.2.2.1)), (g.2.2.2.2.2.2.1)], 31)] w' ∧ RepS (dI .u32) w' (g.2.2.2.2.2.2.2) v_s x_o.Num.Mag ∧ RepS (dI .u32) w' (g.2.2.2.2.2.2.2) v_t x_o.Den.Mag ∧ RepS (dI .u32) w' (g.2.2.2.2.2.2.2) v_3o x_3k ∧ RepS (dI .u32) w' (g.2.2.2.2.2.2.2) v_3p x_3m ∧ RepS (dI .u32) w' (g.2.2.2.2.2.2.2) (g.2.2.2.2.2.1) (g.2.1) ∧ RepS (dI .u32) w' (g.2.2.2.2.2.2.2) (g.2.2.2.2.2.2.1) (g.2.2.2.1) ∧ Tb w' (g.2.2.2.2.2.2.2) 2 .u64 pow10) ?_ ?_
 ·
  have hs := hp.stp (Ch.drew [] w_3r)
  have hp := hp.drew
  replace ha := hs
  refine W.heldG (.q 0 (.q 1 (.q 3 (.q 4 (.q 5 (.q 6 (.q 7 (.q 8 (.l 2 (.l 9 (.l 10 (.l 11 (.l 12 .done .no) .no) (.l 11 (.l 10 (.l 12 .done .no) .no) .no)) (.l 11 (.l 9 (.l 10 (.l 12 .done .no) .no) .no) .no)) (.l 11 (.l 2 (.l 9 (.l 10 (.l 12 .done .no) .no) .no) .no) .no)))))))))) (SK (Stp I_3q w_3r.drew I_3q) [(g_3, [(.int .i64 x_8), (.int .i64 x_b), (.int .i64 x_e)], 23), (g_12, [(.int .i64 x_z.X), (.int .i64 x_z.Y), (.int .i64 x_z.D)], 34)] [[], []]) MX (by kernel_rfl) ⟨Stp.refl _ _, (kp_cons (fun _ => (hp.own 0 _ _ _ rfl).1) (kp_cons (fun _ => (hp.own 2 _ _ _ rfl).1) kp_nil))⟩ ?_
  have hz := Stp.refl I_3q w_3r.drew
  refine ⟨SK.same (by kernel_rfl), ?_⟩
  refine evh0 (rn_field rfl rfl FO23_1) ?_
  refine ⟨SK.same (by kernel_rfl), ?_⟩
  refine evh (fun w' hw => rn_load rfl rfl (run_loadVar1 T3 ((S0.keep (p := 0) hw rfl rfl (by kernel_rfl)).cell (i := 0) (off := 1) rfl rfl))) ?_
  refine ⟨SK.same (by kernel_rfl), ?_⟩
  refine ⟨SK.same (by kernel_rfl), ?_⟩
  refine evh0 (rn_field rfl rfl FO34_1) ?_
  refine ⟨SK.same (by kernel_rfl), ?_⟩
  refine evh (fun w' hw => rn_load rfl rfl (run_loadVar1 T3 ((S0.keep (p := 1) hw rfl rfl (by kernel_rfl)).cell (i := 0) (off := 1) rfl rfl))) ?_
  refine ⟨SK.same (by kernel_rfl), ?_⟩
  refine ⟨SK.same (by kernel_rfl), ?_⟩
  refine evh0 (rn_field rfl rfl FO34_2) ?_
  refine ⟨SK.same (by kernel_rfl), ?_⟩
  refine evh (fun w' hw => rn_load rfl rfl (run_loadVar1 T3 ((S0.keep (p := 1) hw rfl rfl (by kernel_rfl)).cell (i := 0) (off := 2) rfl rfl))) ?_
  refine ⟨?_, ?_⟩
  ·
   obtain ⟨x_3w, q_3x, q_3v⟩ := bind_some q_3v
   refine ev_call rfl rfl C8 (((rational_Of_ok n) _ _  x_b 1 hp.imm _ q_3x).mono ?_)
   rintro _ w_3y ⟨I_3z, v_40, v_41, hv, hq, r_42, r_43⟩
   replace hv := hv.symm
   subst hv
   have hs := hq.st
   have hp := hp.join0 hq
   replace hz := hz.trans hs
   replace ha := ha.trans hs
   refine nxS hz (hp.kc 0 rfl (hp.kc 2 rfl kp_nil)) ?_
   have hz := Stp.refl I_3z w_3y
   refine ⟨?_, ?_⟩
   ·
    obtain ⟨x_44, q_45, q_3v⟩ := bind_some q_3v
    refine ev_call rfl rfl C8 (((rational_Of_ok n) _ _  (IntKind.i64.wrap (x_l * x_z.Y)) x_z.D hp.imm _ q_45).mono ?_)
    rintro _ w_46 ⟨I_47, v_48, v_49, hv, hq, r_4a, r_4b⟩
    replace hv := hv.symm
    subst hv
    have hs := hq.st
    have hp := hp.join0 hq
    replace hz := hz.trans hs
    replace ha := ha.trans hs
    replace r_42 := r_42.step hs
    replace r_43 := r_43.step hs
    refine nxS hz (hp.kc 0 rfl (hp.kc 2 rfl kp_nil)) ?_
    have hz := Stp.refl I_47 w_46
    refine ⟨?_, ?_⟩
    ·
     obtain ⟨x_4c, q_4d, q_3v⟩ := bind_some q_3v
     refine ev_call rfl rfl C10 (((rational_Add_ok n) _ _  x_3w v_40 r_42 v_41 r_43 x_44 v_48 r_4a v_49 r_4b hp.imm _ q_4d).mono ?_)
     rintro _ w_4e ⟨I_4f, v_4g, v_4h, hv, hq, r_4i, r_4j⟩
     replace hv := hv.symm
     subst hv
     have hs := hq.st
     have hp := hp.join0 hq
     replace hz := hz.trans hs
     replace ha := ha.trans hs
     refine nxS hz (hp.kc 0 rfl (hp.kc 2 rfl kp_nil)) ?_
     have hz := Stp.refl I_4f w_4e
     refine ⟨?_, trivial⟩
     refine ev_alloc hp rfl T31 ?_
     intro g_4k w_4l hp hs
     replace hz := hz.trans hs
     replace ha := ha.trans hs
     replace r_4i := r_4i.step hs
     replace r_4j := r_4j.step hs
     refine nxS hz (hp.kc 1 rfl (hp.kc 3 rfl kp_nil)) ?_
     have hz := Stp.refl I_4f w_4l
     refine ⟨?_, trivial⟩
     refine ev_storeA hp (i := 0) (off := 0) (vs := [(.bool x_4c.Num.Neg), v_4g, (.bool x_4c.Den.Neg), v_4h]) rfl rfl rfl rfl T31 rfl (lbe rfl) (on2 r_4i.one (on2 r_4j.one ones_nil)) ?_
     intro w_4m hp hs
     replace hz := hz.trans hs
     replace ha := ha.trans hs
     replace r_4i := r_4i.step hs
     replace r_4j := r_4j.step hs
     refine nxS hz (hp.kc 1 rfl (hp.kc 3 rfl kp_nil)) ?_
     have hz := Stp.refl I_4f w_4m
     obtain rfl := Option.some.inj q_3v
     have hp := hp.perm [1, 2, 3, 4, 0] (by decide)
     replace r_u := r_u.step ha
     replace r_v := r_v.step ha
     replace r_3s := r_3s.step ha
     replace r_3t := r_3t.step ha
     replace tb := tb.step ha
     exact ⟨(x_4c.Num.Neg, x_4c.Num.Mag, x_4c.Den.Neg, x_4c.Den.Mag, g_4k, v_4g, v_4h, I_4f), (.c rfl (.c rfl (.c rfl (.c rfl (.c rfl (.c rfl (.c rfl .n))))))), rfl, hp, r_u, r_v, r_3s, r_3t, r_4i, r_4j, tb⟩
    refine ⟨?_, trivial⟩
    refine ev_alloc hp rfl T31 ?_
    intro g_4n w_4o hp hs
    replace hz := hz.trans hs
    replace ha := ha.trans hs
    replace r_42 := r_42.step hs
    replace r_43 := r_43.step hs
    replace r_4a := r_4a.step hs
    replace r_4b := r_4b.step hs
    refine nxS hz (hp.kc 1 rfl (hp.kc 3 rfl kp_nil)) ?_
    have hz := Stp.refl I_47 w_4o
    refine ⟨?_, trivial⟩
    obtain ⟨x_4p, q_4q, q_3v⟩ := bind_some q_3v
    refine ev_call rfl rfl C10 (((rational_Add_ok n) _ _  x_3w v_40 r_42 v_41 r_43 x_44 v_48 r_4a v_49 r_4b hp.imm _ q_4q).mono ?_)
    rintro _ w_4r ⟨I_4s, v_4t, v_4u, hv, hq, r_4v, r_4w⟩
    replace hv := hv.symm
    subst hv
    have hs := hq.st
    have hp := hp.join0 hq
    replace hz := hz.trans hs
    replace ha := ha.trans hs
    refine nxS hz (hp.kc 1 rfl (hp.kc 3 rfl kp_nil)) ?_
    have hz := Stp.refl I_4s w_4r
    refine ⟨?_, trivial⟩
    refine ev_storeA hp (i := 0) (off := 0) (vs := [(.bool x_4p.Num.Neg), v_4t, (.bool x_4p.Den.Neg), v_4u]) rfl rfl rfl rfl T31 rfl (lbe rfl) (on2 r_4v.one (on2 r_4w.one ones_nil)) ?_
    intro w_4x hp hs
    replace hz := hz.trans hs
    replace ha := ha.trans hs
    replace r_4v := r_4v.step hs
    replace r_4w := r_4w.step hs
    refine nxS hz (hp.kc 1 rfl (hp.kc 3 rfl kp_nil)) ?_
    have hz := Stp.refl I_4s w_4x
    obtain rfl := Option.some.inj q_3v
    have hp := hp.perm [1, 2, 3, 4, 0] (by decide)
    replace r_u := r_u.step ha
    replace r_v := r_v.step ha
    replace r_3s := r_3s.step ha
    replace r_3t := r_3t.step ha
    replace tb := tb.step ha
    exact ⟨(x_4p.Num.Neg, x_4p.Num.Mag, x_4p.Den.Neg, x_4p.Den.Mag, g_4n, v_4t, v_4u, I_4s), (.c rfl (.c rfl (.c rfl (.c rfl (.c rfl (.c rfl (.c rfl .n))))))), rfl, hp, r_u, r_v, r_3s, r_3t, r_4v, r_4w, tb⟩
   refine ⟨?_, trivial⟩
   refine ev_alloc hp rfl T31 ?_
   intro g_4y w_4z hp hs
   replace hz := hz.trans hs
   replace ha := ha.trans hs
   replace r_42 := r_42.step hs
   replace r_43 := r_43.step hs
   refine nxS hz (hp.kc 1 rfl (hp.kc 3 rfl kp_nil)) ?_
   have hz := Stp.refl I_3z w_4z
   refine ⟨?_, trivial⟩
   obtain ⟨x_50, q_51, q_3v⟩ := bind_some q_3v
   refine ev_call rfl rfl C8 (((rational_Of_ok n) _ _  (IntKind.i64.wrap (x_l * x_z.Y)) x_z.D hp.imm _ q_51).mono ?_)
   rintro _ w_52 ⟨I_53, v_54, v_55, hv, hq, r_56, r_57⟩
   replace hv := hv.symm
   subst hv
   have hs := hq.st
   have hp := hp.join0 hq
   replace hz := hz.trans hs
   replace ha := ha.trans hs
   replace r_42 := r_42.step hs
   replace r_43 := r_43.step hs
   refine nxS hz (hp.kc 1 rfl (hp.kc 3 rfl kp_nil)) ?_
   have hz := Stp.refl I_53 w_52
   refine ⟨?_, trivial⟩
   obtain ⟨x_58, q_59, q_3v⟩ := bind_some q_3v
   refine ev_call rfl rfl C10 (((rational_Add_ok n) _ _  x_3w v_40 r_42 v_41 r_43 x_50 v_54 r_56 v_55 r_57 hp.imm _ q_59).mono ?_)
   rintro _ w_5a ⟨I_5b, v_5c, v_5d, hv, hq, r_5e, r_5f⟩
   replace hv := hv.symm
   subst hv
   have hs := hq.st
   have hp := hp.join0 hq
   replace hz := hz.trans hs
   replace ha := ha.trans hs
   refine nxS hz (hp.kc 1 rfl (hp.kc 3 rfl kp_nil)) ?_
   have hz := Stp.refl I_5b w_5a
   refine ⟨?_, trivial⟩
   refine ev_storeA hp (i := 0) (off := 0) (vs := [(.bool x_58.Num.Neg), v_5c, (.bool x_58.Den.Neg), v_5d]) rfl rfl rfl rfl T31 rfl (lbe rfl) (on2 r_5e.one (on2 r_5f.one ones_nil)) ?_
   intro w_5g hp hs
   replace hz := hz.trans hs
   replace ha := ha.trans hs
   replace r_5e := r_5e.step hs
   replace r_5f := r_5f.step hs
   refine nxS hz (hp.kc 1 rfl (hp.kc 3 rfl kp_nil)) ?_
   have hz := Stp.refl I_5b w_5g
   obtain rfl := Option.some.inj q_3v
   have hp := hp.perm [1, 2, 3, 4, 0] (by decide)
   replace r_u := r_u.step ha
   replace r_v := r_v.step ha
   replace r_3s := r_3s.step ha
   replace r_3t := r_3t.step ha
   replace tb := tb.step ha
   exact ⟨(x_58.Num.Neg, x_58.Num.Mag, x_58.Den.Neg, x_58.Den.Mag, g_4y, v_5c, v_5d, I_5b), (.c rfl (.c rfl (.c rfl (.c rfl (.c rfl (.c rfl (.c rfl .n))))))), rfl, hp, r_u, r_v, r_3s, r_3t, r_5e, r_5f, tb⟩
  refine ⟨?_, trivial⟩
  refine ev_alloc hp rfl T31 ?_
  intro g_5h w_5i hp hs
  replace hz := hz.trans hs
  replace ha := ha.trans hs
  refine nxS hz (hp.kc 1 rfl (hp.kc 3 rfl kp_nil)) ?_
  have hz := Stp.refl I_3q w_5i
  refine ⟨?_, trivial⟩
  obtain ⟨x_5j, q_5k, q_3v⟩ := bind_some q_3v
  refine ev_call rfl rfl C8 (((rational_Of_ok n) _ _  x_b 1 hp.imm _ q_5k).mono ?_)
  rintro _ w_5l ⟨I_5m, v_5n, v_5o, hv, hq, r_5p, r_5q⟩
  replace hv := hv.symm
  subst hv
  have hs := hq.st
  have hp := hp.join0 hq
  replace hz := hz.trans hs
  replace ha := ha.trans hs
  refine nxS hz (hp.kc 1 rfl (hp.kc 3 rfl kp_nil)) ?_
  have hz := Stp.refl I_5m w_5l
  refine ⟨?_, trivial⟩
  obtain ⟨x_5r, q_5s, q_3v⟩ := bind_some q_3v
  refine ev_call rfl rfl C8 (((rational_Of_ok n) _ _  (IntKind.i64.wrap (x_l * x_z.Y)) x_z.D hp.imm _ q_5s).mono ?_)
  rintro _ w_5t ⟨I_5u, v_5v, v_5w, hv, hq, r_5x, r_5y⟩
  replace hv := hv.symm
  subst hv
  have hs := hq.st
  have hp := hp.join0 hq
  replace hz := hz.trans hs
  replace ha := ha.trans hs
  replace r_5p := r_5p.step hs
  replace r_5q := r_5q.step hs
  refine nxS hz (hp.kc 1 rfl (hp.kc 3 rfl kp_nil)) ?_
  have hz := Stp.refl I_5u w_5t
  refine ⟨?_, trivial⟩
  obtain ⟨x_5z, q_60, q_3v⟩ := bind_some q_3v
  refine ev_call rfl rfl C10 (((rational_Add_ok n) _ _  x_5j v_5n r_5p v_5o r_5q x_5r v_5v r_5x v_5w r_5y hp.imm _ q_60).mono ?_)
  rintro _ w_61 ⟨I_62, v_63, v_64, hv, hq, r_65, r_66⟩
  replace hv := hv.symm
  subst hv
  have hs := hq.st
  have hp := hp.join0 hq
  replace hz := hz.trans hs
  replace ha := ha.trans hs
  refine nxS hz (hp.kc 1 rfl (hp.kc 3 rfl kp_nil)) ?_
  have hz := Stp.refl I_62 w_61
  refine ⟨?_, trivial⟩
  refine ev_storeA hp (i := 0) (off := 0) (vs := [(.bool x_5z.Num.Neg), v_63, (.bool x_5z.Den.Neg), v_64]) rfl rfl rfl rfl T31 rfl (lbe rfl) (on2 r_65.one (on2 r_66.one ones_nil)) ?_
  intro w_67 hp hs
  replace hz := hz.trans hs
  replace ha := ha.trans hs
  replace r_65 := r_65.step hs
  replace r_66 := r_66.step hs
  refine nxS hz (hp.kc 1 rfl (hp.kc 3 rfl kp_nil)) ?_
  have hz := Stp.refl I_62 w_67
  obtain rfl := Option.some.inj q_3v
  have hp := hp.perm [1, 2, 3, 4, 0] (by decide)
  replace r_u := r_u.step ha
  replace r_v := r_v.step ha
  replace r_3s := r_3s.step ha
  replace r_3t := r_3t.step ha
  replace tb := tb.step ha
  exact ⟨(x_5z.Num.Neg, x_5z.Num.Mag, x_5z.Den.Neg, x_5z.Den.Mag, g_5h, v_63, v_64, I_62), (.c rfl (.c rfl (.c rfl (.c rfl (.c rfl (.c rfl (.c rfl .n))))))), rfl, hp, r_u, r_v, r_3s, r_3t, r_65, r_66, tb⟩
 rintro ⟨x_68, x_69, x_6a, x_6b, g_6c, v_6d, v_6e, I_6f⟩ w_6g ⟨hy, hp, r_u, r_v, r_3s, r_3t, r_6h, r_6i, tb⟩
 replace hy := hy.symm
 subst hy
 obtain ⟨y_6j, q_6k, h⟩ := bind_some h
 refine W.cut (γ := (Bool × (List Int) × Bool × (List Int) × Bool × (List Int) × Bool × (List Int) × Bool × (List Int) × Bool × (List Int) × Nat × Value × Value × Value × Value × Value × Value × (Nat → Prop))) (fun g => [(1, (.int .i64 x_i)), (2, (.int .i64 x_l)), (7, (.pointer (some ⟨g_w, 0, none⟩))), (8, (.pointer (some ⟨g_12, 0, none⟩))), (9, (.pointer (some ⟨g_3n, 0, none⟩))), (10, (.pointer (some ⟨g_6c, 0, none⟩))), (11, (.pointer (some ⟨(g.2.2.2.2.2.2.2.2.2.2.2.2.1), 0, none⟩)))]) (fun g w' => y_6j = ((g.1), (g.2.1), (g.2.2.1), (g.2.2.2.1), (g.2.2.2.2.1), (g.2.2.2.2.2.1), (g.2.2.2.2.2.2.1), (g.2.2.2.2.2.2.2.1), (g.2.2.2.2.2.2.2.2.1), (g.2.2.2.2.2.2.2.2.2.1), (g.2.2.2.2.2.2.2.2.2.2.1), (g.2.2.2.2.2.2.2.2.2.2.2.1)) ∧ Hp ⟨w0, I0, []⟩ (g.2.2.2.2.2.2.2.2.2.2.2.2.2.2.2.2.2.2.2) [some (g_w, [(.bool x_o.Num.Neg), v_s, (.bool x_o.Den.Neg), v_t], 31), some (g_12, [(.int .i64 x_z.X), (.int .i64 x_z.Y), (.int .i64 x_z.D)], 34), some (g_3n, [(.bool x_3j), v_3o, (.bool x_3l), v_3p], 31), some (g_6c, [(.bool x_68), v_6d, (.bool x_6a), v_6e], 31), some ((g.2.2.2.2.2.2.2.2.2.2.2.2.1), [(.bool (g.1)), (g.2.2.2.2.2.2.2.2.2.2.2.2.2.1), (.bool (g.2.2.1)), (g.2.2.2.2.2.2.2.2.2.2.2.2.2.2.1), (.bool (g.2.2.2.2.1)), (g.2.2.2.2.2.2.2.2.2.2.2.2.2.2.2.1), (.bool (g.2.2.2.2.2.2.1)), (g.2.2.2.2.2.2.2.2.2.2.2.2.2.2.2.2.1), (.bool (g.2.2.2.2.2.2.2.2.1)), (g.2.2.2.2.2.2.2.2.2.2.2.2.2.2.2.2.2.1), (.bool (g.2.2.2.2.2.2.2.2.2.2.1)), (g.2.2.2.2.2.2.2.2.2.2.2.2.2.2.2.2.2.2.1)], 41)] w' ∧ RepS (dI .u32) w' (g.2.2.2.2.2.2.2.2.2.2.2.2.2.2.2.2.2.2.2) v_s x_o.Num.Mag ∧ RepS (dI .u32) w' (g.2.2.2.2.2.2.2.2.2.2.2.2.2.2.2.2.2.2.2) v_t x_o.Den.Mag ∧ RepS (dI .u32) w' (g.2.2.2.2.2.2.2.2.2.2.2.2.2.2.2.2.2.2.2) v_3o x_3k ∧ RepS (dI .u32) w' (g.2.2.2.2.2.2.2.2.2.2.2.2.2.2.2.2.2.2.2) v_3p x_3m ∧ RepS (dI .u32) w' (g.2.2.2.2.2.2.2.2.2.2.2.2.2.2.2.2.2.2.2) v_6d x_69 ∧ RepS (dI .u32) w' (g.2.2.2.2.2.2.2.2.2.2.2.2.2.2.2.2.2.2.2) v_6e x_6b ∧ RepS (dI .u32) w' (g.2.2.2.2.2.2.2.2.2.2.2.2.2.2.2.2.2.2.2) (g.2.2.2.2.2.2.2.2.2.2.2.2.2.1) (g.2.1) ∧ RepS (dI .u32) w' (g.2.2.2.2.2.2.2.2.2.2.2.2.2.2.2.2.2.2.2) (g.2.2.2.2.2.2.2.2.2.2.2.2.2.2.1) (g.2.2.2.1) ∧ RepS (dI .u32) w' (g.2.2.2.2.2.2.2.2.2.2.2.2.2.2.2.2.2.2.2) (g.2.2.2.2.2.2.2.2.2.2.2.2.2.2.2.1) (g.2.2.2.2.2.1) ∧ RepS (dI .u32) w' (g.2.2.2.2.2.2.2.2.2.2.2.2.2.2.2.2.2.2.2) (g.2.2.2.2.2.2.2.2.2.2.2.2.2.2.2.2.1) (g.2.2.2.2.2.2.2.1) ∧ RepS (dI .u32) w' (g.2.2.2.2.2.2.2.2.2.2.2.2.2.2.2.2.2.2.2) (g.2.2.2.2.2.2.2.2.2.2.2.2.2.2.2.2.2.1) (g.2.2.2.2.2.2.2.2.2.1) ∧ RepS (dI .u32) w' (g.2.2.2.2.2.2.2.2.2.2.2.2.2.2.2.2.2.2.2) (g.2.2.2.2.2.2.2.2.2.2.2.2.2.2.2.2.2.2.1) (g.2.2.2.2.2.2.2.2.2.2.2.1) ∧ Tb w' (g.2.2.2.2.2.2.2.2.2.2.2.2.2.2.2.2.2.2.2) 2 .u64 pow10) ?_ ?_
 ·
  have hs := hp.stp (Ch.drew [] w_6g)
  have hp := hp.drew
  replace ha := hs
  refine W.heldG (.q 0 (.q 1 (.q 3 (.q 4 (.q 6 (.q 7 (.l 2 (.l 5 (.l 8 (.q 9 (.l 10 (.l 11 .done .no) .no)) (.l 10 (.l 8 (.q 9 (.l 11 .done .no)) .no) .no)) (.l 10 (.l 5 (.l 8 (.q 9 (.l 11 .done .no)) .no) .no) .no)) (.l 10 (.l 2 (.l 5 (.l 8 (.q 9 (.l 11 .done .no)) .no) .no) .no) .no)))))))) (SK (Stp I_6f w_6g.drew I_6f) [(g_3, [(.int .i64 x_8), (.int .i64 x_b), (.int .i64 x_e)], 23)] [[]]) MX (by kernel_rfl) ⟨Stp.refl _ _, (kp_cons (fun _ => (hp.own 0 _ _ _ rfl).1) kp_nil)⟩ ?_
  have hz := Stp.refl I_6f w_6g.drew
  refine ⟨SK.same (by kernel_rfl), ?_⟩
  refine evh0 (rn_field rfl rfl FO23_2) ?_
  refine ⟨SK.same (by kernel_rfl), ?_⟩
  refine evh (fun w' hw => rn_load rfl rfl (run_loadVar1 T3 ((S0.keep (p := 0) hw rfl rfl (by kernel_rfl)).cell (i := 0) (off := 2) rfl rfl))) ?_
  refine ⟨SK.same (by kernel_rfl), ?_⟩
  refine evh0 (rn_field rfl rfl FO23_0) ?_
  refine ⟨SK.same (by kernel_rfl), ?_⟩
  refine evh (fun w' hw => rn_load rfl rfl (run_loadVar1 T3 ((S0.keep (p := 0) hw rfl rfl (by kernel_rfl)).cell (i := 0) (off := 0) rfl rfl))) ?_
  refine ⟨SK.same (by kernel_rfl), ?_⟩
  refine evh0 (rn_field rfl rfl FO23_1) ?_
  refine ⟨SK.same (by kernel_rfl), ?_⟩
  refine evh (fun w' hw => rn_load rfl rfl (run_loadVar1 T3 ((S0.keep (p := 0) hw rfl rfl (by kernel_rfl)).cell (i := 0) (off := 1) rfl rfl))) ?_
  refine ⟨?_, ?_⟩
  ·
   obtain ⟨x_6l, q_6m, q_6k⟩ := bind_some q_6k
   refine ev_call rfl rfl C11 (((rotation_Mark_ok n) _ _  x_e hp.imm _ q_6m).mono ?_)
   rintro _ w_6n ⟨I_6o, v_6p, v_6q, hv, hq, r_6r, r_6s⟩
   replace hv := hv.symm
   subst hv
   have hs := hq.st
   have hp := hp.join0 hq
   replace hz := hz.trans hs
   replace ha := ha.trans hs
   refine nxS hz (hp.kc 0 rfl kp_nil) ?_
   have hz := Stp.refl I_6o w_6n
   refine ⟨?_, ?_⟩
   ·
    obtain ⟨x_6t, q_6u, q_6k⟩ := bind_some q_6k
    refine ev_call rfl rfl C8 (((rational_Of_ok n) _ _  x_8 1 hp.imm _ q_6u).mono ?_)
    rintro _ w_6v ⟨I_6w, v_6x, v_6y, hv, hq, r_6z, r_70⟩
    replace hv := hv.symm
    subst hv
    have hs := hq.st
    have hp := hp.join0 hq
    replace hz := hz.trans hs
    replace ha := ha.trans hs
    replace r_6r := r_6r.step hs
    replace r_6s := r_6s.step hs
    refine nxS hz (hp.kc 0 rfl kp_nil) ?_
    have hz := Stp.refl I_6w w_6v
    refine ⟨?_, ?_⟩
    ·
     obtain ⟨x_71, q_72, q_6k⟩ := bind_some q_6k
     refine ev_call rfl rfl C8 (((rational_Of_ok n) _ _  x_b 1 hp.imm _ q_72).mono ?_)
     rintro _ w_73 ⟨I_74, v_75, v_76, hv, hq, r_77, r_78⟩
     replace hv := hv.symm
     subst hv
     have hs := hq.st
     have hp := hp.join0 hq
     replace hz := hz.trans hs
     replace ha := ha.trans hs
     replace r_6r := r_6r.step hs
     replace r_6s := r_6s.step hs
     replace r_6z := r_6z.step hs
     replace r_70 := r_70.step hs
     refine nxS hz (hp.kc 0 rfl kp_nil) ?_
     have hz := Stp.refl I_74 w_73
     refine ⟨SK.same (by kernel_rfl), ?_⟩
     obtain ⟨A_79, m_7a, m_7b, rfl⟩ := r_6r.isSl
     obtain ⟨A_7c, m_7d, m_7e, rfl⟩ := r_6s.isSl
     obtain ⟨A_7f, m_7g, m_7h, rfl⟩ := r_6z.isSl
     obtain ⟨A_7i, m_7j, m_7k, rfl⟩ := r_70.isSl
     obtain ⟨A_7l, m_7m, m_7n, rfl⟩ := r_77.isSl
     obtain ⟨A_7o, m_7p, m_7q, rfl⟩ := r_78.isSl
     refine evh0 (fun w => rn_build (cs := [(.bool x_6l.P.Neg), (.slice A_79 m_7a m_7b), (.bool x_6l.Q.Neg), (.slice A_7c m_7d m_7e), (.bool x_6t.Num.Neg), (.slice A_7f m_7g m_7h), (.bool x_6t.Den.Neg), (.slice A_7i m_7j m_7k), (.bool x_71.Num.Neg), (.slice A_7l m_7m m_7n), (.bool x_71.Den.Neg), (.slice A_7o m_7p m_7q)]) rfl rfl T41 PL41 (by kernel_rfl)) ?_
     refine ⟨?_, trivial⟩
     refine ev_alloc hp rfl T41 ?_
     intro g_7r w_7s hp hs
     replace hz := hz.trans hs
     replace ha := ha.trans hs
     replace r_6r := r_6r.step hs
     replace r_6s := r_6s.step hs
     replace r_6z := r_6z.step hs
     replace r_70 := r_70.step hs
     replace r_77 := r_77.step hs
     replace r_78 := r_78.step hs
     refine nxS hz (hp.kc 1 rfl kp_nil) ?_
     have hz := Stp.refl I_74 w_7s
     refine ⟨?_, trivial⟩
     refine ev_storeA hp (i := 0) (off := 0) (vs := [(.bool x_6l.P.Neg), (.slice A_79 m_7a m_7b), (.bool x_6l.Q.Neg), (.slice A_7c m_7d m_7e), (.bool x_6t.Num.Neg), (.slice A_7f m_7g m_7h), (.bool x_6t.Den.Neg), (.slice A_7i m_7j m_7k), (.bool x_71.Num.Neg), (.slice A_7l m_7m m_7n), (.bool x_71.Den.Neg), (.slice A_7o m_7p m_7q)]) rfl rfl rfl rfl T41 rfl (lbe rfl) (on2 r_6r.one (on2 r_6s.one (on2 r_6z.one (on2 r_70.one (on2 r_77.one (on2 r_78.one ones_nil)))))) ?_
     intro w_7t hp hs
     replace hz := hz.trans hs
     replace ha := ha.trans hs
     replace r_6r := r_6r.step hs
     replace r_6s := r_6s.step hs
     replace r_6z := r_6z.step hs
     replace r_70 := r_70.step hs
     replace r_77 := r_77.step hs
     replace r_78 := r_78.step hs
     refine nxS hz (hp.kc 1 rfl kp_nil) ?_
     have hz := Stp.refl I_74 w_7t
     obtain rfl := Option.some.inj q_6k
     have hp := hp.perm [2, 3, 4, 5, 0] (by decide)
     replace r_u := r_u.step ha
     replace r_v := r_v.step ha
     replace r_3s := r_3s.step ha
     replace r_3t := r_3t.step ha
     replace r_6h := r_6h.step ha
     replace r_6i := r_6i.step ha
     replace tb := tb.step ha
     exact ⟨(x_6l.P.Neg, x_6l.P.Mag, x_6l.Q.Neg, x_6l.Q.Mag, x_6t.Num.Neg, x_6t.Num.Mag, x_6t.Den.Neg, x_6t.Den.Mag, x_71.Num.Neg, x_71.Num.Mag, x_71.Den.Neg, x_71.Den.Mag, g_7r, (.slice A_79 m_7a m_7b), (.slice A_7c m_7d m_7e), (.slice A_7f m_7g m_7h), (.slice A_7i m_7j m_7k), (.slice A_7l m_7m m_7n), (.slice A_7o m_7p m_7q), I_74), (.c rfl (.c rfl (.c rfl (.c rfl (.c rfl (.c rfl (.c rfl .n))))))), rfl, hp, r_u, r_v, r_3s, r_3t, r_6h, r_6i, r_6r, r_6s, r_6z, r_70, r_77, r_78, tb⟩
    refine ⟨?_, trivial⟩
    refine ev_alloc hp rfl T41 ?_
    intro g_7u w_7v hp hs
    replace hz := hz.trans hs
    replace ha := ha.trans hs
    replace r_6r := r_6r.step hs
    replace r_6s := r_6s.step hs
    replace r_6z := r_6z.step hs
    replace r_70 := r_70.step hs
    refine nxS hz (hp.kc 1 rfl kp_nil) ?_
    have hz := Stp.refl I_6w w_7v
    refine ⟨?_, trivial⟩
    obtain ⟨x_7w, q_7x, q_6k⟩ := bind_some q_6k
    refine ev_call rfl rfl C8 (((rational_Of_ok n) _ _  x_b 1 hp.imm _ q_7x).mono ?_)
    rintro _ w_7y ⟨I_7z, v_80, v_81, hv, hq, r_82, r_83⟩
    replace hv := hv.symm
    subst hv
    have hs := hq.st
    have hp := hp.join0 hq
    replace hz := hz.trans hs
    replace ha := ha.trans hs
    replace r_6r := r_6r.step hs
    replace r_6s := r_6s.step hs
    replace r_6z := r_6z.step hs
    replace r_70 := r_70.step hs
    refine nxS hz (hp.kc 1 rfl kp_nil) ?_
    have hz := Stp.refl I_7z w_7y
    refine ⟨SK.same (by kernel_rfl), ?_⟩
    obtain ⟨A_84, m_85, m_86, rfl⟩ := r_6r.isSl
    obtain ⟨A_87, m_88, m_89, rfl⟩ := r_6s.isSl
    obtain ⟨A_8a, m_8b, m_8c, rfl⟩ := r_6z.isSl
    obtain ⟨A_8d, m_8e, m_8f, rfl⟩ := r_70.isSl
    obtain ⟨A_8g, m_8h, m_8i, rfl⟩ := r_82.isSl
    obtain ⟨A_8j, m_8k, m_8l, rfl⟩ := r_83.isSl
    refine evh0 (fun w => rn_build (cs := [(.bool x_6l.P.Neg), (.slice A_84 m_85 m_86), (.bool x_6l.Q.Neg), (.slice A_87 m_88 m_89), (.bool x_6t.Num.Neg), (.slice A_8a m_8b m_8c), (.bool x_6t.Den.Neg), (.slice A_8d m_8e m_8f), (.bool x_7w.Num.Neg), (.slice A_8g m_8h m_8i), (.bool x_7w.Den.Neg), (.slice A_8j m_8k m_8l)]) rfl rfl T41 PL41 (by kernel_rfl)) ?_
    refine ⟨?_, trivial⟩
    refine ev_storeA hp (i := 0) (off := 0) (vs := [(.bool x_6l.P.Neg), (.slice A_84 m_85 m_86), (.bool x_6l.Q.Neg), (.slice A_87 m_88 m_89), (.bool x_6t.Num.Neg), (.slice A_8a m_8b m_8c), (.bool x_6t.Den.Neg), (.slice A_8d m_8e m_8f), (.bool x_7w.Num.Neg), (.slice A_8g m_8h m_8i), (.bool x_7w.Den.Neg), (.slice A_8j m_8k m_8l)]) rfl rfl rfl rfl T41 rfl (lbe rfl) (on2 r_6r.one (on2 r_6s.one (on2 r_6z.one (on2 r_70.one (on2 r_82.one (on2 r_83.one ones_nil)))))) ?_
    intro w_8m hp hs
    replace hz := hz.trans hs
    replace ha := ha.trans hs
    replace r_6r := r_6r.step hs
    replace r_6s := r_6s.step hs
    replace r_6z := r_6z.step hs
    replace r_70 := r_70.step hs
    replace r_82 := r_82.step hs
    replace r_83 := r_83.step hs
    refine nxS hz (hp.kc 1 rfl kp_nil) ?_
    have hz := Stp.refl I_7z w_8m
    obtain rfl := Option.some.inj q_6k
    have hp := hp.perm [2, 3, 4, 5, 0] (by decide)
    replace r_u := r_u.step ha
    replace r_v := r_v.step ha
    replace r_3s := r_3s.step ha
    replace r_3t := r_3t.step ha
    replace r_6h := r_6h.step ha
    replace r_6i := r_6i.step ha
    replace tb := tb.step ha
    exact ⟨(x_6l.P.Neg, x_6l.P.Mag, x_6l.Q.Neg, x_6l.Q.Mag, x_6t.Num.Neg, x_6t.Num.Mag, x_6t.Den.Neg, x_6t.Den.Mag, x_7w.Num.Neg, x_7w.Num.Mag, x_7w.Den.Neg, x_7w.Den.Mag, g_7u, (.slice A_84 m_85 m_86), (.slice A_87 m_88 m_89), (.slice A_8a m_8b m_8c), (.slice A_8d m_8e m_8f), (.slice A_8g m_8h m_8i), (.slice A_8j m_8k m_8l), I_7z), (.c rfl (.c rfl (.c rfl (.c rfl (.c rfl (.c rfl (.c rfl .n))))))), rfl, hp, r_u, r_v, r_3s, r_3t, r_6h, r_6i, r_6r, r_6s, r_6z, r_70, r_82, r_83, tb⟩
   refine ⟨?_, trivial⟩
   refine ev_alloc hp rfl T41 ?_
   intro g_8n w_8o hp hs
   replace hz := hz.trans hs
   replace ha := ha.trans hs
   replace r_6r := r_6r.step hs
   replace r_6s := r_6s.step hs
   refine nxS hz (hp.kc 1 rfl kp_nil) ?_
   have hz := Stp.refl I_6o w_8o
   refine ⟨?_, trivial⟩
   obtain ⟨x_8p, q_8q, q_6k⟩ := bind_some q_6k
   refine ev_call rfl rfl C8 (((rational_Of_ok n) _ _  x_8 1 hp.imm _ q_8q).mono ?_)
   rintro _ w_8r ⟨I_8s, v_8t, v_8u, hv, hq, r_8v, r_8w⟩
   replace hv := hv.symm
   subst hv
   have hs := hq.st
   have hp := hp.join0 hq
   replace hz := hz.trans hs
   replace ha := ha.trans hs
   replace r_6r := r_6r.step hs
   replace r_6s := r_6s.step hs
   refine nxS hz (hp.kc 1 rfl kp_nil) ?_
   have hz := Stp.refl I_8s w_8r
   refine ⟨?_, trivial⟩
   obtain ⟨x_8x, q_8y, q_6k⟩ := bind_some q_6k
   refine ev_call rfl rfl C8 (((rational_Of_ok n) _ _  x_b 1 hp.imm _ q_8y).mono ?_)
   rintro _ w_8z ⟨I_90, v_91, v_92, hv, hq, r_93, r_94⟩
   replace hv := hv.symm
   subst hv
   have hs := hq.st
   have hp := hp.join0 hq
   replace hz := hz.trans hs
   replace ha := ha.trans hs
   replace r_6r := r_6r.step hs
   replace r_6s := r_6s.step hs
   replace r_8v := r_8v.step hs
   replace r_8w := r_8w.step hs
   refine nxS hz (hp.kc 1 rfl kp_nil) ?_
   have hz := Stp.refl I_90 w_8z
   refine ⟨SK.same (by kernel_rfl), ?_⟩
   obtain ⟨A_95, m_96, m_97, rfl⟩ := r_6r.isSl
   obtain ⟨A_98, m_99, m_9a, rfl⟩ := r_6s.isSl
   obtain ⟨A_9b, m_9c, m_9d, rfl⟩ := r_8v.isSl
   obtain ⟨A_9e, m_9f, m_9g, rfl⟩ := r_8w.isSl
   obtain ⟨A_9h, m_9i, m_9j, rfl⟩ := r_93.isSl
   obtain ⟨A_9k, m_9l, m_9m, rfl⟩ := r_94.isSl
   refine evh0 (fun w => rn_build (cs := [(.bool x_6l.P.Neg), (.slice A_95 m_96 m_97), (.bool x_6l.Q.Neg), (.slice A_98 m_99 m_9a), (.bool x_8p.Num.Neg), (.slice A_9b m_9c m_9d), (.bool x_8p.Den.Neg), (.slice A_9e m_9f m_9g), (.bool x_8x.Num.Neg), (.slice A_9h m_9i m_9j), (.bool x_8x.Den.Neg), (.slice A_9k m_9l m_9m)]) rfl rfl T41 PL41 (by kernel_rfl)) ?_
   refine ⟨?_, trivial⟩
   refine ev_storeA hp (i := 0) (off := 0) (vs := [(.bool x_6l.P.Neg), (.slice A_95 m_96 m_97), (.bool x_6l.Q.Neg), (.slice A_98 m_99 m_9a), (.bool x_8p.Num.Neg), (.slice A_9b m_9c m_9d), (.bool x_8p.Den.Neg), (.slice A_9e m_9f m_9g), (.bool x_8x.Num.Neg), (.slice A_9h m_9i m_9j), (.bool x_8x.Den.Neg), (.slice A_9k m_9l m_9m)]) rfl rfl rfl rfl T41 rfl (lbe rfl) (on2 r_6r.one (on2 r_6s.one (on2 r_8v.one (on2 r_8w.one (on2 r_93.one (on2 r_94.one ones_nil)))))) ?_
   intro w_9n hp hs
   replace hz := hz.trans hs
   replace ha := ha.trans hs
   replace r_6r := r_6r.step hs
   replace r_6s := r_6s.step hs
   replace r_8v := r_8v.step hs
   replace r_8w := r_8w.step hs
   replace r_93 := r_93.step hs
   replace r_94 := r_94.step hs
   refine nxS hz (hp.kc 1 rfl kp_nil) ?_
   have hz := Stp.refl I_90 w_9n
   obtain rfl := Option.some.inj q_6k
   have hp := hp.perm [2, 3, 4, 5, 0] (by decide)
   replace r_u := r_u.step ha
   replace r_v := r_v.step ha
   replace r_3s := r_3s.step ha
   replace r_3t := r_3t.step ha
   replace r_6h := r_6h.step ha
   replace r_6i := r_6i.step ha
   replace tb := tb.step ha
   exact ⟨(x_6l.P.Neg, x_6l.P.Mag, x_6l.Q.Neg, x_6l.Q.Mag, x_8p.Num.Neg, x_8p.Num.Mag, x_8p.Den.Neg, x_8p.Den.Mag, x_8x.Num.Neg, x_8x.Num.Mag, x_8x.Den.Neg, x_8x.Den.Mag, g_8n, (.slice A_95 m_96 m_97), (.slice A_98 m_99 m_9a), (.slice A_9b m_9c m_9d), (.slice A_9e m_9f m_9g), (.slice A_9h m_9i m_9j), (.slice A_9k m_9l m_9m), I_90), (.c rfl (.c rfl (.c rfl (.c rfl (.c rfl (.c rfl (.c rfl .n))))))), rfl, hp, r_u, r_v, r_3s, r_3t, r_6h, r_6i, r_6r, r_6s, r_8v, r_8w, r_93, r_94, tb⟩
  refine ⟨?_, trivial⟩
  refine ev_alloc hp rfl T41 ?_
  intro g_9o w_9p hp hs
  replace hz := hz.trans hs
  replace ha := ha.trans hs
  refine nxS hz (hp.kc 1 rfl kp_nil) ?_
  have hz := Stp.refl I_6f w_9p
  refine ⟨?_, trivial⟩
  obtain ⟨x_9q, q_9r, q_6k⟩ := bind_some q_6k
  refine ev_call rfl rfl C11 (((rotation_Mark_ok n) _ _  x_e hp.imm _ q_9r).mono ?_)
  rintro _ w_9s ⟨I_9t, v_9u, v_9v, hv, hq, r_9w, r_9x⟩
  replace hv := hv.symm
  subst hv
  have hs := hq.st
  have hp := hp.join0 hq
  replace hz := hz.trans hs
  replace ha := ha.trans hs
  refine nxS hz (hp.kc 1 rfl kp_nil) ?_
  have hz := Stp.refl I_9t w_9s
  refine ⟨?_, trivial⟩
  obtain ⟨x_9y, q_9z, q_6k⟩ := bind_some q_6k
  refine ev_call rfl rfl C8 (((rational_Of_ok n) _ _  x_8 1 hp.imm _ q_9z).mono ?_)
  rintro _ w_a0 ⟨I_a1, v_a2, v_a3, hv, hq, r_a4, r_a5⟩
  replace hv := hv.symm
  subst hv
  have hs := hq.st
  have hp := hp.join0 hq
  replace hz := hz.trans hs
  replace ha := ha.trans hs
  replace r_9w := r_9w.step hs
  replace r_9x := r_9x.step hs
  refine nxS hz (hp.kc 1 rfl kp_nil) ?_
  have hz := Stp.refl I_a1 w_a0
  refine ⟨?_, trivial⟩
  obtain ⟨x_a6, q_a7, q_6k⟩ := bind_some q_6k
  refine ev_call rfl rfl C8 (((rational_Of_ok n) _ _  x_b 1 hp.imm _ q_a7).mono ?_)
  rintro _ w_a8 ⟨I_a9, v_aa, v_ab, hv, hq, r_ac, r_ad⟩
  replace hv := hv.symm
  subst hv
  have hs := hq.st
  have hp := hp.join0 hq
  replace hz := hz.trans hs
  replace ha := ha.trans hs
  replace r_9w := r_9w.step hs
  replace r_9x := r_9x.step hs
  replace r_a4 := r_a4.step hs
  replace r_a5 := r_a5.step hs
  refine nxS hz (hp.kc 1 rfl kp_nil) ?_
  have hz := Stp.refl I_a9 w_a8
  refine ⟨SK.same (by kernel_rfl), ?_⟩
  obtain ⟨A_ae, m_af, m_ag, rfl⟩ := r_9w.isSl
  obtain ⟨A_ah, m_ai, m_aj, rfl⟩ := r_9x.isSl
  obtain ⟨A_ak, m_al, m_am, rfl⟩ := r_a4.isSl
  obtain ⟨A_an, m_ao, m_ap, rfl⟩ := r_a5.isSl
  obtain ⟨A_aq, m_ar, m_as, rfl⟩ := r_ac.isSl
  obtain ⟨A_at, m_au, m_av, rfl⟩ := r_ad.isSl
  refine evh0 (fun w => rn_build (cs := [(.bool x_9q.P.Neg), (.slice A_ae m_af m_ag), (.bool x_9q.Q.Neg), (.slice A_ah m_ai m_aj), (.bool x_9y.Num.Neg), (.slice A_ak m_al m_am), (.bool x_9y.Den.Neg), (.slice A_an m_ao m_ap), (.bool x_a6.Num.Neg), (.slice A_aq m_ar m_as), (.bool x_a6.Den.Neg), (.slice A_at m_au m_av)]) rfl rfl T41 PL41 (by kernel_rfl)) ?_
  refine ⟨?_, trivial⟩
  refine ev_storeA hp (i := 0) (off := 0) (vs := [(.bool x_9q.P.Neg), (.slice A_ae m_af m_ag), (.bool x_9q.Q.Neg), (.slice A_ah m_ai m_aj), (.bool x_9y.Num.Neg), (.slice A_ak m_al m_am), (.bool x_9y.Den.Neg), (.slice A_an m_ao m_ap), (.bool x_a6.Num.Neg), (.slice A_aq m_ar m_as), (.bool x_a6.Den.Neg), (.slice A_at m_au m_av)]) rfl rfl rfl rfl T41 rfl (lbe rfl) (on2 r_9w.one (on2 r_9x.one (on2 r_a4.one (on2 r_a5.one (on2 r_ac.one (on2 r_ad.one ones_nil)))))) ?_
  intro w_aw hp hs
  replace hz := hz.trans hs
  replace ha := ha.trans hs
  replace r_9w := r_9w.step hs
  replace r_9x := r_9x.step hs
  replace r_a4 := r_a4.step hs
  replace r_a5 := r_a5.step hs
  replace r_ac := r_ac.step hs
  replace r_ad := r_ad.step hs
  refine nxS hz (hp.kc 1 rfl kp_nil) ?_
  have hz := Stp.refl I_a9 w_aw
  obtain rfl := Option.some.inj q_6k
  have hp := hp.perm [2, 3, 4, 5, 0] (by decide)
  replace r_u := r_u.step ha
  replace r_v := r_v.step ha
  replace r_3s := r_3s.step ha
  replace r_3t := r_3t.step ha
  replace r_6h := r_6h.step ha
  replace r_6i := r_6i.step ha
  replace tb := tb.step ha
  exact ⟨(x_9q.P.Neg, x_9q.P.Mag, x_9q.Q.Neg, x_9q.Q.Mag, x_9y.Num.Neg, x_9y.Num.Mag, x_9y.Den.Neg, x_9y.Den.Mag, x_a6.Num.Neg, x_a6.Num.Mag, x_a6.Den.Neg, x_a6.Den.Mag, g_9o, (.slice A_ae m_af m_ag), (.slice A_ah m_ai m_aj), (.slice A_ak m_al m_am), (.slice A_an m_ao m_ap), (.slice A_aq m_ar m_as), (.slice A_at m_au m_av), I_a9), (.c rfl (.c rfl (.c rfl (.c rfl (.c rfl (.c rfl (.c rfl .n))))))), rfl, hp, r_u, r_v, r_3s, r_3t, r_6h, r_6i, r_9w, r_9x, r_a4, r_a5, r_ac, r_ad, tb⟩
 rintro ⟨x_ax, x_ay, x_az, x_b0, x_b1, x_b2, x_b3, x_b4, x_b5, x_b6, x_b7, x_b8, g_b9, v_ba, v_bb, v_bc, v_bd, v_be, v_bf, I_bg⟩ w_bh ⟨hy, hp, r_u, r_v, r_3s, r_3t, r_6h, r_6i, r_bi, r_bj, r_bk, r_bl, r_bm, r_bn, tb⟩
 replace hy := hy.symm
 subst hy
 obtain ⟨y_bo, q_bp, h⟩ := bind_some h
 refine W.cut (γ := (Bool × (List Int) × Bool × (List Int) × Bool × (List Int) × Bool × (List Int) × Nat × Value × Value × Nat × Value × Value × (Nat → Prop))) (fun g => [(1, (.int .i64 x_i)), (7, (.pointer (some ⟨g_w, 0, none⟩))), (8, (.pointer (some ⟨g_12, 0, none⟩))), (9, (.pointer (some ⟨g_3n, 0, none⟩))), (10, (.pointer (some ⟨g_6c, 0, none⟩))), (11, (.pointer (some ⟨g_b9, 0, none⟩))), (12, (.pointer (some ⟨(g.2.2.2.2.2.2.2.2.1), 0, none⟩))), (13, (.pointer (some ⟨(g.2.2.2.2.2.2.2.2.2.2.2.1), 0, none⟩)))]) (fun g w' => y_bo = ((g.1), (g.2.1), (g.2.2.1), (g.2.2.2.1), (g.2.2.2.2.1), (g.2.2.2.2.2.1), (g.2.2.2.2.2.2.1), (g.2.2.2.2.2.2.2.1)) ∧ Hp ⟨w0, I0, []⟩ (g.2.2.2.2.2.2.2.2.2.2.2.2.2.2) [some (g_w, [(.bool x_o.Num.Neg), v_s, (.bool x_o.Den.Neg), v_t], 31), some (g_12, [(.int .i64 x_z.X), (.int .i64 x_z.Y), (.int .i64 x_z.D)], 34), some (g_3n, [(.bool x_3j), v_3o, (.bool x_3l), v_3p], 31), some (g_6c, [(.bool x_68), v_6d, (.bool x_6a), v_6e], 31), some (g_b9, [(.bool x_ax), v_ba, (.bool x_az), v_bb, (.bool x_b1), v_bc, (.bool x_b3), v_bd, (.bool x_b5), v_be, (.bool x_b7), v_bf], 41), some ((g.2.2.2.2.2.2.2.2.1), [(.bool (g.1)), (g.2.2.2.2.2.2.2.2.2.1), (.bool (g.2.2.1)), (g.2.2.2.2.2.2.2.2.2.2.1)], 31), some ((g.2.2.2.2.2.2.2.2.2.2.2.1), [(.bool (g.2.2.2.2.1)), (g.2.2.2.2.2.2.2.2.2.2.2.2.1), (.bool (g.2.2.2.2.2.2.1)), (g.2.2.2.2.2.2.2.2.2.2.2.2.2.1)], 31)] w' ∧ RepS (dI .u32) w' (g.2.2.2.2.2.2.2.2.2.2.2.2.2.2) v_s x_o.Num.Mag ∧ RepS (dI .u32) w' (g.2.2.2.2.2.2.2.2.2.2.2.2.2.2) v_t x_o.Den.Mag ∧ RepS (dI .u32) w' (g.2.2.2.2.2.2.2.2.2.2.2.2.2.2) v_3o x_3k ∧ RepS (dI .u32) w' (g.2.2.2.2.2.2.2.2.2.2.2.2.2.2) v_3p x_3m ∧ RepS (dI .u32) w' (g.2.2.2.2.2.2.2.2.2.2.2.2.2.2) v_6d x_69 ∧ RepS (dI .u32) w' (g.2.2.2.2.2.2.2.2.2.2.2.2.2.2) v_6e x_6b ∧ RepS (dI .u32) w' (g.2.2.2.2.2.2.2.2.2.2.2.2.2.2) v_ba x_ay ∧ RepS (dI .u32) w' (g.2.2.2.2.2.2.2.2.2.2.2.2.2.2) v_bb x_b0 ∧ RepS (dI .u32) w' (g.2.2.2.2.2.2.2.2.2.2.2.2.2.2) v_bc x_b2 ∧ RepS (dI .u32) w' (g.2.2.2.2.2.2.2.2.2.2.2.2.2.2) v_bd x_b4 ∧ RepS (dI .u32) w' (g.2.2.2.2.2.2.2.2.2.2.2.2.2.2) v_be x_b6 ∧ RepS (dI .u32) w' (g.2.2.2.2.2.2.2.2.2.2.2.2.2.2) v_bf x_b8 ∧ RepS (dI .u32) w' (g.2.2.2.2.2.2.2.2.2.2.2.2.2.2) (g.2.2.2.2.2.2.2.2.2.1) (g.2.1) ∧ RepS (dI .u32) w' (g.2.2.2.2.2.2.2.2.2.2.2.2.2.2) (g.2.2.2.2.2.2.2.2.2.2.1) (g.2.2.2.1) ∧ RepS (dI .u32) w' (g.2.2.2.2.2.2.2.2.2.2.2.2.2.2) (g.2.2.2.2.2.2.2.2.2.2.2.2.1) (g.2.2.2.2.2.1) ∧ RepS (dI .u32) w' (g.2.2.2.2.2.2.2.2.2.2.2.2.2.2) (g.2.2.2.2.2.2.2.2.2.2.2.2.2.1) (g.2.2.2.2.2.2.2.1) ∧ Tb w' (g.2.2.2.2.2.2.2.2.2.2.2.2.2.2) 2 .u64 pow10) ?_ ?_
 ·
  have hs := hp.stp (Ch.drew [] w_bh)
  have hp := hp.drew
  replace ha := hs
  refine W.heldG (.q 0 (.q 2 (.q 4 (.l 1 (.l 3 (.l 5 (.q 6 (.q 7 (.q 8 (.l 9 (.l 10 (.l 11 (.l 12 .done .no) .no) .no) (.l 10 (.l 9 (.l 11 (.l 12 .done .no) .no) .no) .no))))) (.l 9 (.l 5 (.q 6 (.q 7 (.q 8 (.l 10 (.l 11 (.l 12 .done .no) .no) .no)))) (.l 10 (.l 5 (.q 6 (.q 7 (.q 8 (.l 11 (.l 12 .done .no) .no)))) .no) .no)) (.l 10 (.l 5 (.q 6 (.q 7 (.q 8 (.l 9 (.l 11 (.l 12 .done .no) .no) .no)))) (.l 9 (.l 5 (.q 6 (.q 7 (.q 8 (.l 11 (.l 12 .done .no) .no)))) .no) .no)) .no))) (.l 9 (.l 3 (.l 5 (.q 6 (.q 7 (.q 8 (.l 10 (.l 11 (.l 12 .done .no) .no) .no)))) (.l 10 (.l 5 (.q 6 (.q 7 (.q 8 (.l 11 (.l 12 .done .no) .no)))) .no) .no)) (.l 10 (.l 3 (.l 5 (.q 6 (.q 7 (.q 8 (.l 11 (.l 12 .done .no) .no)))) .no) .no) .no)) (.l 10 (.l 3 (.l 5 (.q 6 (.q 7 (.q 8 (.l 9 (.l 11 (.l 12 .done .no) .no) .no)))) (.l 9 (.l 5 (.q 6 (.q 7 (.q 8 (.l 11 (.l 12 .done .no) .no)))) .no) .no)) (.l 9 (.l 3 (.l 5 (.q 6 (.q 7 (.q 8 (.l 11 (.l 12 .done .no) .no)))) .no) .no) .no)) .no))) (.l 9 (.l 1 (.l 3 (.l 5 (.q 6 (.q 7 (.q 8 (.l 10 (.l 11 (.l 12 .done .no) .no) .no)))) (.l 10 (.l 5 (.q 6 (.q 7 (.q 8 (.l 11 (.l 12 .done .no) .no)))) .no) .no)) (.l 10 (.l 3 (.l 5 (.q 6 (.q 7 (.q 8 (.l 11 (.l 12 .done .no) .no)))) .no) .no) .no)) (.l 10 (.l 1 (.l 3 (.l 5 (.q 6 (.q 7 (.q 8 (.l 11 (.l 12 .done .no) .no)))) .no) .no) .no) .no)) (.l 10 (.l 1 (.l 3 (.l 5 (.q 6 (.q 7 (.q 8 (.l 9 (.l 11 (.l 12 .done .no) .no) .no)))) (.l 9 (.l 5 (.q 6 (.q 7 (.q 8 (.l 11 (.l 12 .done .no) .no)))) .no) .no)) (.l 9 (.l 3 (.l 5 (.q 6 (.q 7 (.q 8 (.l 11 (.l 12 .done .no) .no)))) .no) .no) .no)) (.l 9 (.l 1 (.l 3 (.l 5 (.q 6 (.q 7 (.q 8 (.l 11 (.l 12 .done .no) .no)))) .no) .no) .no) .no)) .no)))))) (SK (Stp I_bg w_bh.drew I_bg) [(g_w, [(.bool x_o.Num.Neg), v_s, (.bool x_o.Den.Neg), v_t], 31)] [[]]) MX (by kernel_rfl) ⟨Stp.refl _ _, (kp_cons (fun _ => (hp.own 0 _ _ _ rfl).1) kp_nil)⟩ ?_
  have hz := Stp.refl I_bg w_bh.drew
  refine ⟨SK.same (by kernel_rfl), ?_⟩
  refine ⟨SK.same (by kernel_rfl), ?_⟩
  refine ⟨SK.same (by kernel_rfl), ?_⟩
  refine evh (fun w' hw => rn_load rfl rfl (run_loadVarA T31 rfl ((S0.keep (p := 0) hw rfl rfl (by kernel_rfl)).at_ (i := 0) rfl))) ?_
  refine ⟨?_, ?_⟩
  ·
   obtain ⟨x_bq, q_br, q_bp⟩ := bind_some q_bp
   refine ev_call rfl rfl C11 (((rotation_Mark_ok n) _ _  x_i hp.imm _ q_br).mono ?_)
   rintro _ w_bs ⟨I_bt, v_bu, v_bv, hv, hq, r_bw, r_bx⟩
   replace hv := hv.symm
   subst hv
   have hs := hq.st
   have hp := hp.join0 hq
   replace hz := hz.trans hs
   replace ha := ha.trans hs
   refine nxS hz (hp.kc 0 rfl kp_nil) ?_
   have hz := Stp.refl I_bt w_bs
   refine ⟨?_, ?_⟩
   ·
    obtain ⟨x_by, q_bz, q_bp⟩ := bind_some q_bp
    refine ev_call rfl rfl C8 (((rational_Of_ok n) _ _  x_l 1 hp.imm _ q_bz).mono ?_)
    rintro _ w_c0 ⟨I_c1, v_c2, v_c3, hv, hq, r_c4, r_c5⟩
    replace hv := hv.symm
    subst hv
    have hs := hq.st
    have hp := hp.join0 hq
    replace hz := hz.trans hs
    replace ha := ha.trans hs
    replace r_bw := r_bw.step hs
    replace r_bx := r_bx.step hs
    refine nxS hz (hp.kc 0 rfl kp_nil) ?_
    have hz := Stp.refl I_c1 w_c0
    refine ⟨?_, ?_⟩
    ·
     obtain ⟨⟨x_c6, x_c7⟩, q_c8, q_bp⟩ := bind_some q_bp
     replace r_u := r_u.step ha
     replace r_v := r_v.step ha
     refine ev_call rfl rfl C12 (((rotation_Turn_ok n) _ _  x_bq v_bu r_bw v_bv r_bx x_by v_c2 r_c4 v_c3 r_c5 (Rational.mk (Int_2.mk x_o.Num.Neg x_o.Num.Mag) (Int_2.mk x_o.Den.Neg x_o.Den.Mag)) v_s r_u v_t r_v hp.imm _ q_c8).mono ?_)
     rintro _ w_c9 ⟨I_ca, v_cb, v_cc, v_cd, v_ce, hv, hq, r_cf, r_cg, r_ch, r_ci⟩
     replace hv := hv.symm
     subst hv
     have hs := hq.st
     have hp := hp.join0 hq
     replace hz := hz.trans hs
     replace ha := ha.trans hs
     replace r_u := r_u.step hs
     replace r_v := r_v.step hs
     refine nxS hz (hp.kc 0 rfl kp_nil) ?_
     have hz := Stp.refl I_ca w_c9
     refine ⟨SK.same (by kernel_rfl), ?_⟩
     refine ⟨SK.same (by kernel_rfl), ?_⟩
     refine ⟨SK.same (by kernel_rfl), ?_⟩
     refine ⟨?_, ?_⟩
     ·
      refine ev_alloc hp rfl T31 ?_
      intro g_cj w_ck hp hs
      replace hz := hz.trans hs
      replace ha := ha.trans hs
      replace r_cf := r_cf.step hs
      replace r_cg := r_cg.step hs
      replace r_ch := r_ch.step hs
      replace r_ci := r_ci.step hs
      replace r_u := r_u.step hs
      replace r_v := r_v.step hs
      refine nxS hz (hp.kc 1 rfl kp_nil) ?_
      have hz := Stp.refl I_ca w_ck
      refine ⟨?_, trivial⟩
      refine ev_alloc hp rfl T31 ?_
      intro g_cl w_cm hp hs
      replace hz := hz.trans hs
      replace ha := ha.trans hs
      replace r_cf := r_cf.step hs
      replace r_cg := r_cg.step hs
      replace r_ch := r_ch.step hs
      replace r_ci := r_ci.step hs
      replace r_u := r_u.step hs
      replace r_v := r_v.step hs
      refine nxS hz (hp.kc 2 rfl kp_nil) ?_
      have hz := Stp.refl I_ca w_cm
      refine ⟨?_, trivial⟩
      refine ev_storeA hp (i := 1) (off := 0) (vs := [(.bool x_c6.Num.Neg), v_cb, (.bool x_c6.Den.Neg), v_cc]) rfl rfl rfl rfl T31 rfl (lbe rfl) (on2 r_cf.one (on2 r_cg.one ones_nil)) ?_
      intro w_cn hp hs
      replace hz := hz.trans hs
      replace ha := ha.trans hs
      replace r_ch := r_ch.step hs
      replace r_ci := r_ci.step hs
      replace r_cf := r_cf.step hs
      replace r_cg := r_cg.step hs
      replace r_u := r_u.step hs
      replace r_v := r_v.step hs
      refine nxS hz (hp.kc 2 rfl kp_nil) ?_
      have hz := Stp.refl I_ca w_cn
      refine ⟨?_, trivial⟩
      refine ev_storeA hp (i := 0) (off := 0) (vs := [(.bool x_c7.Num.Neg), v_cd, (.bool x_c7.Den.Neg), v_ce]) rfl rfl rfl rfl T31 rfl (lbe rfl) (on2 r_ch.one (on2 r_ci.one ones_nil)) ?_
      intro w_co hp hs
      replace hz := hz.trans hs
      replace r_3s := r_3s.step ha
      replace r_3t := r_3t.step ha
      replace r_6h := r_6h.step ha
      replace r_6i := r_6i.step ha
      replace r_bi := r_bi.step ha
      replace r_bj := r_bj.step ha
      replace r_bk := r_bk.step ha
      replace r_bl := r_bl.step ha
      replace r_bm := r_bm.step ha
      replace r_bn := r_bn.step ha
      replace tb := tb.step ha
      replace ha := hs
      refine nxS hz (hp.kc 2 rfl kp_nil) ?_
      have hz := Stp.refl I_ca w_co
      obtain rfl := Option.some.inj q_bp
      have hp := hp.perm [2, 3, 4, 5, 6, 1, 0] (by decide)
      replace r_u := r_u.step ha
      replace r_v := r_v.step ha
      replace r_3s := r_3s.step ha
      replace r_3t := r_3t.step ha
      replace r_6h := r_6h.step ha
      replace r_6i := r_6i.step ha
      replace r_bi := r_bi.step ha
      replace r_bj := r_bj.step ha
      replace r_bk := r_bk.step ha
      replace r_bl := r_bl.step ha
      replace r_bm := r_bm.step ha
      replace r_bn := r_bn.step ha
      replace r_cf := r_cf.step ha
      replace r_cg := r_cg.step ha
      replace r_ch := r_ch.step ha
      replace r_ci := r_ci.step ha
      replace tb := tb.step ha
      exact ⟨(x_c6.Num.Neg, x_c6.Num.Mag, x_c6.Den.Neg, x_c6.Den.Mag, x_c7.Num.Neg, x_c7.Num.Mag, x_c7.Den.Neg, x_c7.Den.Mag, g_cj, v_cb, v_cc, g_cl, v_cd, v_ce, I_ca), (.c rfl (.c rfl (.c rfl (.c rfl (.c rfl (.c rfl (.c rfl (.c rfl .n)))))))), rfl, hp, r_u, r_v, r_3s, r_3t, r_6h, r_6i, r_bi, r_bj, r_bk, r_bl, r_bm, r_bn, r_cf, r_cg, r_ch, r_ci, tb⟩
     refine ⟨?_, trivial⟩
     refine ev_alloc hp rfl T31 ?_
     intro g_cp w_cq hp hs
     replace hz := hz.trans hs
     replace ha := ha.trans hs
     replace r_cf := r_cf.step hs
     replace r_cg := r_cg.step hs
     replace r_ch := r_ch.step hs
     replace r_ci := r_ci.step hs
     replace r_u := r_u.step hs
     replace r_v := r_v.step hs
     refine nxS hz (hp.kc 1 rfl kp_nil) ?_
     have hz := Stp.refl I_ca w_cq
     refine ⟨?_, trivial⟩
     refine ev_alloc hp rfl T31 ?_
     intro g_cr w_cs hp hs
     replace hz := hz.trans hs
     replace ha := ha.trans hs
     replace r_cf := r_cf.step hs
     replace r_cg := r_cg.step hs
     replace r_ch := r_ch.step hs
     replace r_ci := r_ci.step hs
     replace r_u := r_u.step hs
     replace r_v := r_v.step hs
     refine nxS hz (hp.kc 2 rfl kp_nil) ?_
     have hz := Stp.refl I_ca w_cs
     refine ⟨?_, trivial⟩
     refine ev_storeA hp (i := 0) (off := 0) (vs := [(.bool x_c6.Num.Neg), v_cb, (.bool x_c6.Den.Neg), v_cc]) rfl rfl rfl rfl T31 rfl (lbe rfl) (on2 r_cf.one (on2 r_cg.one ones_nil)) ?_
     intro w_ct hp hs
     replace hz := hz.trans hs
     replace ha := ha.trans hs
     replace r_ch := r_ch.step hs
     replace r_ci := r_ci.step hs
     replace r_cf := r_cf.step hs
     replace r_cg := r_cg.step hs
     replace r_u := r_u.step hs
     replace r_v := r_v.step hs
     refine nxS hz (hp.kc 2 rfl kp_nil) ?_
     have hz := Stp.refl I_ca w_ct
     refine ⟨?_, trivial⟩
     refine ev_storeA hp (i := 1) (off := 0) (vs := [(.bool x_c7.Num.Neg), v_cd, (.bool x_c7.Den.Neg), v_ce]) rfl rfl rfl rfl T31 rfl (lbe rfl) (on2 r_ch.one (on2 r_ci.one ones_nil)) ?_
     intro w_cu hp hs
     replace hz := hz.trans hs
     replace r_3s := r_3s.step ha
     replace r_3t := r_3t.step ha
     replace r_6h := r_6h.step ha
     replace r_6i := r_6i.step ha
     replace r_bi := r_bi.step ha
     replace r_bj := r_bj.step ha
     replace r_bk := r_bk.step ha
     replace r_bl := r_bl.step ha
     replace r_bm := r_bm.step ha
     replace r_bn := r_bn.step ha
     replace tb := tb.step ha
     replace ha := hs
     refine nxS hz (hp.kc 2 rfl kp_nil) ?_
     have hz := Stp.refl I_ca w_cu
     obtain rfl := Option.some.inj q_bp
     have hp := hp.perm [2, 3, 4, 5, 6, 0, 1] (by decide)
     replace r_u := r_u.step ha
     replace r_v := r_v.step ha
     replace r_3s := r_3s.step ha
     replace r_3t := r_3t.step ha
     replace r_6h := r_6h.step ha
     replace r_6i := r_6i.step ha
     replace r_bi := r_bi.step ha
     replace r_bj := r_bj.step ha
     replace r_bk := r_bk.step ha
     replace r_bl := r_bl.step ha
     replace r_bm := r_bm.step ha
     replace r_bn := r_bn.step ha
     replace r_cf := r_cf.step ha
     replace r_cg := r_cg.step ha
     replace r_ch := r_ch.step ha
     replace r_ci := r_ci.step ha
     replace tb := tb.step ha
     exact ⟨(x_c6.Num.Neg, x_c6.Num.Mag, x_c6.Den.Neg, x_c6.Den.Mag, x_c7.Num.Neg, x_c7.Num.Mag, x_c7.Den.Neg, x_c7.Den.Mag, g_cr, v_cb, v_cc, g_cp, v_cd, v_ce, I_ca), (.c rfl (.c rfl (.c rfl (.c rfl (.c rfl (.c rfl (.c rfl (.c rfl .n)))))))), rfl, hp, r_u, r_v, r_3s, r_3t, r_6h, r_6i, r_bi, r_bj, r_bk, r_bl, r_bm, r_bn, r_cf, r_cg, r_ch, r_ci, tb⟩
    refine ⟨?_, ?_⟩
    ·
     refine ev_alloc hp rfl T31 ?_
     intro g_cv w_cw hp hs
     replace hz := hz.trans hs
     replace ha := ha.trans hs
     replace r_bw := r_bw.step hs
     replace r_bx := r_bx.step hs
     replace r_c4 := r_c4.step hs
     replace r_c5 := r_c5.step hs
     refine nxS hz (hp.kc 1 rfl kp_nil) ?_
     have hz := Stp.refl I_c1 w_cw
     refine ⟨?_, ?_⟩
     ·
      obtain ⟨⟨x_cx, x_cy⟩, q_cz, q_bp⟩ := bind_some q_bp
      replace r_u := r_u.step ha
      replace r_v := r_v.step ha
      refine ev_call rfl rfl C12 (((rotation_Turn_ok n) _ _  x_bq v_bu r_bw v_bv r_bx x_by v_c2 r_c4 v_c3 r_c5 (Rational.mk (Int_2.mk x_o.Num.Neg x_o.Num.Mag) (Int_2.mk x_o.Den.Neg x_o.Den.Mag)) v_s r_u v_t r_v hp.imm _ q_cz).mono ?_)
      rintro _ w_d0 ⟨I_d1, v_d2, v_d3, v_d4, v_d5, hv, hq, r_d6, r_d7, r_d8, r_d9⟩
      replace hv := hv.symm
      subst hv
      have hs := hq.st
      have hp := hp.join0 hq
      replace hz := hz.trans hs
      replace ha := ha.trans hs
      replace r_u := r_u.step hs
      replace r_v := r_v.step hs
      refine nxS hz (hp.kc 1 rfl kp_nil) ?_
      have hz := Stp.refl I_d1 w_d0
      refine ⟨SK.same (by kernel_rfl), ?_⟩
      refine ⟨SK.same (by kernel_rfl), ?_⟩
      refine ⟨SK.same (by kernel_rfl), ?_⟩
      refine ⟨?_, trivial⟩
      refine ev_alloc hp rfl T31 ?_
      intro g_da w_db hp hs
      replace hz := hz.trans hs
      replace ha := ha.trans hs
      replace r_d6 := r_d6.step hs
      replace r_d7 := r_d7.step hs
      replace r_d8 := r_d8.step hs
      replace r_d9 := r_d9.step hs
      replace r_u := r_u.step hs
      replace r_v := r_v.step hs
      refine nxS hz (hp.kc 2 rfl kp_nil) ?_
      have hz := Stp.refl I_d1 w_db
      refine ⟨?_, trivial⟩
      refine ev_storeA hp (i := 1) (off := 0) (vs := [(.bool x_cx.Num.Neg), v_d2, (.bool x_cx.Den.Neg), v_d3]) rfl rfl rfl rfl T31 rfl (lbe rfl) (on2 r_d6.one (on2 r_d7.one ones_nil)) ?_
      intro w_dc hp hs
      replace hz := hz.trans hs
      replace ha := ha.trans hs
      replace r_d8 := r_d8.step hs
      replace r_d9 := r_d9.step hs
      replace r_d6 := r_d6.step hs
      replace r_d7 := r_d7.step hs
      replace r_u := r_u.step hs
      replace r_v := r_v.step hs
      refine nxS hz (hp.kc 2 rfl kp_nil) ?_
      have hz := Stp.refl I_d1 w_dc
      refine ⟨?_, trivial⟩
      refine ev_storeA hp (i := 0) (off := 0) (vs := [(.bool x_cy.Num.Neg), v_d4, (.bool x_cy.Den.Neg), v_d5]) rfl rfl rfl rfl T31 rfl (lbe rfl) (on2 r_d8.one (on2 r_d9.one ones_nil)) ?_
      intro w_dd hp hs
      replace hz := hz.trans hs
      replace ha := ha.trans hs
      replace r_d8 := r_d8.step hs
      replace r_d9 := r_d9.step hs
      replace r_d6 := r_d6.step hs
      replace r_d7 := r_d7.step hs
      replace r_u := r_u.step hs
      replace r_v := r_v.step hs
      refine nxS hz (hp.kc 2 rfl kp_nil) ?_
      have hz := Stp.refl I_d1 w_dd
      obtain rfl := Option.some.inj q_bp
      have hp := hp.perm [2, 3, 4, 5, 6, 1, 0] (by decide)
      replace r_3s := r_3s.step ha
      replace r_3t := r_3t.step ha
      replace r_6h := r_6h.step ha
      replace r_6i := r_6i.step ha
      replace r_bi := r_bi.step ha
      replace r_bj := r_bj.step ha
      replace r_bk := r_bk.step ha
      replace r_bl := r_bl.step ha
      replace r_bm := r_bm.step ha
      replace r_bn := r_bn.step ha
      replace tb := tb.step ha
      exact ⟨(x_cx.Num.Neg, x_cx.Num.Mag, x_cx.Den.Neg, x_cx.Den.Mag, x_cy.Num.Neg, x_cy.Num.Mag, x_cy.Den.Neg, x_cy.Den.Mag, g_cv, v_d2, v_d3, g_da, v_d4, v_d5, I_d1), (.c rfl (.c rfl (.c rfl (.c rfl (.c rfl (.c rfl (.c rfl (.c rfl .n)))))))), rfl, hp, r_u, r_v, r_3s, r_3t, r_6h, r_6i, r_bi, r_bj, r_bk, r_bl, r_bm, r_bn, r_d6, r_d7, r_d8, r_d9, tb⟩
     refine ⟨?_, trivial⟩
     refine ev_alloc hp rfl T31 ?_
     intro g_de w_df hp hs
     replace hz := hz.trans hs
     replace ha := ha.trans hs
     replace r_bw := r_bw.step hs
     replace r_bx := r_bx.step hs
     replace r_c4 := r_c4.step hs
     replace r_c5 := r_c5.step hs
     refine nxS hz (hp.kc 2 rfl kp_nil) ?_
     have hz := Stp.refl I_c1 w_df
     refine ⟨?_, trivial⟩
     obtain ⟨⟨x_dg, x_dh⟩, q_di, q_bp⟩ := bind_some q_bp
     replace r_u := r_u.step ha
     replace r_v := r_v.step ha
     refine ev_call rfl rfl C12 (((rotation_Turn_ok n) _ _  x_bq v_bu r_bw v_bv r_bx x_by v_c2 r_c4 v_c3 r_c5 (Rational.mk (Int_2.mk x_o.Num.Neg x_o.Num.Mag) (Int_2.mk x_o.Den.Neg x_o.Den.Mag)) v_s r_u v_t r_v hp.imm _ q_di).mono ?_)
     rintro _ w_dj ⟨I_dk, v_dl, v_dm, v_dn, v_do, hv, hq, r_dp, r_dq, r_dr, r_ds⟩
     replace hv := hv.symm
     subst hv
     have hs := hq.st
     have hp := hp.join0 hq
     replace hz := hz.trans hs
     replace ha := ha.trans hs
     replace r_u := r_u.step hs
     replace r_v := r_v.step hs
     refine nxS hz (hp.kc 2 rfl kp_nil) ?_
     have hz := Stp.refl I_dk w_dj
     refine ⟨SK.same (by kernel_rfl), ?_⟩
     refine ⟨SK.same (by kernel_rfl), ?_⟩
     refine ⟨SK.same (by kernel_rfl), ?_⟩
     refine ⟨?_, trivial⟩
     refine ev_storeA hp (i := 1) (off := 0) (vs := [(.bool x_dg.Num.Neg), v_dl, (.bool x_dg.Den.Neg), v_dm]) rfl rfl rfl rfl T31 rfl (lbe rfl) (on2 r_dp.one (on2 r_dq.one ones_nil)) ?_
     intro w_dt hp hs
     replace hz := hz.trans hs
     replace ha := ha.trans hs
     replace r_dr := r_dr.step hs
     replace r_ds := r_ds.step hs
     replace r_dp := r_dp.step hs
     replace r_dq := r_dq.step hs
     replace r_u := r_u.step hs
     replace r_v := r_v.step hs
     refine nxS hz (hp.kc 2 rfl kp_nil) ?_
     have hz := Stp.refl I_dk w_dt
     refine ⟨?_, trivial⟩
     refine ev_storeA hp (i := 0) (off := 0) (vs := [(.bool x_dh.Num.Neg), v_dn, (.bool x_dh.Den.Neg), v_do]) rfl rfl rfl rfl T31 rfl (lbe rfl) (on2 r_dr.one (on2 r_ds.one ones_nil)) ?_
     intro w_du hp hs
     replace hz := hz.trans hs
     replace ha := ha.trans hs
     replace r_dr := r_dr.step hs
     replace r_ds := r_ds.step hs
     replace r_dp := r_dp.step hs
     replace r_dq := r_dq.step hs
     replace r_u := r_u.step hs
     replace r_v := r_v.step hs
     refine nxS hz (hp.kc 2 rfl kp_nil) ?_
     have hz := Stp.refl I_dk w_du
     obtain rfl := Option.some.inj q_bp
     have hp := hp.perm [2, 3, 4, 5, 6, 1, 0] (by decide)
     replace r_3s := r_3s.step ha
     replace r_3t := r_3t.step ha
     replace r_6h := r_6h.step ha
     replace r_6i := r_6i.step ha
     replace r_bi := r_bi.step ha
     replace r_bj := r_bj.step ha
     replace r_bk := r_bk.step ha
     replace r_bl := r_bl.step ha
     replace r_bm := r_bm.step ha
     replace r_bn := r_bn.step ha
     replace tb := tb.step ha
     exact ⟨(x_dg.Num.Neg, x_dg.Num.Mag, x_dg.Den.Neg, x_dg.Den.Mag, x_dh.Num.Neg, x_dh.Num.Mag, x_dh.Den.Neg, x_dh.Den.Mag, g_cv, v_dl, v_dm, g_de, v_dn, v_do, I_dk), (.c rfl (.c rfl (.c rfl (.c rfl (.c rfl (.c rfl (.c rfl (.c rfl .n)))))))), rfl, hp, r_u, r_v, r_3s, r_3t, r_6h, r_6i, r_bi, r_bj, r_bk, r_bl, r_bm, r_bn, r_dp, r_dq, r_dr, r_ds, tb⟩
    refine ⟨?_, trivial⟩
    refine ev_alloc hp rfl T31 ?_
    intro g_dv w_dw hp hs
    replace hz := hz.trans hs
    replace ha := ha.trans hs
    replace r_bw := r_bw.step hs
    replace r_bx := r_bx.step hs
    replace r_c4 := r_c4.step hs
    replace r_c5 := r_c5.step hs
    refine nxS hz (hp.kc 1 rfl kp_nil) ?_
    have hz := Stp.refl I_c1 w_dw
    refine ⟨?_, ?_⟩
    ·
     obtain ⟨⟨x_dx, x_dy⟩, q_dz, q_bp⟩ := bind_some q_bp
     replace r_u := r_u.step ha
     replace r_v := r_v.step ha
     refine ev_call rfl rfl C12 (((rotation_Turn_ok n) _ _  x_bq v_bu r_bw v_bv r_bx x_by v_c2 r_c4 v_c3 r_c5 (Rational.mk (Int_2.mk x_o.Num.Neg x_o.Num.Mag) (Int_2.mk x_o.Den.Neg x_o.Den.Mag)) v_s r_u v_t r_v hp.imm _ q_dz).mono ?_)
     rintro _ w_e0 ⟨I_e1, v_e2, v_e3, v_e4, v_e5, hv, hq, r_e6, r_e7, r_e8, r_e9⟩
     replace hv := hv.symm
     subst hv
     have hs := hq.st
     have hp := hp.join0 hq
     replace hz := hz.trans hs
     replace ha := ha.trans hs
     replace r_u := r_u.step hs
     replace r_v := r_v.step hs
     refine nxS hz (hp.kc 1 rfl kp_nil) ?_
     have hz := Stp.refl I_e1 w_e0
     refine ⟨SK.same (by kernel_rfl), ?_⟩
     refine ⟨SK.same (by kernel_rfl), ?_⟩
     refine ⟨SK.same (by kernel_rfl), ?_⟩
     refine ⟨?_, trivial⟩
     refine ev_alloc hp rfl T31 ?_
     intro g_ea w_eb hp hs
     replace hz := hz.trans hs
     replace ha := ha.trans hs
     replace r_e6 := r_e6.step hs
     replace r_e7 := r_e7.step hs
     replace r_e8 := r_e8.step hs
     replace r_e9 := r_e9.step hs
     replace r_u := r_u.step hs
     replace r_v := r_v.step hs
     refine nxS hz (hp.kc 2 rfl kp_nil) ?_
     have hz := Stp.refl I_e1 w_eb
     refine ⟨?_, trivial⟩
     refine ev_storeA hp (i := 0) (off := 0) (vs := [(.bool x_dx.Num.Neg), v_e2, (.bool x_dx.Den.Neg), v_e3]) rfl rfl rfl rfl T31 rfl (lbe rfl) (on2 r_e6.one (on2 r_e7.one ones_nil)) ?_
     intro w_ec hp hs
     replace hz := hz.trans hs
     replace ha := ha.trans hs
     replace r_e8 := r_e8.step hs
     replace r_e9 := r_e9.step hs
     replace r_e6 := r_e6.step hs
     replace r_e7 := r_e7.step hs
     replace r_u := r_u.step hs
     replace r_v := r_v.step hs
     refine nxS hz (hp.kc 2 rfl kp_nil) ?_
     have hz := Stp.refl I_e1 w_ec
     refine ⟨?_, trivial⟩
     refine ev_storeA hp (i := 1) (off := 0) (vs := [(.bool x_dy.Num.Neg), v_e4, (.bool x_dy.Den.Neg), v_e5]) rfl rfl rfl rfl T31 rfl (lbe rfl) (on2 r_e8.one (on2 r_e9.one ones_nil)) ?_
     intro w_ed hp hs
     replace hz := hz.trans hs
     replace ha := ha.trans hs
     replace r_e6 := r_e6.step hs
     replace r_e7 := r_e7.step hs
     replace r_e8 := r_e8.step hs
     replace r_e9 := r_e9.step hs
     replace r_u := r_u.step hs
     replace r_v := r_v.step hs
     refine nxS hz (hp.kc 2 rfl kp_nil) ?_
     have hz := Stp.refl I_e1 w_ed
     obtain rfl := Option.some.inj q_bp
     have hp := hp.perm [2, 3, 4, 5, 6, 0, 1] (by decide)
     replace r_3s := r_3s.step ha
     replace r_3t := r_3t.step ha
     replace r_6h := r_6h.step ha
     replace r_6i := r_6i.step ha
     replace r_bi := r_bi.step ha
     replace r_bj := r_bj.step ha
     replace r_bk := r_bk.step ha
     replace r_bl := r_bl.step ha
     replace r_bm := r_bm.step ha
     replace r_bn := r_bn.step ha
     replace tb := tb.step ha
     exact ⟨(x_dx.Num.Neg, x_dx.Num.Mag, x_dx.Den.Neg, x_dx.Den.Mag, x_dy.Num.Neg, x_dy.Num.Mag, x_dy.Den.Neg, x_dy.Den.Mag, g_ea, v_e2, v_e3, g_dv, v_e4, v_e5, I_e1), (.c rfl (.c rfl (.c rfl (.c rfl (.c rfl (.c rfl (.c rfl (.c rfl .n)))))))), rfl, hp, r_u, r_v, r_3s, r_3t, r_6h, r_6i, r_bi, r_bj, r_bk, r_bl, r_bm, r_bn, r_e6, r_e7, r_e8, r_e9, tb⟩
    refine ⟨?_, trivial⟩
    refine ev_alloc hp rfl T31 ?_
    intro g_ee w_ef hp hs
    replace hz := hz.trans hs
    replace ha := ha.trans hs
    replace r_bw := r_bw.step hs
    replace r_bx := r_bx.step hs
    replace r_c4 := r_c4.step hs
    replace r_c5 := r_c5.step hs
    refine nxS hz (hp.kc 2 rfl kp_nil) ?_
    have hz := Stp.refl I_c1 w_ef
    refine ⟨?_, trivial⟩
    obtain ⟨⟨x_eg, x_eh⟩, q_ei, q_bp⟩ := bind_some q_bp
    replace r_u := r_u.step ha
    replace r_v := r_v.step ha
    refine ev_call rfl rfl C12 (((rotation_Turn_ok n) _ _  x_bq v_bu r_bw v_bv r_bx x_by v_c2 r_c4 v_c3 r_c5 (Rational.mk (Int_2.mk x_o.Num.Neg x_o.Num.Mag) (Int_2.mk x_o.Den.Neg x_o.Den.Mag)) v_s r_u v_t r_v hp.imm _ q_ei).mono ?_)
    rintro _ w_ej ⟨I_ek, v_el, v_em, v_en, v_eo, hv, hq, r_ep, r_eq, r_er, r_es⟩
    replace hv := hv.symm
    subst hv
    have hs := hq.st
    have hp := hp.join0 hq
    replace hz := hz.trans hs
    replace ha := ha.trans hs
    replace r_u := r_u.step hs
    replace r_v := r_v.step hs
    refine nxS hz (hp.kc 2 rfl kp_nil) ?_
    have hz := Stp.refl I_ek w_ej
    refine ⟨SK.same (by kernel_rfl), ?_⟩
    refine ⟨SK.same (by kernel_rfl), ?_⟩
    refine ⟨SK.same (by kernel_rfl), ?_⟩
    refine ⟨?_, trivial⟩
    refine ev_storeA hp (i := 0) (off := 0) (vs := [(.bool x_eg.Num.Neg), v_el, (.bool x_eg.Den.Neg), v_em]) rfl rfl rfl rfl T31 rfl (lbe rfl) (on2 r_ep.one (on2 r_eq.one ones_nil)) ?_
    intro w_et hp hs
    replace hz := hz.trans hs
    replace ha := ha.trans hs
    replace r_er := r_er.step hs
    replace r_es := r_es.step hs
    replace r_ep := r_ep.step hs
    replace r_eq := r_eq.step hs
    replace r_u := r_u.step hs
    replace r_v := r_v.step hs
    refine nxS hz (hp.kc 2 rfl kp_nil) ?_
    have hz := Stp.refl I_ek w_et
    refine ⟨?_, trivial⟩
    refine ev_storeA hp (i := 1) (off := 0) (vs := [(.bool x_eh.Num.Neg), v_en, (.bool x_eh.Den.Neg), v_eo]) rfl rfl rfl rfl T31 rfl (lbe rfl) (on2 r_er.one (on2 r_es.one ones_nil)) ?_
    intro w_eu hp hs
    replace hz := hz.trans hs
    replace ha := ha.trans hs
    replace r_ep := r_ep.step hs
    replace r_eq := r_eq.step hs
    replace r_er := r_er.step hs
    replace r_es := r_es.step hs
    replace r_u := r_u.step hs
    replace r_v := r_v.step hs
    refine nxS hz (hp.kc 2 rfl kp_nil) ?_
    have hz := Stp.refl I_ek w_eu
    obtain rfl := Option.some.inj q_bp
    have hp := hp.perm [2, 3, 4, 5, 6, 0, 1] (by decide)
    replace r_3s := r_3s.step ha
    replace r_3t := r_3t.step ha
    replace r_6h := r_6h.step ha
    replace r_6i := r_6i.step ha
    replace r_bi := r_bi.step ha
    replace r_bj := r_bj.step ha
    replace r_bk := r_bk.step ha
    replace r_bl := r_bl.step ha
    replace r_bm := r_bm.step ha
    replace r_bn := r_bn.step ha
    replace tb := tb.step ha
    exact ⟨(x_eg.Num.Neg, x_eg.Num.Mag, x_eg.Den.Neg, x_eg.Den.Mag, x_eh.Num.Neg, x_eh.Num.Mag, x_eh.Den.Neg, x_eh.Den.Mag, g_ee, v_el, v_em, g_dv, v_en, v_eo, I_ek), (.c rfl (.c rfl (.c rfl (.c rfl (.c rfl (.c rfl (.c rfl (.c rfl .n)))))))), rfl, hp, r_u, r_v, r_3s, r_3t, r_6h, r_6i, r_bi, r_bj, r_bk, r_bl, r_bm, r_bn, r_ep, r_eq, r_er, r_es, tb⟩
   refine ⟨?_, ?_⟩
   ·
    refine ev_alloc hp rfl T31 ?_
    intro g_ev w_ew hp hs
    replace hz := hz.trans hs
    replace ha := ha.trans hs
    replace r_bw := r_bw.step hs
    replace r_bx := r_bx.step hs
    refine nxS hz (hp.kc 1 rfl kp_nil) ?_
    have hz := Stp.refl I_bt w_ew
    refine ⟨?_, ?_⟩
    ·
     obtain ⟨x_ex, q_ey, q_bp⟩ := bind_some q_bp
     refine ev_call rfl rfl C8 (((rational_Of_ok n) _ _  x_l 1 hp.imm _ q_ey).mono ?_)
     rintro _ w_ez ⟨I_f0, v_f1, v_f2, hv, hq, r_f3, r_f4⟩
     replace hv := hv.symm
     subst hv
     have hs := hq.st
     have hp := hp.join0 hq
     replace hz := hz.trans hs
     replace ha := ha.trans hs
     replace r_bw := r_bw.step hs
     replace r_bx := r_bx.step hs
     refine nxS hz (hp.kc 1 rfl kp_nil) ?_
     have hz := Stp.refl I_f0 w_ez
     refine ⟨?_, ?_⟩
     ·
      obtain ⟨⟨x_f5, x_f6⟩, q_f7, q_bp⟩ := bind_some q_bp
      replace r_u := r_u.step ha
      replace r_v := r_v.step ha
      refine ev_call rfl rfl C12 (((rotation_Turn_ok n) _ _  x_bq v_bu r_bw v_bv r_bx x_ex v_f1 r_f3 v_f2 r_f4 (Rational.mk (Int_2.mk x_o.Num.Neg x_o.Num.Mag) (Int_2.mk x_o.Den.Neg x_o.Den.Mag)) v_s r_u v_t r_v hp.imm _ q_f7).mono ?_)
      rintro _ w_f8 ⟨I_f9, v_fa, v_fb, v_fc, v_fd, hv, hq, r_fe, r_ff, r_fg, r_fh⟩
      replace hv := hv.symm
      subst hv
      have hs := hq.st
      have hp := hp.join0 hq
      replace hz := hz.trans hs
      replace ha := ha.trans hs
      replace r_u := r_u.step hs
      replace r_v := r_v.step hs
      refine nxS hz (hp.kc 1 rfl kp_nil) ?_
      have hz := Stp.refl I_f9 w_f8
      refine ⟨SK.same (by kernel_rfl), ?_⟩
      refine ⟨SK.same (by kernel_rfl), ?_⟩
      refine ⟨SK.same (by kernel_rfl), ?_⟩
      refine ⟨?_, trivial⟩
      refine ev_alloc hp rfl T31 ?_
      intro g_fi w_fj hp hs
      replace hz := hz.trans hs
      replace ha := ha.trans hs
      replace r_fe := r_fe.step hs
      replace r_ff := r_ff.step hs
      replace r_fg := r_fg.step hs
      replace r_fh := r_fh.step hs
      replace r_u := r_u.step hs
      replace r_v := r_v.step hs
      refine nxS hz (hp.kc 2 rfl kp_nil) ?_
      have hz := Stp.refl I_f9 w_fj
      refine ⟨?_, trivial⟩
      refine ev_storeA hp (i := 1) (off := 0) (vs := [(.bool x_f5.Num.Neg), v_fa, (.bool x_f5.Den.Neg), v_fb]) rfl rfl rfl rfl T31 rfl (lbe rfl) (on2 r_fe.one (on2 r_ff.one ones_nil)) ?_
      intro w_fk hp hs
      replace hz := hz.trans hs
      replace ha := ha.trans hs
      replace r_fg := r_fg.step hs
      replace r_fh := r_fh.step hs
      replace r_fe := r_fe.step hs
      replace r_ff := r_ff.step hs
      replace r_u := r_u.step hs
      replace r_v := r_v.step hs
      refine nxS hz (hp.kc 2 rfl kp_nil) ?_
      have hz := Stp.refl I_f9 w_fk
      refine ⟨?_, trivial⟩
      refine ev_storeA hp (i := 0) (off := 0) (vs := [(.bool x_f6.Num.Neg), v_fc, (.bool x_f6.Den.Neg), v_fd]) rfl rfl rfl rfl T31 rfl (lbe rfl) (on2 r_fg.one (on2 r_fh.one ones_nil)) ?_
      intro w_fl hp hs
      replace hz := hz.trans hs
      replace ha := ha.trans hs
      replace r_fg := r_fg.step hs
      replace r_fh := r_fh.step hs
      replace r_fe := r_fe.step hs
      replace r_ff := r_ff.step hs
      replace r_u := r_u.step hs
      replace r_v := r_v.step hs
      refine nxS hz (hp.kc 2 rfl kp_nil) ?_
      have hz := Stp.refl I_f9 w_fl
      obtain rfl := Option.some.inj q_bp
      have hp := hp.perm [2, 3, 4, 5, 6, 1, 0] (by decide)
      replace r_3s := r_3s.step ha
      replace r_3t := r_3t.step ha
      replace r_6h := r_6h.step ha
      replace r_6i := r_6i.step ha
      replace r_bi := r_bi.step ha
      replace r_bj := r_bj.step ha
      replace r_bk := r_bk.step ha
      replace r_bl := r_bl.step ha
      replace r_bm := r_bm.step ha
      replace r_bn := r_bn.step ha
      replace tb := tb.step ha
      exact ⟨(x_f5.Num.Neg, x_f5.Num.Mag, x_f5.Den.Neg, x_f5.Den.Mag, x_f6.Num.Neg, x_f6.Num.Mag, x_f6.Den.Neg, x_f6.Den.Mag, g_ev, v_fa, v_fb, g_fi, v_fc, v_fd, I_f9), (.c rfl (.c rfl (.c rfl (.c rfl (.c rfl (.c rfl (.c rfl (.c rfl .n)))))))), rfl, hp, r_u, r_v, r_3s, r_3t, r_6h, r_6i, r_bi, r_bj, r_bk, r_bl, r_bm, r_bn, r_fe, r_ff, r_fg, r_fh, tb⟩
     refine ⟨?_, trivial⟩
     refine ev_alloc hp rfl T31 ?_
     intro g_fm w_fn hp hs
     replace hz := hz.trans hs
     replace ha := ha.trans hs
     replace r_bw := r_bw.step hs
     replace r_bx := r_bx.step hs
     replace r_f3 := r_f3.step hs
     replace r_f4 := r_f4.step hs
     refine nxS hz (hp.kc 2 rfl kp_nil) ?_
     have hz := Stp.refl I_f0 w_fn
     refine ⟨?_, trivial⟩
     obtain ⟨⟨x_fo, x_fp⟩, q_fq, q_bp⟩ := bind_some q_bp
     replace r_u := r_u.step ha
     replace r_v := r_v.step ha
     refine ev_call rfl rfl C12 (((rotation_Turn_ok n) _ _  x_bq v_bu r_bw v_bv r_bx x_ex v_f1 r_f3 v_f2 r_f4 (Rational.mk (Int_2.mk x_o.Num.Neg x_o.Num.Mag) (Int_2.mk x_o.Den.Neg x_o.Den.Mag)) v_s r_u v_t r_v hp.imm _ q_fq).mono ?_)
     rintro _ w_fr ⟨I_fs, v_ft, v_fu, v_fv, v_fw, hv, hq, r_fx, r_fy, r_fz, r_g0⟩
     replace hv := hv.symm
     subst hv
     have hs := hq.st
     have hp := hp.join0 hq
     replace hz := hz.trans hs
     replace ha := ha.trans hs
     replace r_u := r_u.step hs
     replace r_v := r_v.step hs
     refine nxS hz (hp.kc 2 rfl kp_nil) ?_
     have hz := Stp.refl I_fs w_fr
     refine ⟨SK.same (by kernel_rfl), ?_⟩
     refine ⟨SK.same (by kernel_rfl), ?_⟩
     refine ⟨SK.same (by kernel_rfl), ?_⟩
     refine ⟨?_, trivial⟩
     refine ev_storeA hp (i := 1) (off := 0) (vs := [(.bool x_fo.Num.Neg), v_ft, (.bool x_fo.Den.Neg), v_fu]) rfl rfl rfl rfl T31 rfl (lbe rfl) (on2 r_fx.one (on2 r_fy.one ones_nil)) ?_
     intro w_g1 hp hs
     replace hz := hz.trans hs
     replace ha := ha.trans hs
     replace r_fz := r_fz.step hs
     replace r_g0 := r_g0.step hs
     replace r_fx := r_fx.step hs
     replace r_fy := r_fy.step hs
     replace r_u := r_u.step hs
     replace r_v := r_v.step hs
     refine nxS hz (hp.kc 2 rfl kp_nil) ?_
     have hz := Stp.refl I_fs w_g1
     refine ⟨?_, trivial⟩
     refine ev_storeA hp (i := 0) (off := 0) (vs := [(.bool x_fp.Num.Neg), v_fv, (.bool x_fp.Den.Neg), v_fw]) rfl rfl rfl rfl T31 rfl (lbe rfl) (on2 r_fz.one (on2 r_g0.one ones_nil)) ?_
     intro w_g2 hp hs
     replace hz := hz.trans hs
     replace ha := ha.trans hs
     replace r_fz := r_fz.step hs
     replace r_g0 := r_g0.step hs
     replace r_fx := r_fx.step hs
     replace r_fy := r_fy.step hs
     replace r_u := r_u.step hs
     replace r_v := r_v.step hs
     refine nxS hz (hp.kc 2 rfl kp_nil) ?_
     have hz := Stp.refl I_fs w_g2
     obtain rfl := Option.some.inj q_bp
     have hp := hp.perm [2, 3, 4, 5, 6, 1, 0] (by decide)
     replace r_3s := r_3s.step ha
     replace r_3t := r_3t.step ha
     replace r_6h := r_6h.step ha
     replace r_6i := r_6i.step ha
     replace r_bi := r_bi.step ha
     replace r_bj := r_bj.step ha
     replace r_bk := r_bk.step ha
     replace r_bl := r_bl.step ha
     replace r_bm := r_bm.step ha
     replace r_bn := r_bn.step ha
     replace tb := tb.step ha
     exact ⟨(x_fo.Num.Neg, x_fo.Num.Mag, x_fo.Den.Neg, x_fo.Den.Mag, x_fp.Num.Neg, x_fp.Num.Mag, x_fp.Den.Neg, x_fp.Den.Mag, g_ev, v_ft, v_fu, g_fm, v_fv, v_fw, I_fs), (.c rfl (.c rfl (.c rfl (.c rfl (.c rfl (.c rfl (.c rfl (.c rfl .n)))))))), rfl, hp, r_u, r_v, r_3s, r_3t, r_6h, r_6i, r_bi, r_bj, r_bk, r_bl, r_bm, r_bn, r_fx, r_fy, r_fz, r_g0, tb⟩
    refine ⟨?_, trivial⟩
    refine ev_alloc hp rfl T31 ?_
    intro g_g3 w_g4 hp hs
    replace hz := hz.trans hs
    replace ha := ha.trans hs
    replace r_bw := r_bw.step hs
    replace r_bx := r_bx.step hs
    refine nxS hz (hp.kc 2 rfl kp_nil) ?_
    have hz := Stp.refl I_bt w_g4
    refine ⟨?_, trivial⟩
    obtain ⟨x_g5, q_g6, q_bp⟩ := bind_some q_bp
    refine ev_call rfl rfl C8 (((rational_Of_ok n) _ _  x_l 1 hp.imm _ q_g6).mono ?_)
    rintro _ w_g7 ⟨I_g8, v_g9, v_ga, hv, hq, r_gb, r_gc⟩
    replace hv := hv.symm
    subst hv
    have hs := hq.st
    have hp := hp.join0 hq
    replace hz := hz.trans hs
    replace ha := ha.trans hs
    replace r_bw := r_bw.step hs
    replace r_bx := r_bx.step hs
    refine nxS hz (hp.kc 2 rfl kp_nil) ?_
    have hz := Stp.refl I_g8 w_g7
    refine ⟨?_, trivial⟩
    obtain ⟨⟨x_gd, x_ge⟩, q_gf, q_bp⟩ := bind_some q_bp
    replace r_u := r_u.step ha
    replace r_v := r_v.step ha
    refine ev_call rfl rfl C12 (((rotation_Turn_ok n) _ _  x_bq v_bu r_bw v_bv r_bx x_g5 v_g9 r_gb v_ga r_gc (Rational.mk (Int_2.mk x_o.Num.Neg x_o.Num.Mag) (Int_2.mk x_o.Den.Neg x_o.Den.Mag)) v_s r_u v_t r_v hp.imm _ q_gf).mono ?_)
    rintro _ w_gg ⟨I_gh, v_gi, v_gj, v_gk, v_gl, hv, hq, r_gm, r_gn, r_go, r_gp⟩
    replace hv := hv.symm
    subst hv
    have hs := hq.st
    have hp := hp.join0 hq
    replace hz := hz.trans hs
    replace ha := ha.trans hs
    replace r_u := r_u.step hs
    replace r_v := r_v.step hs
    refine nxS hz (hp.kc 2 rfl kp_nil) ?_
    have hz := Stp.refl I_gh w_gg
    refine ⟨SK.same (by kernel_rfl), ?_⟩
    refine ⟨SK.same (by kernel_rfl), ?_⟩
    refine ⟨SK.same (by kernel_rfl), ?_⟩
    refine ⟨?_, trivial⟩
    refine ev_storeA hp (i := 1) (off := 0) (vs := [(.bool x_gd.Num.Neg), v_gi, (.bool x_gd.Den.Neg), v_gj]) rfl rfl rfl rfl T31 rfl (lbe rfl) (on2 r_gm.one (on2 r_gn.one ones_nil)) ?_
    intro w_gq hp hs
    replace hz := hz.trans hs
    replace ha := ha.trans hs
    replace r_go := r_go.step hs
    replace r_gp := r_gp.step hs
    replace r_gm := r_gm.step hs
    replace r_gn := r_gn.step hs
    replace r_u := r_u.step hs
    replace r_v := r_v.step hs
    refine nxS hz (hp.kc 2 rfl kp_nil) ?_
    have hz := Stp.refl I_gh w_gq
    refine ⟨?_, trivial⟩
    refine ev_storeA hp (i := 0) (off := 0) (vs := [(.bool x_ge.Num.Neg), v_gk, (.bool x_ge.Den.Neg), v_gl]) rfl rfl rfl rfl T31 rfl (lbe rfl) (on2 r_go.one (on2 r_gp.one ones_nil)) ?_
    intro w_gr hp hs
    replace hz := hz.trans hs
    replace ha := ha.trans hs
    replace r_go := r_go.step hs
    replace r_gp := r_gp.step hs
    replace r_gm := r_gm.step hs
    replace r_gn := r_gn.step hs
    replace r_u := r_u.step hs
    replace r_v := r_v.step hs
    refine nxS hz (hp.kc 2 rfl kp_nil) ?_
    have hz := Stp.refl I_gh w_gr
    obtain rfl := Option.some.inj q_bp
    have hp := hp.perm [2, 3, 4, 5, 6, 1, 0] (by decide)
    replace r_3s := r_3s.step ha
    replace r_3t := r_3t.step ha
    replace r_6h := r_6h.step ha
    replace r_6i := r_6i.step ha
    replace r_bi := r_bi.step ha
    replace r_bj := r_bj.step ha
    replace r_bk := r_bk.step ha
    replace r_bl := r_bl.step ha
    replace r_bm := r_bm.step ha
    replace r_bn := r_bn.step ha
    replace tb := tb.step ha
    exact ⟨(x_gd.Num.Neg, x_gd.Num.Mag, x_gd.Den.Neg, x_gd.Den.Mag, x_ge.Num.Neg, x_ge.Num.Mag, x_ge.Den.Neg, x_ge.Den.Mag, g_ev, v_gi, v_gj, g_g3, v_gk, v_gl, I_gh), (.c rfl (.c rfl (.c rfl (.c rfl (.c rfl (.c rfl (.c rfl (.c rfl .n)))))))), rfl, hp, r_u, r_v, r_3s, r_3t, r_6h, r_6i, r_bi, r_bj, r_bk, r_bl, r_bm, r_bn, r_gm, r_gn, r_go, r_gp, tb⟩
   refine ⟨?_, trivial⟩
   refine ev_alloc hp rfl T31 ?_
   intro g_gs w_gt hp hs
   replace hz := hz.trans hs
   replace ha := ha.trans hs
   replace r_bw := r_bw.step hs
   replace r_bx := r_bx.step hs
   refine nxS hz (hp.kc 1 rfl kp_nil) ?_
   have hz := Stp.refl I_bt w_gt
   refine ⟨?_, ?_⟩
   ·
    obtain ⟨x_gu, q_gv, q_bp⟩ := bind_some q_bp
    refine ev_call rfl rfl C8 (((rational_Of_ok n) _ _  x_l 1 hp.imm _ q_gv).mono ?_)
    rintro _ w_gw ⟨I_gx, v_gy, v_gz, hv, hq, r_h0, r_h1⟩
    replace hv := hv.symm
    subst hv
    have hs := hq.st
    have hp := hp.join0 hq
    replace hz := hz.trans hs
    replace ha := ha.trans hs
    replace r_bw := r_bw.step hs
    replace r_bx := r_bx.step hs
    refine nxS hz (hp.kc 1 rfl kp_nil) ?_
    have hz := Stp.refl I_gx w_gw
    refine ⟨?_, ?_⟩
    ·
     obtain ⟨⟨x_h2, x_h3⟩, q_h4, q_bp⟩ := bind_some q_bp
     replace r_u := r_u.step ha
     replace r_v := r_v.step ha
     refine ev_call rfl rfl C12 (((rotation_Turn_ok n) _ _  x_bq v_bu r_bw v_bv r_bx x_gu v_gy r_h0 v_gz r_h1 (Rational.mk (Int_2.mk x_o.Num.Neg x_o.Num.Mag) (Int_2.mk x_o.Den.Neg x_o.Den.Mag)) v_s r_u v_t r_v hp.imm _ q_h4).mono ?_)
     rintro _ w_h5 ⟨I_h6, v_h7, v_h8, v_h9, v_ha, hv, hq, r_hb, r_hc, r_hd, r_he⟩
     replace hv := hv.symm
     subst hv
     have hs := hq.st
     have hp := hp.join0 hq
     replace hz := hz.trans hs
     replace ha := ha.trans hs
     replace r_u := r_u.step hs
     replace r_v := r_v.step hs
     refine nxS hz (hp.kc 1 rfl kp_nil) ?_
     have hz := Stp.refl I_h6 w_h5
     refine ⟨SK.same (by kernel_rfl), ?_⟩
     refine ⟨SK.same (by kernel_rfl), ?_⟩
     refine ⟨SK.same (by kernel_rfl), ?_⟩
     refine ⟨?_, trivial⟩
     refine ev_alloc hp rfl T31 ?_
     intro g_hf w_hg hp hs
     replace hz := hz.trans hs
     replace ha := ha.trans hs
     replace r_hb := r_hb.step hs
     replace r_hc := r_hc.step hs
     replace r_hd := r_hd.step hs
     replace r_he := r_he.step hs
     replace r_u := r_u.step hs
     replace r_v := r_v.step hs
     refine nxS hz (hp.kc 2 rfl kp_nil) ?_
     have hz := Stp.refl I_h6 w_hg
     refine ⟨?_, trivial⟩
     refine ev_storeA hp (i := 0) (off := 0) (vs := [(.bool x_h2.Num.Neg), v_h7, (.bool x_h2.Den.Neg), v_h8]) rfl rfl rfl rfl T31 rfl (lbe rfl) (on2 r_hb.one (on2 r_hc.one ones_nil)) ?_
     intro w_hh hp hs
     replace hz := hz.trans hs
     replace ha := ha.trans hs
     replace r_hd := r_hd.step hs
     replace r_he := r_he.step hs
     replace r_hb := r_hb.step hs
     replace r_hc := r_hc.step hs
     replace r_u := r_u.step hs
     replace r_v := r_v.step hs
     refine nxS hz (hp.kc 2 rfl kp_nil) ?_
     have hz := Stp.refl I_h6 w_hh
     refine ⟨?_, trivial⟩
     refine ev_storeA hp (i := 1) (off := 0) (vs := [(.bool x_h3.Num.Neg), v_h9, (.bool x_h3.Den.Neg), v_ha]) rfl rfl rfl rfl T31 rfl (lbe rfl) (on2 r_hd.one (on2 r_he.one ones_nil)) ?_
     intro w_hi hp hs
     replace hz := hz.trans hs
     replace ha := ha.trans hs
     replace r_hb := r_hb.step hs
     replace r_hc := r_hc.step hs
     replace r_hd := r_hd.step hs
     replace r_he := r_he.step hs
     replace r_u := r_u.step hs
     replace r_v := r_v.step hs
     refine nxS hz (hp.kc 2 rfl kp_nil) ?_
     have hz := Stp.refl I_h6 w_hi
     obtain rfl := Option.some.inj q_bp
     have hp := hp.perm [2, 3, 4, 5, 6, 0, 1] (by decide)
     replace r_3s := r_3s.step ha
     replace r_3t := r_3t.step ha
     replace r_6h := r_6h.step ha
     replace r_6i := r_6i.step ha
     replace r_bi := r_bi.step ha
     replace r_bj := r_bj.step ha
     replace r_bk := r_bk.step ha
     replace r_bl := r_bl.step ha
     replace r_bm := r_bm.step ha
     replace r_bn := r_bn.step ha
     replace tb := tb.step ha
     exact ⟨(x_h2.Num.Neg, x_h2.Num.Mag, x_h2.Den.Neg, x_h2.Den.Mag, x_h3.Num.Neg, x_h3.Num.Mag, x_h3.Den.Neg, x_h3.Den.Mag, g_hf, v_h7, v_h8, g_gs, v_h9, v_ha, I_h6), (.c rfl (.c rfl (.c rfl (.c rfl (.c rfl (.c rfl (.c rfl (.c rfl .n)))))))), rfl, hp, r_u, r_v, r_3s, r_3t, r_6h, r_6i, r_bi, r_bj, r_bk, r_bl, r_bm, r_bn, r_hb, r_hc, r_hd, r_he, tb⟩
    refine ⟨?_, trivial⟩
    refine ev_alloc hp rfl T31 ?_
    intro g_hj w_hk hp hs
    replace hz := hz.trans hs
    replace ha := ha.trans hs
    replace r_bw := r_bw.step hs
    replace r_bx := r_bx.step hs
    replace r_h0 := r_h0.step hs
    replace r_h1 := r_h1.step hs
    refine nxS hz (hp.kc 2 rfl kp_nil) ?_
    have hz := Stp.refl I_gx w_hk
    refine ⟨?_, trivial⟩
    obtain ⟨⟨x_hl, x_hm⟩, q_hn, q_bp⟩ := bind_some q_bp
    replace r_u := r_u.step ha
    replace r_v := r_v.step ha
    refine ev_call rfl rfl C12 (((rotation_Turn_ok n) _ _  x_bq v_bu r_bw v_bv r_bx x_gu v_gy r_h0 v_gz r_h1 (Rational.mk (Int_2.mk x_o.Num.Neg x_o.Num.Mag) (Int_2.mk x_o.Den.Neg x_o.Den.Mag)) v_s r_u v_t r_v hp.imm _ q_hn).mono ?_)
    rintro _ w_ho ⟨I_hp, v_hq, v_hr, v_hs, v_ht, hv, hq, r_hu, r_hv, r_hw, r_hx⟩
    replace hv := hv.symm
    subst hv
    have hs := hq.st
    have hp := hp.join0 hq
    replace hz := hz.trans hs
    replace ha := ha.trans hs
    replace r_u := r_u.step hs
    replace r_v := r_v.step hs
    refine nxS hz (hp.kc 2 rfl kp_nil) ?_
    have hz := Stp.refl I_hp w_ho
    refine ⟨SK.same (by kernel_rfl), ?_⟩
    refine ⟨SK.same (by kernel_rfl), ?_⟩
    refine ⟨SK.same (by kernel_rfl), ?_⟩
    refine ⟨?_, trivial⟩
    refine ev_storeA hp (i := 0) (off := 0) (vs := [(.bool x_hl.Num.Neg), v_hq, (.bool x_hl.Den.Neg), v_hr]) rfl rfl rfl rfl T31 rfl (lbe rfl) (on2 r_hu.one (on2 r_hv.one ones_nil)) ?_
    intro w_hy hp hs
    replace hz := hz.trans hs
    replace ha := ha.trans hs
    replace r_hw := r_hw.step hs
    replace r_hx := r_hx.step hs
    replace r_hu := r_hu.step hs
    replace r_hv := r_hv.step hs
    replace r_u := r_u.step hs
    replace r_v := r_v.step hs
    refine nxS hz (hp.kc 2 rfl kp_nil) ?_
    have hz := Stp.refl I_hp w_hy
    refine ⟨?_, trivial⟩
    refine ev_storeA hp (i := 1) (off := 0) (vs := [(.bool x_hm.Num.Neg), v_hs, (.bool x_hm.Den.Neg), v_ht]) rfl rfl rfl rfl T31 rfl (lbe rfl) (on2 r_hw.one (on2 r_hx.one ones_nil)) ?_
    intro w_hz hp hs
    replace hz := hz.trans hs
    replace ha := ha.trans hs
    replace r_hu := r_hu.step hs
    replace r_hv := r_hv.step hs
    replace r_hw := r_hw.step hs
    replace r_hx := r_hx.step hs
    replace r_u := r_u.step hs
    replace r_v := r_v.step hs
    refine nxS hz (hp.kc 2 rfl kp_nil) ?_
    have hz := Stp.refl I_hp w_hz
    obtain rfl := Option.some.inj q_bp
    have hp := hp.perm [2, 3, 4, 5, 6, 0, 1] (by decide)
    replace r_3s := r_3s.step ha
    replace r_3t := r_3t.step ha
    replace r_6h := r_6h.step ha
    replace r_6i := r_6i.step ha
    replace r_bi := r_bi.step ha
    replace r_bj := r_bj.step ha
    replace r_bk := r_bk.step ha
    replace r_bl := r_bl.step ha
    replace r_bm := r_bm.step ha
    replace r_bn := r_bn.step ha
    replace tb := tb.step ha
    exact ⟨(x_hl.Num.Neg, x_hl.Num.Mag, x_hl.Den.Neg, x_hl.Den.Mag, x_hm.Num.Neg, x_hm.Num.Mag, x_hm.Den.Neg, x_hm.Den.Mag, g_hj, v_hq, v_hr, g_gs, v_hs, v_ht, I_hp), (.c rfl (.c rfl (.c rfl (.c rfl (.c rfl (.c rfl (.c rfl (.c rfl .n)))))))), rfl, hp, r_u, r_v, r_3s, r_3t, r_6h, r_6i, r_bi, r_bj, r_bk, r_bl, r_bm, r_bn, r_hu, r_hv, r_hw, r_hx, tb⟩
   refine ⟨?_, trivial⟩
   refine ev_alloc hp rfl T31 ?_
   intro g_i0 w_i1 hp hs
   replace hz := hz.trans hs
   replace ha := ha.trans hs
   replace r_bw := r_bw.step hs
   replace r_bx := r_bx.step hs
   refine nxS hz (hp.kc 2 rfl kp_nil) ?_
   have hz := Stp.refl I_bt w_i1
   refine ⟨?_, trivial⟩
   obtain ⟨x_i2, q_i3, q_bp⟩ := bind_some q_bp
   refine ev_call rfl rfl C8 (((rational_Of_ok n) _ _  x_l 1 hp.imm _ q_i3).mono ?_)
   rintro _ w_i4 ⟨I_i5, v_i6, v_i7, hv, hq, r_i8, r_i9⟩
   replace hv := hv.symm
   subst hv
   have hs := hq.st
   have hp := hp.join0 hq
   replace hz := hz.trans hs
   replace ha := ha.trans hs
   replace r_bw := r_bw.step hs
   replace r_bx := r_bx.step hs
   refine nxS hz (hp.kc 2 rfl kp_nil) ?_
   have hz := Stp.refl I_i5 w_i4
   refine ⟨?_, trivial⟩
   obtain ⟨⟨x_ia, x_ib⟩, q_ic, q_bp⟩ := bind_some q_bp
   replace r_u := r_u.step ha
   replace r_v := r_v.step ha
   refine ev_call rfl rfl C12 (((rotation_Turn_ok n) _ _  x_bq v_bu r_bw v_bv r_bx x_i2 v_i6 r_i8 v_i7 r_i9 (Rational.mk (Int_2.mk x_o.Num.Neg x_o.Num.Mag) (Int_2.mk x_o.Den.Neg x_o.Den.Mag)) v_s r_u v_t r_v hp.imm _ q_ic).mono ?_)
   rintro _ w_id ⟨I_ie, v_if, v_ig, v_ih, v_ii, hv, hq, r_ij, r_ik, r_il, r_im⟩
   replace hv := hv.symm
   subst hv
   have hs := hq.st
   have hp := hp.join0 hq
   replace hz := hz.trans hs
   replace ha := ha.trans hs
   replace r_u := r_u.step hs
   replace r_v := r_v.step hs
   refine nxS hz (hp.kc 2 rfl kp_nil) ?_
   have hz := Stp.refl I_ie w_id
   refine ⟨SK.same (by kernel_rfl), ?_⟩
   refine ⟨SK.same (by kernel_rfl), ?_⟩
   refine ⟨SK.same (by kernel_rfl), ?_⟩
   refine ⟨?_, trivial⟩
   refine ev_storeA hp (i := 0) (off := 0) (vs := [(.bool x_ia.Num.Neg), v_if, (.bool x_ia.Den.Neg), v_ig]) rfl rfl rfl rfl T31 rfl (lbe rfl) (on2 r_ij.one (on2 r_ik.one ones_nil)) ?_
   intro w_in hp hs
   replace hz := hz.trans hs
   replace ha := ha.trans hs
   replace r_il := r_il.step hs
   replace r_im := r_im.step hs
   replace r_ij := r_ij.step hs
   replace r_ik := r_ik.step hs
   replace r_u := r_u.step hs
   replace r_v := r_v.step hs
   refine nxS hz (hp.kc 2 rfl kp_nil) ?_
   have hz := Stp.refl I_ie w_in
   refine ⟨?_, trivial⟩
   refine ev_storeA hp (i := 1) (off := 0) (vs := [(.bool x_ib.Num.Neg), v_ih, (.bool x_ib.Den.Neg), v_ii]) rfl rfl rfl rfl T31 rfl (lbe rfl) (on2 r_il.one (on2 r_im.one ones_nil)) ?_
   intro w_io hp hs
   replace hz := hz.trans hs
   replace ha := ha.trans hs
   replace r_ij := r_ij.step hs
   replace r_ik := r_ik.step hs
   replace r_il := r_il.step hs
   replace r_im := r_im.step hs
   replace r_u := r_u.step hs
   replace r_v := r_v.step hs
   refine nxS hz (hp.kc 2 rfl kp_nil) ?_
   have hz := Stp.refl I_ie w_io
   obtain rfl := Option.some.inj q_bp
   have hp := hp.perm [2, 3, 4, 5, 6, 0, 1] (by decide)
   replace r_3s := r_3s.step ha
   replace r_3t := r_3t.step ha
   replace r_6h := r_6h.step ha
   replace r_6i := r_6i.step ha
   replace r_bi := r_bi.step ha
   replace r_bj := r_bj.step ha
   replace r_bk := r_bk.step ha
   replace r_bl := r_bl.step ha
   replace r_bm := r_bm.step ha
   replace r_bn := r_bn.step ha
   replace tb := tb.step ha
   exact ⟨(x_ia.Num.Neg, x_ia.Num.Mag, x_ia.Den.Neg, x_ia.Den.Mag, x_ib.Num.Neg, x_ib.Num.Mag, x_ib.Den.Neg, x_ib.Den.Mag, g_i0, v_if, v_ig, g_gs, v_ih, v_ii, I_ie), (.c rfl (.c rfl (.c rfl (.c rfl (.c rfl (.c rfl (.c rfl (.c rfl .n)))))))), rfl, hp, r_u, r_v, r_3s, r_3t, r_6h, r_6i, r_bi, r_bj, r_bk, r_bl, r_bm, r_bn, r_ij, r_ik, r_il, r_im, tb⟩
  refine ⟨?_, ?_⟩
  ·
   refine ev_alloc hp rfl T31 ?_
   intro g_ip w_iq hp hs
   replace hz := hz.trans hs
   replace ha := ha.trans hs
   refine nxS hz (hp.kc 1 rfl kp_nil) ?_
   have hz := Stp.refl I_bg w_iq
   refine ⟨?_, ?_⟩
   ·
    obtain ⟨x_ir, q_is, q_bp⟩ := bind_some q_bp
    refine ev_call rfl rfl C11 (((rotation_Mark_ok n) _ _  x_i hp.imm _ q_is).mono ?_)
    rintro _ w_it ⟨I_iu, v_iv, v_iw, hv, hq, r_ix, r_iy⟩
    replace hv := hv.symm
    subst hv
    have hs := hq.st
    have hp := hp.join0 hq
    replace hz := hz.trans hs
    replace ha := ha.trans hs
    refine nxS hz (hp.kc 1 rfl kp_nil) ?_
    have hz := Stp.refl I_iu w_it
    refine ⟨?_, ?_⟩
    ·
     obtain ⟨x_iz, q_j0, q_bp⟩ := bind_some q_bp
     refine ev_call rfl rfl C8 (((rational_Of_ok n) _ _  x_l 1 hp.imm _ q_j0).mono ?_)
     rintro _ w_j1 ⟨I_j2, v_j3, v_j4, hv, hq, r_j5, r_j6⟩
     replace hv := hv.symm
     subst hv
     have hs := hq.st
     have hp := hp.join0 hq
     replace hz := hz.trans hs
     replace ha := ha.trans hs
     replace r_ix := r_ix.step hs
     replace r_iy := r_iy.step hs
     refine nxS hz (hp.kc 1 rfl kp_nil) ?_
     have hz := Stp.refl I_j2 w_j1
     refine ⟨?_, ?_⟩
     ·
      obtain ⟨⟨x_j7, x_j8⟩, q_j9, q_bp⟩ := bind_some q_bp
      replace r_u := r_u.step ha
      replace r_v := r_v.step ha
      refine ev_call rfl rfl C12 (((rotation_Turn_ok n) _ _  x_ir v_iv r_ix v_iw r_iy x_iz v_j3 r_j5 v_j4 r_j6 (Rational.mk (Int_2.mk x_o.Num.Neg x_o.Num.Mag) (Int_2.mk x_o.Den.Neg x_o.Den.Mag)) v_s r_u v_t r_v hp.imm _ q_j9).mono ?_)
      rintro _ w_ja ⟨I_jb, v_jc, v_jd, v_je, v_jf, hv, hq, r_jg, r_jh, r_ji, r_jj⟩
      replace hv := hv.symm
      subst hv
      have hs := hq.st
      have hp := hp.join0 hq
      replace hz := hz.trans hs
      replace ha := ha.trans hs
      replace r_u := r_u.step hs
      replace r_v := r_v.step hs
      refine nxS hz (hp.kc 1 rfl kp_nil) ?_
      have hz := Stp.refl I_jb w_ja
      refine ⟨SK.same (by kernel_rfl), ?_⟩
      refine ⟨SK.same (by kernel_rfl), ?_⟩
      refine ⟨SK.same (by kernel_rfl), ?_⟩
      refine ⟨?_, trivial⟩
      refine ev_alloc hp rfl T31 ?_
      intro g_jk w_jl hp hs
      replace hz := hz.trans hs
      replace ha := ha.trans hs
      replace r_jg := r_jg.step hs
      replace r_jh := r_jh.step hs
      replace r_ji := r_ji.step hs
      replace r_jj := r_jj.step hs
      replace r_u := r_u.step hs
      replace r_v := r_v.step hs
      refine nxS hz (hp.kc 2 rfl kp_nil) ?_
      have hz := Stp.refl I_jb w_jl
      refine ⟨?_, trivial⟩
      refine ev_storeA hp (i := 1) (off := 0) (vs := [(.bool x_j7.Num.Neg), v_jc, (.bool x_j7.Den.Neg), v_jd]) rfl rfl rfl rfl T31 rfl (lbe rfl) (on2 r_jg.one (on2 r_jh.one ones_nil)) ?_
      intro w_jm hp hs
      replace hz := hz.trans hs
      replace ha := ha.trans hs
      replace r_ji := r_ji.step hs
      replace r_jj := r_jj.step hs
      replace r_jg := r_jg.step hs
      replace r_jh := r_jh.step hs
      replace r_u := r_u.step hs
      replace r_v := r_v.step hs
      refine nxS hz (hp.kc 2 rfl kp_nil) ?_
      have hz := Stp.refl I_jb w_jm
      refine ⟨?_, trivial⟩
      refine ev_storeA hp (i := 0) (off := 0) (vs := [(.bool x_j8.Num.Neg), v_je, (.bool x_j8.Den.Neg), v_jf]) rfl rfl rfl rfl T31 rfl (lbe rfl) (on2 r_ji.one (on2 r_jj.one ones_nil)) ?_
      intro w_jn hp hs
      replace hz := hz.trans hs
      replace ha := ha.trans hs
      replace r_ji := r_ji.step hs
      replace r_jj := r_jj.step hs
      replace r_jg := r_jg.step hs
      replace r_jh := r_jh.step hs
      replace r_u := r_u.step hs
      replace r_v := r_v.step hs
      refine nxS hz (hp.kc 2 rfl kp_nil) ?_
      have hz := Stp.refl I_jb w_jn
      obtain rfl := Option.some.inj q_bp
      have hp := hp.perm [2, 3, 4, 5, 6, 1, 0] (by decide)
      replace r_3s := r_3s.step ha
      replace r_3t := r_3t.step ha
      replace r_6h := r_6h.step ha
      replace r_6i := r_6i.step ha
      replace r_bi := r_bi.step ha
      replace r_bj := r_bj.step ha
      replace r_bk := r_bk.step ha
      replace r_bl := r_bl.step ha
      replace r_bm := r_bm.step ha
      replace r_bn := r_bn.step ha
      replace tb := tb.step ha
      exact ⟨(x_j7.Num.Neg, x_j7.Num.Mag, x_j7.Den.Neg, x_j7.Den.Mag, x_j8.Num.Neg, x_j8.Num.Mag, x_j8.Den.Neg, x_j8.Den.Mag, g_ip, v_jc, v_jd, g_jk, v_je, v_jf, I_jb), (.c rfl (.c rfl (.c rfl (.c rfl (.c rfl (.c rfl (.c rfl (.c rfl .n)))))))), rfl, hp, r_u, r_v, r_3s, r_3t, r_6h, r_6i, r_bi, r_bj, r_bk, r_bl, r_bm, r_bn, r_jg, r_jh, r_ji, r_jj, tb⟩
     refine ⟨?_, trivial⟩
     refine ev_alloc hp rfl T31 ?_
     intro g_jo w_jp hp hs
     replace hz := hz.trans hs
     replace ha := ha.trans hs
     replace r_ix := r_ix.step hs
     replace r_iy := r_iy.step hs
     replace r_j5 := r_j5.step hs
     replace r_j6 := r_j6.step hs
     refine nxS hz (hp.kc 2 rfl kp_nil) ?_
     have hz := Stp.refl I_j2 w_jp
     refine ⟨?_, trivial⟩
     obtain ⟨⟨x_jq, x_jr⟩, q_js, q_bp⟩ := bind_some q_bp
     replace r_u := r_u.step ha
     replace r_v := r_v.step ha
     refine ev_call rfl rfl C12 (((rotation_Turn_ok n) _ _  x_ir v_iv r_ix v_iw r_iy x_iz v_j3 r_j5 v_j4 r_j6 (Rational.mk (Int_2.mk x_o.Num.Neg x_o.Num.Mag) (Int_2.mk x_o.Den.Neg x_o.Den.Mag)) v_s r_u v_t r_v hp.imm _ q_js).mono ?_)
     rintro _ w_jt ⟨I_ju, v_jv, v_jw, v_jx, v_jy, hv, hq, r_jz, r_k0, r_k1, r_k2⟩
     replace hv := hv.symm
     subst hv
     have hs := hq.st
     have hp := hp.join0 hq
     replace hz := hz.trans hs
     replace ha := ha.trans hs
     replace r_u := r_u.step hs
     replace r_v := r_v.step hs
     refine nxS hz (hp.kc 2 rfl kp_nil) ?_
     have hz := Stp.refl I_ju w_jt
     refine ⟨SK.same (by kernel_rfl), ?_⟩
     refine ⟨SK.same (by kernel_rfl), ?_⟩
     refine ⟨SK.same (by kernel_rfl), ?_⟩
     refine ⟨?_, trivial⟩
     refine ev_storeA hp (i := 1) (off := 0) (vs := [(.bool x_jq.Num.Neg), v_jv, (.bool x_jq.Den.Neg), v_jw]) rfl rfl rfl rfl T31 rfl (lbe rfl) (on2 r_jz.one (on2 r_k0.one ones_nil)) ?_
     intro w_k3 hp hs
     replace hz := hz.trans hs
     replace ha := ha.trans hs
     replace r_k1 := r_k1.step hs
     replace r_k2 := r_k2.step hs
     replace r_jz := r_jz.step hs
     replace r_k0 := r_k0.step hs
     replace r_u := r_u.step hs
     replace r_v := r_v.step hs
     refine nxS hz (hp.kc 2 rfl kp_nil) ?_
     have hz := Stp.refl I_ju w_k3
     refine ⟨?_, trivial⟩
     refine ev_storeA hp (i := 0) (off := 0) (vs := [(.bool x_jr.Num.Neg), v_jx, (.bool x_jr.Den.Neg), v_jy]) rfl rfl rfl rfl T31 rfl (lbe rfl) (on2 r_k1.one (on2 r_k2.one ones_nil)) ?_
     intro w_k4 hp hs
     replace hz := hz.trans hs
     replace ha := ha.trans hs
     replace r_k1 := r_k1.step hs
     replace r_k2 := r_k2.step hs
     replace r_jz := r_jz.step hs
     replace r_k0 := r_k0.step hs
     replace r_u := r_u.step hs
     replace r_v := r_v.step hs
     refine nxS hz (hp.kc 2 rfl kp_nil) ?_
     have hz := Stp.refl I_ju w_k4
     obtain rfl := Option.some.inj q_bp
     have hp := hp.perm [2, 3, 4, 5, 6, 1, 0] (by decide)
     replace r_3s := r_3s.step ha
     replace r_3t := r_3t.step ha
     replace r_6h := r_6h.step ha
     replace r_6i := r_6i.step ha
     replace r_bi := r_bi.step ha
     replace r_bj := r_bj.step ha
     replace r_bk := r_bk.step ha
     replace r_bl := r_bl.step ha
     replace r_bm := r_bm.step ha
     replace r_bn := r_bn.step ha
     replace tb := tb.step ha
     exact ⟨(x_jq.Num.Neg, x_jq.Num.Mag, x_jq.Den.Neg, x_jq.Den.Mag, x_jr.Num.Neg, x_jr.Num.Mag, x_jr.Den.Neg, x_jr.Den.Mag, g_ip, v_jv, v_jw, g_jo, v_jx, v_jy, I_ju), (.c rfl (.c rfl (.c rfl (.c rfl (.c rfl (.c rfl (.c rfl (.c rfl .n)))))))), rfl, hp, r_u, r_v, r_3s, r_3t, r_6h, r_6i, r_bi, r_bj, r_bk, r_bl, r_bm, r_bn, r_jz, r_k0, r_k1, r_k2, tb⟩
    refine ⟨?_, trivial⟩
    refine ev_alloc hp rfl T31 ?_
    intro g_k5 w_k6 hp hs
    replace hz := hz.trans hs
    replace ha := ha.trans hs
    replace r_ix := r_ix.step hs
    replace r_iy := r_iy.step hs
    refine nxS hz (hp.kc 2 rfl kp_nil) ?_
    have hz := Stp.refl I_iu w_k6
    refine ⟨?_, trivial⟩
    obtain ⟨x_k7, q_k8, q_bp⟩ := bind_some q_bp
    refine ev_call rfl rfl C8 (((rational_Of_ok n) _ _  x_l 1 hp.imm _ q_k8).mono ?_)
    rintro _ w_k9 ⟨I_ka, v_kb, v_kc, hv, hq, r_kd, r_ke⟩
    replace hv := hv.symm
    subst hv
    have hs := hq.st
    have hp := hp.join0 hq
    replace hz := hz.trans hs
    replace ha := ha.trans hs
    replace r_ix := r_ix.step hs
    replace r_iy := r_iy.step hs
    refine nxS hz (hp.kc 2 rfl kp_nil) ?_
    have hz := Stp.refl I_ka w_k9
    refine ⟨?_, trivial⟩
    obtain ⟨⟨x_kf, x_kg⟩, q_kh, q_bp⟩ := bind_some q_bp
    replace r_u := r_u.step ha
    replace r_v := r_v.step ha
    refine ev_call rfl rfl C12 (((rotation_Turn_ok n) _ _  x_ir v_iv r_ix v_iw r_iy x_k7 v_kb r_kd v_kc r_ke (Rational.mk (Int_2.mk x_o.Num.Neg x_o.Num.Mag) (Int_2.mk x_o.Den.Neg x_o.Den.Mag)) v_s r_u v_t r_v hp.imm _ q_kh).mono ?_)
    rintro _ w_ki ⟨I_kj, v_kk, v_kl, v_km, v_kn, hv, hq, r_ko, r_kp, r_kq, r_kr⟩
    replace hv := hv.symm
    subst hv
    have hs := hq.st
    have hp := hp.join0 hq
    replace hz := hz.trans hs
    replace ha := ha.trans hs
    replace r_u := r_u.step hs
    replace r_v := r_v.step hs
    refine nxS hz (hp.kc 2 rfl kp_nil) ?_
    have hz := Stp.refl I_kj w_ki
    refine ⟨SK.same (by kernel_rfl), ?_⟩
    refine ⟨SK.same (by kernel_rfl), ?_⟩
    refine ⟨SK.same (by kernel_rfl), ?_⟩
    refine ⟨?_, trivial⟩
    refine ev_storeA hp (i := 1) (off := 0) (vs := [(.bool x_kf.Num.Neg), v_kk, (.bool x_kf.Den.Neg), v_kl]) rfl rfl rfl rfl T31 rfl (lbe rfl) (on2 r_ko.one (on2 r_kp.one ones_nil)) ?_
    intro w_ks hp hs
    replace hz := hz.trans hs
    replace ha := ha.trans hs
    replace r_kq := r_kq.step hs
    replace r_kr := r_kr.step hs
    replace r_ko := r_ko.step hs
    replace r_kp := r_kp.step hs
    replace r_u := r_u.step hs
    replace r_v := r_v.step hs
    refine nxS hz (hp.kc 2 rfl kp_nil) ?_
    have hz := Stp.refl I_kj w_ks
    refine ⟨?_, trivial⟩
    refine ev_storeA hp (i := 0) (off := 0) (vs := [(.bool x_kg.Num.Neg), v_km, (.bool x_kg.Den.Neg), v_kn]) rfl rfl rfl rfl T31 rfl (lbe rfl) (on2 r_kq.one (on2 r_kr.one ones_nil)) ?_
    intro w_kt hp hs
    replace hz := hz.trans hs
    replace ha := ha.trans hs
    replace r_kq := r_kq.step hs
    replace r_kr := r_kr.step hs
    replace r_ko := r_ko.step hs
    replace r_kp := r_kp.step hs
    replace r_u := r_u.step hs
    replace r_v := r_v.step hs
    refine nxS hz (hp.kc 2 rfl kp_nil) ?_
    have hz := Stp.refl I_kj w_kt
    obtain rfl := Option.some.inj q_bp
    have hp := hp.perm [2, 3, 4, 5, 6, 1, 0] (by decide)
    replace r_3s := r_3s.step ha
    replace r_3t := r_3t.step ha
    replace r_6h := r_6h.step ha
    replace r_6i := r_6i.step ha
    replace r_bi := r_bi.step ha
    replace r_bj := r_bj.step ha
    replace r_bk := r_bk.step ha
    replace r_bl := r_bl.step ha
    replace r_bm := r_bm.step ha
    replace r_bn := r_bn.step ha
    replace tb := tb.step ha
    exact ⟨(x_kf.Num.Neg, x_kf.Num.Mag, x_kf.Den.Neg, x_kf.Den.Mag, x_kg.Num.Neg, x_kg.Num.Mag, x_kg.Den.Neg, x_kg.Den.Mag, g_ip, v_kk, v_kl, g_k5, v_km, v_kn, I_kj), (.c rfl (.c rfl (.c rfl (.c rfl (.c rfl (.c rfl (.c rfl (.c rfl .n)))))))), rfl, hp, r_u, r_v, r_3s, r_3t, r_6h, r_6i, r_bi, r_bj, r_bk, r_bl, r_bm, r_bn, r_ko, r_kp, r_kq, r_kr, tb⟩
   refine ⟨?_, trivial⟩
   refine ev_alloc hp rfl T31 ?_
   intro g_ku w_kv hp hs
   replace hz := hz.trans hs
   replace ha := ha.trans hs
   refine nxS hz (hp.kc 2 rfl kp_nil) ?_
   have hz := Stp.refl I_bg w_kv
   refine ⟨?_, trivial⟩
   obtain ⟨x_kw, q_kx, q_bp⟩ := bind_some q_bp
   refine ev_call rfl rfl C11 (((rotation_Mark_ok n) _ _  x_i hp.imm _ q_kx).mono ?_)
   rintro _ w_ky ⟨I_kz, v_l0, v_l1, hv, hq, r_l2, r_l3⟩
   replace hv := hv.symm
   subst hv
   have hs := hq.st
   have hp := hp.join0 hq
   replace hz := hz.trans hs
   replace ha := ha.trans hs
   refine nxS hz (hp.kc 2 rfl kp_nil) ?_
   have hz := Stp.refl I_kz w_ky
   refine ⟨?_, trivial⟩
   obtain ⟨x_l4, q_l5, q_bp⟩ := bind_some q_bp
   refine ev_call rfl rfl C8 (((rational_Of_ok n) _ _  x_l 1 hp.imm _ q_l5).mono ?_)
   rintro _ w_l6 ⟨I_l7, v_l8, v_l9, hv, hq, r_la, r_lb⟩
   replace hv := hv.symm
   subst hv
   have hs := hq.st
   have hp := hp.join0 hq
   replace hz := hz.trans hs
   replace ha := ha.trans hs
   replace r_l2 := r_l2.step hs
   replace r_l3 := r_l3.step hs
   refine nxS hz (hp.kc 2 rfl kp_nil) ?_
   have hz := Stp.refl I_l7 w_l6
   refine ⟨?_, trivial⟩
   obtain ⟨⟨x_lc, x_ld⟩, q_le, q_bp⟩ := bind_some q_bp
   replace r_u := r_u.step ha
   replace r_v := r_v.step ha
   refine ev_call rfl rfl C12 (((rotation_Turn_ok n) _ _  x_kw v_l0 r_l2 v_l1 r_l3 x_l4 v_l8 r_la v_l9 r_lb (Rational.mk (Int_2.mk x_o.Num.Neg x_o.Num.Mag) (Int_2.mk x_o.Den.Neg x_o.Den.Mag)) v_s r_u v_t r_v hp.imm _ q_le).mono ?_)
   rintro _ w_lf ⟨I_lg, v_lh, v_li, v_lj, v_lk, hv, hq, r_ll, r_lm, r_ln, r_lo⟩
   replace hv := hv.symm
   subst hv
   have hs := hq.st
   have hp := hp.join0 hq
   replace hz := hz.trans hs
   replace ha := ha.trans hs
   replace r_u := r_u.step hs
   replace r_v := r_v.step hs
   refine nxS hz (hp.kc 2 rfl kp_nil) ?_
   have hz := Stp.refl I_lg w_lf
   refine ⟨SK.same (by kernel_rfl), ?_⟩
   refine ⟨SK.same (by kernel_rfl), ?_⟩
   refine ⟨SK.same (by kernel_rfl), ?_⟩
   refine ⟨?_, trivial⟩
   refine ev_storeA hp (i := 1) (off := 0) (vs := [(.bool x_lc.Num.Neg), v_lh, (.bool x_lc.Den.Neg), v_li]) rfl rfl rfl rfl T31 rfl (lbe rfl) (on2 r_ll.one (on2 r_lm.one ones_nil)) ?_
   intro w_lp hp hs
   replace hz := hz.trans hs
   replace ha := ha.trans hs
   replace r_ln := r_ln.step hs
   replace r_lo := r_lo.step hs
   replace r_ll := r_ll.step hs
   replace r_lm := r_lm.step hs
   replace r_u := r_u.step hs
   replace r_v := r_v.step hs
   refine nxS hz (hp.kc 2 rfl kp_nil) ?_
   have hz := Stp.refl I_lg w_lp
   refine ⟨?_, trivial⟩
   refine ev_storeA hp (i := 0) (off := 0) (vs := [(.bool x_ld.Num.Neg), v_lj, (.bool x_ld.Den.Neg), v_lk]) rfl rfl rfl rfl T31 rfl (lbe rfl) (on2 r_ln.one (on2 r_lo.one ones_nil)) ?_
   intro w_lq hp hs
   replace hz := hz.trans hs
   replace ha := ha.trans hs
   replace r_ln := r_ln.step hs
   replace r_lo := r_lo.step hs
   replace r_ll := r_ll.step hs
   replace r_lm := r_lm.step hs
   replace r_u := r_u.step hs
   replace r_v := r_v.step hs
   refine nxS hz (hp.kc 2 rfl kp_nil) ?_
   have hz := Stp.refl I_lg w_lq
   obtain rfl := Option.some.inj q_bp
   have hp := hp.perm [2, 3, 4, 5, 6, 1, 0] (by decide)
   replace r_3s := r_3s.step ha
   replace r_3t := r_3t.step ha
   replace r_6h := r_6h.step ha
   replace r_6i := r_6i.step ha
   replace r_bi := r_bi.step ha
   replace r_bj := r_bj.step ha
   replace r_bk := r_bk.step ha
   replace r_bl := r_bl.step ha
   replace r_bm := r_bm.step ha
   replace r_bn := r_bn.step ha
   replace tb := tb.step ha
   exact ⟨(x_lc.Num.Neg, x_lc.Num.Mag, x_lc.Den.Neg, x_lc.Den.Mag, x_ld.Num.Neg, x_ld.Num.Mag, x_ld.Den.Neg, x_ld.Den.Mag, g_ip, v_lh, v_li, g_ku, v_lj, v_lk, I_lg), (.c rfl (.c rfl (.c rfl (.c rfl (.c rfl (.c rfl (.c rfl (.c rfl .n)))))))), rfl, hp, r_u, r_v, r_3s, r_3t, r_6h, r_6i, r_bi, r_bj, r_bk, r_bl, r_bm, r_bn, r_ll, r_lm, r_ln, r_lo, tb⟩
  refine ⟨?_, trivial⟩
  refine ev_alloc hp rfl T31 ?_
  intro g_lr w_ls hp hs
  replace hz := hz.trans hs
  replace ha := ha.trans hs
  refine nxS hz (hp.kc 1 rfl kp_nil) ?_
  have hz := Stp.refl I_bg w_ls
  refine ⟨?_, ?_⟩
  ·
   obtain ⟨x_lt, q_lu, q_bp⟩ := bind_some q_bp
   refine ev_call rfl rfl C11 (((rotation_Mark_ok n) _ _  x_i hp.imm _ q_lu).mono ?_)
   rintro _ w_lv ⟨I_lw, v_lx, v_ly, hv, hq, r_lz, r_m0⟩
   replace hv := hv.symm
   subst hv
   have hs := hq.st
   have hp := hp.join0 hq
   replace hz := hz.trans hs
   replace ha := ha.trans hs
   refine nxS hz (hp.kc 1 rfl kp_nil) ?_
   have hz := Stp.refl I_lw w_lv
   refine ⟨?_, ?_⟩
   ·
    obtain ⟨x_m1, q_m2, q_bp⟩ := bind_some q_bp
    refine ev_call rfl rfl C8 (((rational_Of_ok n) _ _  x_l 1 hp.imm _ q_m2).mono ?_)
    rintro _ w_m3 ⟨I_m4, v_m5, v_m6, hv, hq, r_m7, r_m8⟩
    replace hv := hv.symm
    subst hv
    have hs := hq.st
    have hp := hp.join0 hq
    replace hz := hz.trans hs
    replace ha := ha.trans hs
    replace r_lz := r_lz.step hs
    replace r_m0 := r_m0.step hs
    refine nxS hz (hp.kc 1 rfl kp_nil) ?_
    have hz := Stp.refl I_m4 w_m3
    refine ⟨?_, ?_⟩
    ·
     obtain ⟨⟨x_m9, x_ma⟩, q_mb, q_bp⟩ := bind_some q_bp
     replace r_u := r_u.step ha
     replace r_v := r_v.step ha
     refine ev_call rfl rfl C12 (((rotation_Turn_ok n) _ _  x_lt v_lx r_lz v_ly r_m0 x_m1 v_m5 r_m7 v_m6 r_m8 (Rational.mk (Int_2.mk x_o.Num.Neg x_o.Num.Mag) (Int_2.mk x_o.Den.Neg x_o.Den.Mag)) v_s r_u v_t r_v hp.imm _ q_mb).mono ?_)
     rintro _ w_mc ⟨I_md, v_me, v_mf, v_mg, v_mh, hv, hq, r_mi, r_mj, r_mk, r_ml⟩
     replace hv := hv.symm
     subst hv
     have hs := hq.st
     have hp := hp.join0 hq
     replace hz := hz.trans hs
     replace ha := ha.trans hs
     replace r_u := r_u.step hs
     replace r_v := r_v.step hs
     refine nxS hz (hp.kc 1 rfl kp_nil) ?_
     have hz := Stp.refl I_md w_mc
     refine ⟨SK.same (by kernel_rfl), ?_⟩
     refine ⟨SK.same (by kernel_rfl), ?_⟩
     refine ⟨SK.same (by kernel_rfl), ?_⟩
     refine ⟨?_, trivial⟩
     refine ev_alloc hp rfl T31 ?_
     intro g_mm w_mn hp hs
     replace hz := hz.trans hs
     replace ha := ha.trans hs
     replace r_mi := r_mi.step hs
     replace r_mj := r_mj.step hs
     replace r_mk := r_mk.step hs
     replace r_ml := r_ml.step hs
     replace r_u := r_u.step hs
     replace r_v := r_v.step hs
     refine nxS hz (hp.kc 2 rfl kp_nil) ?_
     have hz := Stp.refl I_md w_mn
     refine ⟨?_, trivial⟩
     refine ev_storeA hp (i := 0) (off := 0) (vs := [(.bool x_m9.Num.Neg), v_me, (.bool x_m9.Den.Neg), v_mf]) rfl rfl rfl rfl T31 rfl (lbe rfl) (on2 r_mi.one (on2 r_mj.one ones_nil)) ?_
     intro w_mo hp hs
     replace hz := hz.trans hs
     replace ha := ha.trans hs
     replace r_mk := r_mk.step hs
     replace r_ml := r_ml.step hs
     replace r_mi := r_mi.step hs
     replace r_mj := r_mj.step hs
     replace r_u := r_u.step hs
     replace r_v := r_v.step hs
     refine nxS hz (hp.kc 2 rfl kp_nil) ?_
     have hz := Stp.refl I_md w_mo
     refine ⟨?_, trivial⟩
     refine ev_storeA hp (i := 1) (off := 0) (vs := [(.bool x_ma.Num.Neg), v_mg, (.bool x_ma.Den.Neg), v_mh]) rfl rfl rfl rfl T31 rfl (lbe rfl) (on2 r_mk.one (on2 r_ml.one ones_nil)) ?_
     intro w_mp hp hs
     replace hz := hz.trans hs
     replace ha := ha.trans hs
     replace r_mi := r_mi.step hs
     replace r_mj := r_mj.step hs
     replace r_mk := r_mk.step hs
     replace r_ml := r_ml.step hs
     replace r_u := r_u.step hs
     replace r_v := r_v.step hs
     refine nxS hz (hp.kc 2 rfl kp_nil) ?_
     have hz := Stp.refl I_md w_mp
     obtain rfl := Option.some.inj q_bp
     have hp := hp.perm [2, 3, 4, 5, 6, 0, 1] (by decide)
     replace r_3s := r_3s.step ha
     replace r_3t := r_3t.step ha
     replace r_6h := r_6h.step ha
     replace r_6i := r_6i.step ha
     replace r_bi := r_bi.step ha
     replace r_bj := r_bj.step ha
     replace r_bk := r_bk.step ha
     replace r_bl := r_bl.step ha
     replace r_bm := r_bm.step ha
     replace r_bn := r_bn.step ha
     replace tb := tb.step ha
     exact ⟨(x_m9.Num.Neg, x_m9.Num.Mag, x_m9.Den.Neg, x_m9.Den.Mag, x_ma.Num.Neg, x_ma.Num.Mag, x_ma.Den.Neg, x_ma.Den.Mag, g_mm, v_me, v_mf, g_lr, v_mg, v_mh, I_md), (.c rfl (.c rfl (.c rfl (.c rfl (.c rfl (.c rfl (.c rfl (.c rfl .n)))))))), rfl, hp, r_u, r_v, r_3s, r_3t, r_6h, r_6i, r_bi, r_bj, r_bk, r_bl, r_bm, r_bn, r_mi, r_mj, r_mk, r_ml, tb⟩
    refine ⟨?_, trivial⟩
    refine ev_alloc hp rfl T31 ?_
    intro g_mq w_mr hp hs
    replace hz := hz.trans hs
    replace ha := ha.trans hs
    replace r_lz := r_lz.step hs
    replace r_m0 := r_m0.step hs
    replace r_m7 := r_m7.step hs
    replace r_m8 := r_m8.step hs
    refine nxS hz (hp.kc 2 rfl kp_nil) ?_
    have hz := Stp.refl I_m4 w_mr
    refine ⟨?_, trivial⟩
    obtain ⟨⟨x_ms, x_mt⟩, q_mu, q_bp⟩ := bind_some q_bp
    replace r_u := r_u.step ha
    replace r_v := r_v.step ha
    refine ev_call rfl rfl C12 (((rotation_Turn_ok n) _ _  x_lt v_lx r_lz v_ly r_m0 x_m1 v_m5 r_m7 v_m6 r_m8 (Rational.mk (Int_2.mk x_o.Num.Neg x_o.Num.Mag) (Int_2.mk x_o.Den.Neg x_o.Den.Mag)) v_s r_u v_t r_v hp.imm _ q_mu).mono ?_)
    rintro _ w_mv ⟨I_mw, v_mx, v_my, v_mz, v_n0, hv, hq, r_n1, r_n2, r_n3, r_n4⟩
    replace hv := hv.symm
    subst hv
    have hs := hq.st
    have hp := hp.join0 hq
    replace hz := hz.trans hs
    replace ha := ha.trans hs
    replace r_u := r_u.step hs
    replace r_v := r_v.step hs
    refine nxS hz (hp.kc 2 rfl kp_nil) ?_
    have hz := Stp.refl I_mw w_mv
    refine ⟨SK.same (by kernel_rfl), ?_⟩
    refine ⟨SK.same (by kernel_rfl), ?_⟩
    refine ⟨SK.same (by kernel_rfl), ?_⟩
    refine ⟨?_, trivial⟩
    refine ev_storeA hp (i := 0) (off := 0) (vs := [(.bool x_ms.Num.Neg), v_mx, (.bool x_ms.Den.Neg), v_my]) rfl rfl rfl rfl T31 rfl (lbe rfl) (on2 r_n1.one (on2 r_n2.one ones_nil)) ?_
    intro w_n5 hp hs
    replace hz := hz.trans hs
    replace ha := ha.trans hs
    replace r_n3 := r_n3.step hs
    replace r_n4 := r_n4.step hs
    replace r_n1 := r_n1.step hs
    replace r_n2 := r_n2.step hs
    replace r_u := r_u.step hs
    replace r_v := r_v.step hs
    refine nxS hz (hp.kc 2 rfl kp_nil) ?_
    have hz := Stp.refl I_mw w_n5
    refine ⟨?_, trivial⟩
    refine ev_storeA hp (i := 1) (off := 0) (vs := [(.bool x_mt.Num.Neg), v_mz, (.bool x_mt.Den.Neg), v_n0]) rfl rfl rfl rfl T31 rfl (lbe rfl) (on2 r_n3.one (on2 r_n4.one ones_nil)) ?_
    intro w_n6 hp hs
    replace hz := hz.trans hs
    replace ha := ha.trans hs
    replace r_n1 := r_n1.step hs
    replace r_n2 := r_n2.step hs
    replace r_n3 := r_n3.step hs
    replace r_n4 := r_n4.step hs
    replace r_u := r_u.step hs
    replace r_v := r_v.step hs
    refine nxS hz (hp.kc 2 rfl kp_nil) ?_
    have hz := Stp.refl I_mw w_n6
    obtain rfl := Option.some.inj q_bp
    have hp := hp.perm [2, 3, 4, 5, 6, 0, 1] (by decide)
    replace r_3s := r_3s.step ha
    replace r_3t := r_3t.step ha
    replace r_6h := r_6h.step ha
    replace r_6i := r_6i.step ha
    replace r_bi := r_bi.step ha
    replace r_bj := r_bj.step ha
    replace r_bk := r_bk.step ha
    replace r_bl := r_bl.step ha
    replace r_bm := r_bm.step ha
    replace r_bn := r_bn.step ha
    replace tb := tb.step ha
    exact ⟨(x_ms.Num.Neg, x_ms.Num.Mag, x_ms.Den.Neg, x_ms.Den.Mag, x_mt.Num.Neg, x_mt.Num.Mag, x_mt.Den.Neg, x_mt.Den.Mag, g_mq, v_mx, v_my, g_lr, v_mz, v_n0, I_mw), (.c rfl (.c rfl (.c rfl (.c rfl (.c rfl (.c rfl (.c rfl (.c rfl .n)))))))), rfl, hp, r_u, r_v, r_3s, r_3t, r_6h, r_6i, r_bi, r_bj, r_bk, r_bl, r_bm, r_bn, r_n1, r_n2, r_n3, r_n4, tb⟩
   refine ⟨?_, trivial⟩
   refine ev_alloc hp rfl T31 ?_
   intro g_n7 w_n8 hp hs
   replace hz := hz.trans hs
   replace ha := ha.trans hs
   replace r_lz := r_lz.step hs
   replace r_m0 := r_m0.step hs
   refine nxS hz (hp.kc 2 rfl kp_nil) ?_
   have hz := Stp.refl I_lw w_n8
   refine ⟨?_, trivial⟩
   obtain ⟨x_n9, q_na, q_bp⟩ := bind_some q_bp
   refine ev_call rfl rfl C8 (((rational_Of_ok n) _ _  x_l 1 hp.imm _ q_na).mono ?_)
   rintro _ w_nb ⟨I_nc, v_nd, v_ne, hv, hq, r_nf, r_ng⟩
   replace hv := hv.symm
   subst hv
   have hs := hq.st
   have hp := hp.join0 hq
   replace hz := hz.trans hs
   replace ha := ha.trans hs
   replace r_lz := r_lz.step hs
   replace r_m0 := r_m0.step hs
   refine nxS hz (hp.kc 2 rfl kp_nil) ?_
   have hz := Stp.refl I_nc w_nb
   refine ⟨?_, trivial⟩
   obtain ⟨⟨x_nh, x_ni⟩, q_nj, q_bp⟩ := bind_some q_bp
   replace r_u := r_u.step ha
   replace r_v := r_v.step ha
   refine ev_call rfl rfl C12 (((rotation_Turn_ok n) _ _  x_lt v_lx r_lz v_ly r_m0 x_n9 v_nd r_nf v_ne r_ng (Rational.mk (Int_2.mk x_o.Num.Neg x_o.Num.Mag) (Int_2.mk x_o.Den.Neg x_o.Den.Mag)) v_s r_u v_t r_v hp.imm _ q_nj).mono ?_)
   rintro _ w_nk ⟨I_nl, v_nm, v_nn, v_no, v_np, hv, hq, r_nq, r_nr, r_ns, r_nt⟩
   replace hv := hv.symm
   subst hv
   have hs := hq.st
   have hp := hp.join0 hq
   replace hz := hz.trans hs
   replace ha := ha.trans hs
   replace r_u := r_u.step hs
   replace r_v := r_v.step hs
   refine nxS hz (hp.kc 2 rfl kp_nil) ?_
   have hz := Stp.refl I_nl w_nk
   refine ⟨SK.same (by kernel_rfl), ?_⟩
   refine ⟨SK.same (by kernel_rfl), ?_⟩
   refine ⟨SK.same (by kernel_rfl), ?_⟩
   refine ⟨?_, trivial⟩
   refine ev_storeA hp (i := 0) (off := 0) (vs := [(.bool x_nh.Num.Neg), v_nm, (.bool x_nh.Den.Neg), v_nn]) rfl rfl rfl rfl T31 rfl (lbe rfl) (on2 r_nq.one (on2 r_nr.one ones_nil)) ?_
   intro w_nu hp hs
   replace hz := hz.trans hs
   replace ha := ha.trans hs
   replace r_ns := r_ns.step hs
   replace r_nt := r_nt.step hs
   replace r_nq := r_nq.step hs
   replace r_nr := r_nr.step hs
   replace r_u := r_u.step hs
   replace r_v := r_v.step hs
   refine nxS hz (hp.kc 2 rfl kp_nil) ?_
   have hz := Stp.refl I_nl w_nu
   refine ⟨?_, trivial⟩
   refine ev_storeA hp (i := 1) (off := 0) (vs := [(.bool x_ni.Num.Neg), v_no, (.bool x_ni.Den.Neg), v_np]) rfl rfl rfl rfl T31 rfl (lbe rfl) (on2 r_ns.one (on2 r_nt.one ones_nil)) ?_
   intro w_nv hp hs
   replace hz := hz.trans hs
   replace ha := ha.trans hs
   replace r_nq := r_nq.step hs
   replace r_nr := r_nr.step hs
   replace r_ns := r_ns.step hs
   replace r_nt := r_nt.step hs
   replace r_u := r_u.step hs
   replace r_v := r_v.step hs
   refine nxS hz (hp.kc 2 rfl kp_nil) ?_
   have hz := Stp.refl I_nl w_nv
   obtain rfl := Option.some.inj q_bp
   have hp := hp.perm [2, 3, 4, 5, 6, 0, 1] (by decide)
   replace r_3s := r_3s.step ha
   replace r_3t := r_3t.step ha
   replace r_6h := r_6h.step ha
   replace r_6i := r_6i.step ha
   replace r_bi := r_bi.step ha
   replace r_bj := r_bj.step ha
   replace r_bk := r_bk.step ha
   replace r_bl := r_bl.step ha
   replace r_bm := r_bm.step ha
   replace r_bn := r_bn.step ha
   replace tb := tb.step ha
   exact ⟨(x_nh.Num.Neg, x_nh.Num.Mag, x_nh.Den.Neg, x_nh.Den.Mag, x_ni.Num.Neg, x_ni.Num.Mag, x_ni.Den.Neg, x_ni.Den.Mag, g_n7, v_nm, v_nn, g_lr, v_no, v_np, I_nl), (.c rfl (.c rfl (.c rfl (.c rfl (.c rfl (.c rfl (.c rfl (.c rfl .n)))))))), rfl, hp, r_u, r_v, r_3s, r_3t, r_6h, r_6i, r_bi, r_bj, r_bk, r_bl, r_bm, r_bn, r_nq, r_nr, r_ns, r_nt, tb⟩
  refine ⟨?_, trivial⟩
  refine ev_alloc hp rfl T31 ?_
  intro g_nw w_nx hp hs
  replace hz := hz.trans hs
  replace ha := ha.trans hs
  refine nxS hz (hp.kc 2 rfl kp_nil) ?_
  have hz := Stp.refl I_bg w_nx
  refine ⟨?_, trivial⟩
  obtain ⟨x_ny, q_nz, q_bp⟩ := bind_some q_bp
  refine ev_call rfl rfl C11 (((rotation_Mark_ok n) _ _  x_i hp.imm _ q_nz).mono ?_)
  rintro _ w_o0 ⟨I_o1, v_o2, v_o3, hv, hq, r_o4, r_o5⟩
  replace hv := hv.symm
  subst hv
  have hs := hq.st
  have hp := hp.join0 hq
  replace hz := hz.trans hs
  replace ha := ha.trans hs
  refine nxS hz (hp.kc 2 rfl kp_nil) ?_
  have hz := Stp.refl I_o1 w_o0
  refine ⟨?_, trivial⟩
  obtain ⟨x_o6, q_o7, q_bp⟩ := bind_some q_bp
  refine ev_call rfl rfl C8 (((rational_Of_ok n) _ _  x_l 1 hp.imm _ q_o7).mono ?_)
  rintro _ w_o8 ⟨I_o9, v_oa, v_ob, hv, hq, r_oc, r_od⟩
  replace hv := hv.symm
  subst hv
  have hs := hq.st
  have hp := hp.join0 hq
  replace hz := hz.trans hs
  replace ha := ha.trans hs
  replace r_o4 := r_o4.step hs
  replace r_o5 := r_o5.step hs
  refine nxS hz (hp.kc 2 rfl kp_nil) ?_
  have hz := Stp.refl I_o9 w_o8
  refine ⟨?_, trivial⟩
  obtain ⟨⟨x_oe, x_of⟩, q_og, q_bp⟩ := bind_some q_bp
  replace r_u := r_u.step ha
  replace r_v := r_v.step ha
  refine ev_call rfl rfl C12 (((rotation_Turn_ok n) _ _  x_ny v_o2 r_o4 v_o3 r_o5 x_o6 v_oa r_oc v_ob r_od (Rational.mk (Int_2.mk x_o.Num.Neg x_o.Num.Mag) (Int_2.mk x_o.Den.Neg x_o.Den.Mag)) v_s r_u v_t r_v hp.imm _ q_og).mono ?_)
  rintro _ w_oh ⟨I_oi, v_oj, v_ok, v_ol, v_om, hv, hq, r_on, r_oo, r_op, r_oq⟩
  replace hv := hv.symm
  subst hv
  have hs := hq.st
  have hp := hp.join0 hq
  replace hz := hz.trans hs
  replace ha := ha.trans hs
  replace r_u := r_u.step hs
  replace r_v := r_v.step hs
  refine nxS hz (hp.kc 2 rfl kp_nil) ?_
  have hz := Stp.refl I_oi w_oh
  refine ⟨SK.same (by kernel_rfl), ?_⟩
  refine ⟨SK.same (by kernel_rfl), ?_⟩
  refine ⟨SK.same (by kernel_rfl), ?_⟩
  refine ⟨?_, trivial⟩
  refine ev_storeA hp (i := 0) (off := 0) (vs := [(.bool x_oe.Num.Neg), v_oj, (.bool x_oe.Den.Neg), v_ok]) rfl rfl rfl rfl T31 rfl (lbe rfl) (on2 r_on.one (on2 r_oo.one ones_nil)) ?_
  intro w_or hp hs
  replace hz := hz.trans hs
  replace ha := ha.trans hs
  replace r_op := r_op.step hs
  replace r_oq := r_oq.step hs
  replace r_on := r_on.step hs
  replace r_oo := r_oo.step hs
  replace r_u := r_u.step hs
  replace r_v := r_v.step hs
  refine nxS hz (hp.kc 2 rfl kp_nil) ?_
  have hz := Stp.refl I_oi w_or
  refine ⟨?_, trivial⟩
  refine ev_storeA hp (i := 1) (off := 0) (vs := [(.bool x_of.Num.Neg), v_ol, (.bool x_of.Den.Neg), v_om]) rfl rfl rfl rfl T31 rfl (lbe rfl) (on2 r_op.one (on2 r_oq.one ones_nil)) ?_
  intro w_os hp hs
  replace hz := hz.trans hs
  replace ha := ha.trans hs
  replace r_on := r_on.step hs
  replace r_oo := r_oo.step hs
  replace r_op := r_op.step hs
  replace r_oq := r_oq.step hs
  replace r_u := r_u.step hs
  replace r_v := r_v.step hs
  refine nxS hz (hp.kc 2 rfl kp_nil) ?_
  have hz := Stp.refl I_oi w_os
  obtain rfl := Option.some.inj q_bp
  have hp := hp.perm [2, 3, 4, 5, 6, 0, 1] (by decide)
  replace r_3s := r_3s.step ha
  replace r_3t := r_3t.step ha
  replace r_6h := r_6h.step ha
  replace r_6i := r_6i.step ha
  replace r_bi := r_bi.step ha
  replace r_bj := r_bj.step ha
  replace r_bk := r_bk.step ha
  replace r_bl := r_bl.step ha
  replace r_bm := r_bm.step ha
  replace r_bn := r_bn.step ha
  replace tb := tb.step ha
  exact ⟨(x_oe.Num.Neg, x_oe.Num.Mag, x_oe.Den.Neg, x_oe.Den.Mag, x_of.Num.Neg, x_of.Num.Mag, x_of.Den.Neg, x_of.Den.Mag, g_nw, v_oj, v_ok, g_lr, v_ol, v_om, I_oi), (.c rfl (.c rfl (.c rfl (.c rfl (.c rfl (.c rfl (.c rfl (.c rfl .n)))))))), rfl, hp, r_u, r_v, r_3s, r_3t, r_6h, r_6i, r_bi, r_bj, r_bk, r_bl, r_bm, r_bn, r_on, r_oo, r_op, r_oq, tb⟩
 rintro ⟨x_ot, x_ou, x_ov, x_ow, x_ox, x_oy, x_oz, x_p0, g_p1, v_p2, v_p3, g_p4, v_p5, v_p6, I_p7⟩ w_p8 ⟨hy, hp, r_u, r_v, r_3s, r_3t, r_6h, r_6i, r_bi, r_bj, r_bk, r_bl, r_bm, r_bn, r_p9, r_pa, r_pb, r_pc, tb⟩
 replace hy := hy.symm
 subst hy
 apply go
 apply go
 refine ev (rn_load rfl rfl (run_loadVarA T41 rfl (hp.at_ (i := 4) rfl))) ?_
 refine ev (rn_load rfl rfl (run_loadVarA T31 rfl (hp.at_ (i := 5) rfl))) ?_
 refine ev (rn_load rfl rfl (run_loadVarA T31 rfl (hp.at_ (i := 6) rfl))) ?_
 obtain ⟨⟨x_pd, x_pe⟩, q_pf, h⟩ := bind_some h
 refine ev_call rfl rfl C13 (((rotation_Act_ok n) _ _  (Transform.mk (Rot.mk (Int_2.mk x_ax x_ay) (Int_2.mk x_az x_b0)) (Rational.mk (Int_2.mk x_b1 x_b2) (Int_2.mk x_b3 x_b4)) (Rational.mk (Int_2.mk x_b5 x_b6) (Int_2.mk x_b7 x_b8))) v_ba r_bi v_bb r_bj v_bc r_bk v_bd r_bl v_be r_bm v_bf r_bn (Rational.mk (Int_2.mk x_ot x_ou) (Int_2.mk x_ov x_ow)) v_p2 r_p9 v_p3 r_pa (Rational.mk (Int_2.mk x_ox x_oy) (Int_2.mk x_oz x_p0)) v_p5 r_pb v_p6 r_pc hp.imm _ q_pf).mono ?_)
 rintro _ w_pg ⟨I_ph, v_pi, v_pj, v_pk, v_pl, hv, hq, r_pm, r_pn, r_po, r_pp⟩
 replace hv := hv.symm
 subst hv
 have hs := hq.st
 have hp := hp.join0 hq
 replace ha := hs
 refine ev_alloc hp rfl T31 ?_
 intro g_pq w_pr hp hs
 replace ha := ha.trans hs
 replace r_pm := r_pm.step hs
 replace r_pn := r_pn.step hs
 replace r_po := r_po.step hs
 replace r_pp := r_pp.step hs
 refine ev_alloc hp rfl T31 ?_
 intro g_ps w_pt hp hs
 replace ha := ha.trans hs
 replace r_pm := r_pm.step hs
 replace r_pn := r_pn.step hs
 replace r_po := r_po.step hs
 replace r_pp := r_pp.step hs
 refine ev_storeA hp (i := 1) (off := 0) (vs := [(.bool x_pd.Num.Neg), v_pi, (.bool x_pd.Den.Neg), v_pj]) rfl rfl rfl rfl T31 rfl (lbe rfl) (on2 r_pm.one (on2 r_pn.one ones_nil)) ?_
 intro w_pu hp hs
 replace ha := ha.trans hs
 replace r_po := r_po.step hs
 replace r_pp := r_pp.step hs
 replace r_pm := r_pm.step hs
 replace r_pn := r_pn.step hs
 refine ev_storeA hp (i := 0) (off := 0) (vs := [(.bool x_pe.Num.Neg), v_pk, (.bool x_pe.Den.Neg), v_pl]) rfl rfl rfl rfl T31 rfl (lbe rfl) (on2 r_po.one (on2 r_pp.one ones_nil)) ?_
 intro w_pv hp hs
 replace ha := ha.trans hs
 replace r_po := r_po.step hs
 replace r_pp := r_pp.step hs
 replace r_pm := r_pm.step hs
 replace r_pn := r_pn.step hs
 obtain ⟨y_pw, q_px, h⟩ := bind_some h
 refine W.cut (γ := ((List Int) × (List Int) × (List Int) × (List Int) × Bool × (List Int) × Bool × (List Int) × Bool × (List Int) × Bool × (List Int) × Bool × (List Int) × Bool × (List Int) × Value × Value × Value × Value × Nat × Value × Value × Value × Value × Value × Value × (Nat → Prop))) (fun g => [(7, (.pointer (some ⟨g_w, 0, none⟩))), (8, (.pointer (some ⟨g_12, 0, none⟩))), (9, (.pointer (some ⟨g_3n, 0, none⟩))), (10, (.pointer (some ⟨g_6c, 0, none⟩))), (11, (.pointer (some ⟨g_b9, 0, none⟩))), (12, (.pointer (some ⟨g_p1, 0, none⟩))), (13, (.pointer (some ⟨g_p4, 0, none⟩))), (14, (.pointer (some ⟨g_pq, 0, none⟩))), (15, (.pointer (some ⟨g_ps, 0, none⟩))), (16, (.pointer (some ⟨(g.2.2.2.2.2.2.2.2.2.2.2.2.2.2.2.2.2.2.2.2.1), 0, none⟩)))]) (fun g w' => y_pw = ((g.1), (g.2.1), (g.2.2.1), (g.2.2.2.1), (g.2.2.2.2.1), (g.2.2.2.2.2.1), (g.2.2.2.2.2.2.1), (g.2.2.2.2.2.2.2.1), (g.2.2.2.2.2.2.2.2.1), (g.2.2.2.2.2.2.2.2.2.1), (g.2.2.2.2.2.2.2.2.2.2.1), (g.2.2.2.2.2.2.2.2.2.2.2.1), (g.2.2.2.2.2.2.2.2.2.2.2.2.1), (g.2.2.2.2.2.2.2.2.2.2.2.2.2.1), (g.2.2.2.2.2.2.2.2.2.2.2.2.2.2.1), (g.2.2.2.2.2.2.2.2.2.2.2.2.2.2.2.1)) ∧ Hp ⟨w0, I0, []⟩ (g.2.2.2.2.2.2.2.2.2.2.2.2.2.2.2.2.2.2.2.2.2.2.2.2.2.2.2) [some (g_w, [(.bool x_o.Num.Neg), v_s, (.bool x_o.Den.Neg), v_t], 31), some (g_12, [(.int .i64 x_z.X), (.int .i64 x_z.Y), (.int .i64 x_z.D)], 34), some (g_3n, [(.bool x_3j), v_3o, (.bool x_3l), v_3p], 31), some (g_6c, [(.bool x_68), v_6d, (.bool x_6a), v_6e], 31), some (g_b9, [(.bool x_ax), v_ba, (.bool x_az), v_bb, (.bool x_b1), v_bc, (.bool x_b3), v_bd, (.bool x_b5), v_be, (.bool x_b7), v_bf], 41), some (g_p1, [(.bool x_ot), (g.2.2.2.2.2.2.2.2.2.2.2.2.2.2.2.2.1), (.bool x_ov), (g.2.2.2.2.2.2.2.2.2.2.2.2.2.2.2.2.2.1)], 31), some (g_p4, [(.bool x_ox), (g.2.2.2.2.2.2.2.2.2.2.2.2.2.2.2.2.2.2.1), (.bool x_oz), (g.2.2.2.2.2.2.2.2.2.2.2.2.2.2.2.2.2.2.2.1)], 31), some (g_pq, [(.bool x_pd.Num.Neg), v_pi, (.bool x_pd.Den.Neg), v_pj], 31), some (g_ps, [(.bool x_pe.Num.Neg), v_pk, (.bool x_pe.Den.Neg), v_pl], 31), some ((g.2.2.2.2.2.2.2.2.2.2.2.2.2.2.2.2.2.2.2.2.1), [(.bool (g.2.2.2.2.1)), (g.2.2.2.2.2.2.2.2.2.2.2.2.2.2.2.2.2.2.2.2.2.1), (.bool (g.2.2.2.2.2.2.1)), (g.2.2.2.2.2.2.2.2.2.2.2.2.2.2.2.2.2.2.2.2.2.2.1), (.bool (g.2.2.2.2.2.2.2.2.1)), (g.2.2.2.2.2.2.2.2.2.2.2.2.2.2.2.2.2.2.2.2.2.2.2.1), (.bool (g.2.2.2.2.2.2.2.2.2.2.1)), (g.2.2.2.2.2.2.2.2.2.2.2.2.2.2.2.2.2.2.2.2.2.2.2.2.1), (.bool (g.2.2.2.2.2.2.2.2.2.2.2.2.1)), (g.2.2.2.2.2.2.2.2.2.2.2.2.2.2.2.2.2.2.2.2.2.2.2.2.2.1), (.bool (g.2.2.2.2.2.2.2.2.2.2.2.2.2.2.1)), (g.2.2.2.2.2.2.2.2.2.2.2.2.2.2.2.2.2.2.2.2.2.2.2.2.2.2.1)], 41)] w' ∧ RepS (dI .u32) w' (g.2.2.2.2.2.2.2.2.2.2.2.2.2.2.2.2.2.2.2.2.2.2.2.2.2.2.2) v_s x_o.Num.Mag ∧ RepS (dI .u32) w' (g.2.2.2.2.2.2.2.2.2.2.2.2.2.2.2.2.2.2.2.2.2.2.2.2.2.2.2) v_t x_o.Den.Mag ∧ RepS (dI .u32) w' (g.2.2.2.2.2.2.2.2.2.2.2.2.2.2.2.2.2.2.2.2.2.2.2.2.2.2.2) v_3o x_3k ∧ RepS (dI .u32) w' (g.2.2.2.2.2.2.2.2.2.2.2.2.2.2.2.2.2.2.2.2.2.2.2.2.2.2.2) v_3p x_3m ∧ RepS (dI .u32) w' (g.2.2.2.2.2.2.2.2.2.2.2.2.2.2.2.2.2.2.2.2.2.2.2.2.2.2.2) v_6d x_69 ∧ RepS (dI .u32) w' (g.2.2.2.2.2.2.2.2.2.2.2.2.2.2.2.2.2.2.2.2.2.2.2.2.2.2.2) v_6e x_6b ∧ RepS (dI .u32) w' (g.2.2.2.2.2.2.2.2.2.2.2.2.2.2.2.2.2.2.2.2.2.2.2.2.2.2.2) v_ba x_ay ∧ RepS (dI .u32) w' (g.2.2.2.2.2.2.2.2.2.2.2.2.2.2.2.2.2.2.2.2.2.2.2.2.2.2.2) v_bb x_b0 ∧ RepS (dI .u32) w' (g.2.2.2.2.2.2.2.2.2.2.2.2.2.2.2.2.2.2.2.2.2.2.2.2.2.2.2) v_bc x_b2 ∧ RepS (dI .u32) w' (g.2.2.2.2.2.2.2.2.2.2.2.2.2.2.2.2.2.2.2.2.2.2.2.2.2.2.2) v_bd x_b4 ∧ RepS (dI .u32) w' (g.2.2.2.2.2.2.2.2.2.2.2.2.2.2.2.2.2.2.2.2.2.2.2.2.2.2.2) v_be x_b6 ∧ RepS (dI .u32) w' (g.2.2.2.2.2.2.2.2.2.2.2.2.2.2.2.2.2.2.2.2.2.2.2.2.2.2.2) v_bf x_b8 ∧ RepS (dI .u32) w' (g.2.2.2.2.2.2.2.2.2.2.2.2.2.2.2.2.2.2.2.2.2.2.2.2.2.2.2) (g.2.2.2.2.2.2.2.2.2.2.2.2.2.2.2.2.1) (g.1) ∧ RepS (dI .u32) w' (g.2.2.2.2.2.2.2.2.2.2.2.2.2.2.2.2.2.2.2.2.2.2.2.2.2.2.2) (g.2.2.2.2.2.2.2.2.2.2.2.2.2.2.2.2.2.1) (g.2.1) ∧ RepS (dI .u32) w' (g.2.2.2.2.2.2.2.2.2.2.2.2.2.2.2.2.2.2.2.2.2.2.2.2.2.2.2) (g.2.2.2.2.2.2.2.2.2.2.2.2.2.2.2.2.2.2.1) (g.2.2.1) ∧ RepS (dI .u32) w' (g.2.2.2.2.2.2.2.2.2.2.2.2.2.2.2.2.2.2.2.2.2.2.2.2.2.2.2) (g.2.2.2.2.2.2.2.2.2.2.2.2.2.2.2.2.2.2.2.1) (g.2.2.2.1) ∧ RepS (dI .u32) w' (g.2.2.2.2.2.2.2.2.2.2.2.2.2.2.2.2.2.2.2.2.2.2.2.2.2.2.2) v_pi x_pd.Num.Mag ∧ RepS (dI .u32) w' (g.2.2.2.2.2.2.2.2.2.2.2.2.2.2.2.2.2.2.2.2.2.2.2.2.2.2.2) v_pj x_pd.Den.Mag ∧ RepS (dI .u32) w' (g.2.2.2.2.2.2.2.2.2.2.2.2.2.2.2.2.2.2.2.2.2.2.2.2.2.2.2) v_pk x_pe.Num.Mag ∧ RepS (dI .u32) w' (g.2.2.2.2.2.2.2.2.2.2.2.2.2.2.2.2.2.2.2.2.2.2.2.2.2.2.2) v_pl x_pe.Den.Mag ∧ RepS (dI .u32) w' (g.2.2.2.2.2.2.2.2.2.2.2.2.2.2.2.2.2.2.2.2.2.2.2.2.2.2.2) (g.2.2.2.2.2.2.2.2.2.2.2.2.2.2.2.2.2.2.2.2.2.1) (g.2.2.2.2.2.1) ∧ RepS (dI .u32) w' (g.2.2.2.2.2.2.2.2.2.2.2.2.2.2.2.2.2.2.2.2.2.2.2.2.2.2.2) (g.2.2.2.2.2.2.2.2.2.2.2.2.2.2.2.2.2.2.2.2.2.2.1) (g.2.2.2.2.2.2.2.1) ∧ RepS (dI .u32) w' (g.2.2.2.2.2.2.2.2.2.2.2.2.2.2.2.2.2.2.2.2.2.2.2.2.2.2.2) (g.2.2.2.2.2.2.2.2.2.2.2.2.2.2.2.2.2.2.2.2.2.2.2.1) (g.2.2.2.2.2.2.2.2.2.1) ∧ RepS (dI .u32) w' (g.2.2.2.2.2.2.2.2.2.2.2.2.2.2.2.2.2.2.2.2.2.2.2.2.2.2.2) (g.2.2.2.2.2.2.2.2.2.2.2.2.2.2.2.2.2.2.2.2.2.2.2.2.1) (g.2.2.2.2.2.2.2.2.2.2.2.1) ∧ RepS (dI .u32) w' (g.2.2.2.2.2.2.2.2.2.2.2.2.2.2.2.2.2.2.2.2.2.2.2.2.2.2.2) (g.2.2.2.2.2.2.2.2.2.2.2.2.2.2.2.2.2.2.2.2.2.2.2.2.2.1) (g.2.2.2.2.2.2.2.2.2.2.2.2.2.1) ∧ RepS (dI .u32) w' (g.2.2.2.2.2.2.2.2.2.2.2.2.2.2.2.2.2.2.2.2.2.2.2.2.2.2.2) (g.2.2.2.2.2.2.2.2.2.2.2.2.2.2.2.2.2.2.2.2.2.2.2.2.2.2.1) (g.2.2.2.2.2.2.2.2.2.2.2.2.2.2.2.1) ∧ Tb w' (g.2.2.2.2.2.2.2.2.2.2.2.2.2.2.2.2.2.2.2.2.2.2.2.2.2.2.2) 2 .u64 pow10) ?_ ?_
 ·
  have hs := hp.stp (Ch.drew [] w_pv)
  have hp := hp.drew
  replace ha := ha.trans hs
  replace r_po := r_po.step hs
  replace r_pp := r_pp.step hs
  replace r_pm := r_pm.step hs
  replace r_pn := r_pn.step hs
  refine W.heldG (.q 0 (.q 2 (.q 3 (.l 1 (.q 4 (.l 5 (.l 6 .done .no) .no)) (.l 5 (.l 1 (.q 4 (.l 6 .done .no)) .no) .no))))) (SK (Stp I_ph w_pv.drew I_ph) [(g_p1, [(.bool x_ot), v_p2, (.bool x_ov), v_p3], 31), (g_p4, [(.bool x_ox), v_p5, (.bool x_oz), v_p6], 31)] [[], []]) MX (by kernel_rfl) ⟨Stp.refl _ _, (kp_cons (fun _ => (hp.own 7 _ _ _ rfl).1) (kp_cons (fun _ => (hp.own 8 _ _ _ rfl).1) kp_nil))⟩ ?_
  have hz := Stp.refl I_ph w_pv.drew
  refine ⟨SK.same (by kernel_rfl), ?_⟩
  refine ⟨SK.same (by kernel_rfl), ?_⟩
  refine evh (fun w' hw => rn_load rfl rfl (run_loadVarA T31 rfl ((S0.keep (p := 0) hw rfl rfl (by kernel_rfl)).at_ (i := 0) rfl))) ?_
  refine ⟨SK.same (by kernel_rfl), ?_⟩
  refine evh (fun w' hw => rn_load rfl rfl (run_loadVarA T31 rfl ((S0.keep (p := 1) hw rfl rfl (by kernel_rfl)).at_ (i := 0) rfl))) ?_
  refine ⟨?_, ?_⟩
  ·
   obtain ⟨x_py, q_pz, q_px⟩ := bind_some q_px
   refine ev_call rfl rfl C11 (((rotation_Mark_ok n) _ _  x_i hp.imm _ q_pz).mono ?_)
   rintro _ w_q0 ⟨I_q1, v_q2, v_q3, hv, hq, r_q4, r_q5⟩
   replace hv := hv.symm
   subst hv
   have hs := hq.st
   have hp := hp.join0 hq
   replace hz := hz.trans hs
   replace ha := ha.trans hs
   replace r_po := r_po.step hs
   replace r_pp := r_pp.step hs
   replace r_pm := r_pm.step hs
   replace r_pn := r_pn.step hs
   refine nxS hz (hp.kc 7 rfl (hp.kc 8 rfl kp_nil)) ?_
   have hz := Stp.refl I_q1 w_q0
   refine ⟨SK.same (by kernel_rfl), ?_⟩
   obtain ⟨A_q6, m_q7, m_q8, rfl⟩ := r_q4.isSl
   obtain ⟨A_q9, m_qa, m_qb, rfl⟩ := r_q5.isSl
   replace r_p9 := r_p9.step ha
   obtain ⟨A_qc, m_qd, m_qe, rfl⟩ := r_p9.isSl
   replace r_pa := r_pa.step ha
   obtain ⟨A_qf, m_qg, m_qh, rfl⟩ := r_pa.isSl
   replace r_pb := r_pb.step ha
   obtain ⟨A_qi, m_qj, m_qk, rfl⟩ := r_pb.isSl
   replace r_pc := r_pc.step ha
   obtain ⟨A_ql, m_qm, m_qn, rfl⟩ := r_pc.isSl
   refine evh0 (fun w => rn_build (cs := [(.bool x_py.P.Neg), (.slice A_q6 m_q7 m_q8), (.bool x_py.Q.Neg), (.slice A_q9 m_qa m_qb), (.bool x_ot), (.slice A_qc m_qd m_qe), (.bool x_ov), (.slice A_qf m_qg m_qh), (.bool x_ox), (.slice A_qi m_qj m_qk), (.bool x_oz), (.slice A_ql m_qm m_qn)]) rfl rfl T41 PL41 (by kernel_rfl)) ?_
   refine ⟨?_, trivial⟩
   refine ev_alloc hp rfl T41 ?_
   intro g_qo w_qp hp hs
   replace hz := hz.trans hs
   replace r_u := r_u.step ha
   replace r_v := r_v.step ha
   replace r_3s := r_3s.step ha
   replace r_3t := r_3t.step ha
   replace r_6h := r_6h.step ha
   replace r_6i := r_6i.step ha
   replace r_bi := r_bi.step ha
   replace r_bj := r_bj.step ha
   replace r_bk := r_bk.step ha
   replace r_bl := r_bl.step ha
   replace r_bm := r_bm.step ha
   replace r_bn := r_bn.step ha
   replace tb := tb.step ha
   replace ha := hs
   refine nxS hz (hp.kc 8 rfl (hp.kc 9 rfl kp_nil)) ?_
   have hz := Stp.refl I_q1 w_qp
   refine ⟨?_, trivial⟩
   replace r_p9 := r_p9.step ha
   replace r_pa := r_pa.step ha
   replace r_pb := r_pb.step ha
   replace r_pc := r_pc.step ha
   replace r_q4 := r_q4.step ha
   replace r_q5 := r_q5.step ha
   refine ev_storeA hp (i := 0) (off := 0) (vs := [(.bool x_py.P.Neg), (.slice A_q6 m_q7 m_q8), (.bool x_py.Q.Neg), (.slice A_q9 m_qa m_qb), (.bool x_ot), (.slice A_qc m_qd m_qe), (.bool x_ov), (.slice A_qf m_qg m_qh), (.bool x_ox), (.slice A_qi m_qj m_qk), (.bool x_oz), (.slice A_ql m_qm m_qn)]) rfl rfl rfl rfl T41 rfl (lbe rfl) (on2 r_q4.one (on2 r_q5.one (on2 r_p9.one (on2 r_pa.one (on2 r_pb.one (on2 r_pc.one ones_nil)))))) ?_
   intro w_qq hp hs
   replace hz := hz.trans hs
   replace ha := ha.trans hs
   replace r_q4 := r_q4.step hs
   replace r_q5 := r_q5.step hs
   replace r_p9 := r_p9.step hs
   replace r_pa := r_pa.step hs
   replace r_pb := r_pb.step hs
   replace r_pc := r_pc.step hs
   refine nxS hz (hp.kc 8 rfl (hp.kc 9 rfl kp_nil)) ?_
   have hz := Stp.refl I_q1 w_qq
   obtain rfl := Option.some.inj q_px
   have hp := hp.perm [3, 4, 5, 6, 7, 8, 9, 2, 1, 0] (by decide)
   replace r_u := r_u.step ha
   replace r_v := r_v.step ha
   replace r_3s := r_3s.step ha
   replace r_3t := r_3t.step ha
   replace r_6h := r_6h.step ha
   replace r_6i := r_6i.step ha
   replace r_bi := r_bi.step ha
   replace r_bj := r_bj.step ha
   replace r_bk := r_bk.step ha
   replace r_bl := r_bl.step ha
   replace r_bm := r_bm.step ha
   replace r_bn := r_bn.step ha
   replace r_pm := r_pm.step ha
   replace r_pn := r_pn.step ha
   replace r_po := r_po.step ha
   replace r_pp := r_pp.step ha
   replace tb := tb.step ha
   exact ⟨(x_ou, x_ow, x_oy, x_p0, x_py.P.Neg, x_py.P.Mag, x_py.Q.Neg, x_py.Q.Mag, x_ot, x_ou, x_ov, x_ow, x_ox, x_oy, x_oz, x_p0, (.slice A_qc m_qd m_qe), (.slice A_qf m_qg m_qh), (.slice A_qi m_qj m_qk), (.slice A_ql m_qm m_qn), g_qo, (.slice A_q6 m_q7 m_q8), (.slice A_q9 m_qa m_qb), (.slice A_qc m_qd m_qe), (.slice A_qf m_qg m_qh), (.slice A_qi m_qj m_qk), (.slice A_ql m_qm m_qn), I_q1), (.c rfl (.c rfl (.c rfl (.c rfl (.c rfl (.c rfl (.c rfl (.c rfl (.c rfl (.c rfl .n)))))))))), rfl, hp, r_u, r_v, r_3s, r_3t, r_6h, r_6i, r_bi, r_bj, r_bk, r_bl, r_bm, r_bn, r_p9, r_pa, r_pb, r_pc, r_pm, r_pn, r_po, r_pp, r_q4, r_q5, r_p9, r_pa, r_pb, r_pc, tb⟩
  refine ⟨?_, trivial⟩
  refine ev_alloc hp rfl T41 ?_
  intro g_qr w_qs hp hs
  replace hz := hz.trans hs
  replace ha := ha.trans hs
  replace r_po := r_po.step hs
  replace r_pp := r_pp.step hs
  replace r_pm := r_pm.step hs
  replace r_pn := r_pn.step hs
  refine nxS hz (hp.kc 8 rfl (hp.kc 9 rfl kp_nil)) ?_
  have hz := Stp.refl I_ph w_qs
  refine ⟨?_, trivial⟩
  obtain ⟨x_qt, q_qu, q_px⟩ := bind_some q_px
  refine ev_call rfl rfl C11 (((rotation_Mark_ok n) _ _  x_i hp.imm _ q_qu).mono ?_)
  rintro _ w_qv ⟨I_qw, v_qx, v_qy, hv, hq, r_qz, r_r0⟩
  replace hv := hv.symm
  subst hv
  have hs := hq.st
  have hp := hp.join0 hq
  replace hz := hz.trans hs
  replace ha := ha.trans hs
  replace r_po := r_po.step hs
  replace r_pp := r_pp.step hs
  replace r_pm := r_pm.step hs
  replace r_pn := r_pn.step hs
  refine nxS hz (hp.kc 8 rfl (hp.kc 9 rfl kp_nil)) ?_
  have hz := Stp.refl I_qw w_qv
  refine ⟨SK.same (by kernel_rfl), ?_⟩
  obtain ⟨A_r1, m_r2, m_r3, rfl⟩ := r_qz.isSl
  obtain ⟨A_r4, m_r5, m_r6, rfl⟩ := r_r0.isSl
  replace r_p9 := r_p9.step ha
  obtain ⟨A_r7, m_r8, m_r9, rfl⟩ := r_p9.isSl
  replace r_pa := r_pa.step ha
  obtain ⟨A_ra, m_rb, m_rc, rfl⟩ := r_pa.isSl
  replace r_pb := r_pb.step ha
  obtain ⟨A_rd, m_re, m_rf, rfl⟩ := r_pb.isSl
  replace r_pc := r_pc.step ha
  obtain ⟨A_rg, m_rh, m_ri, rfl⟩ := r_pc.isSl
  refine evh0 (fun w => rn_build (cs := [(.bool x_qt.P.Neg), (.slice A_r1 m_r2 m_r3), (.bool x_qt.Q.Neg), (.slice A_r4 m_r5 m_r6), (.bool x_ot), (.slice A_r7 m_r8 m_r9), (.bool x_ov), (.slice A_ra m_rb m_rc), (.bool x_ox), (.slice A_rd m_re m_rf), (.bool x_oz), (.slice A_rg m_rh m_ri)]) rfl rfl T41 PL41 (by kernel_rfl)) ?_
  refine ⟨?_, trivial⟩
  refine ev_storeA hp (i := 0) (off := 0) (vs := [(.bool x_qt.P.Neg), (.slice A_r1 m_r2 m_r3), (.bool x_qt.Q.Neg), (.slice A_r4 m_r5 m_r6), (.bool x_ot), (.slice A_r7 m_r8 m_r9), (.bool x_ov), (.slice A_ra m_rb m_rc), (.bool x_ox), (.slice A_rd m_re m_rf), (.bool x_oz), (.slice A_rg m_rh m_ri)]) rfl rfl rfl rfl T41 rfl (lbe rfl) (on2 r_qz.one (on2 r_r0.one (on2 r_p9.one (on2 r_pa.one (on2 r_pb.one (on2 r_pc.one ones_nil)))))) ?_
  intro w_rj hp hs
  replace hz := hz.trans hs
  replace r_u := r_u.step ha
  replace r_v := r_v.step ha
  replace r_3s := r_3s.step ha
  replace r_3t := r_3t.step ha
  replace r_6h := r_6h.step ha
  replace r_6i := r_6i.step ha
  replace r_bi := r_bi.step ha
  replace r_bj := r_bj.step ha
  replace r_bk := r_bk.step ha
  replace r_bl := r_bl.step ha
  replace r_bm := r_bm.step ha
  replace r_bn := r_bn.step ha
  replace tb := tb.step ha
  replace ha := hs
  refine nxS hz (hp.kc 8 rfl (hp.kc 9 rfl kp_nil)) ?_
  have hz := Stp.refl I_qw w_rj
  obtain rfl := Option.some.inj q_px
  have hp := hp.perm [3, 4, 5, 6, 7, 8, 9, 2, 1, 0] (by decide)
  replace r_u := r_u.step ha
  replace r_v := r_v.step ha
  replace r_3s := r_3s.step ha
  replace r_3t := r_3t.step ha
  replace r_6h := r_6h.step ha
  replace r_6i := r_6i.step ha
  replace r_bi := r_bi.step ha
  replace r_bj := r_bj.step ha
  replace r_bk := r_bk.step ha
  replace r_bl := r_bl.step ha
  replace r_bm := r_bm.step ha
  replace r_bn := r_bn.step ha
  replace r_p9 := r_p9.step ha
  replace r_pa := r_pa.step ha
  replace r_pb := r_pb.step ha
  replace r_pc := r_pc.step ha
  replace r_pm := r_pm.step ha
  replace r_pn := r_pn.step ha
  replace r_po := r_po.step ha
  replace r_pp := r_pp.step ha
  replace r_qz := r_qz.step ha
  replace r_r0 := r_r0.step ha
  replace tb := tb.step ha
  exact ⟨(x_ou, x_ow, x_oy, x_p0, x_qt.P.Neg, x_qt.P.Mag, x_qt.Q.Neg, x_qt.Q.Mag, x_ot, x_ou, x_ov, x_ow, x_ox, x_oy, x_oz, x_p0, (.slice A_r7 m_r8 m_r9), (.slice A_ra m_rb m_rc), (.slice A_rd m_re m_rf), (.slice A_rg m_rh m_ri), g_qr, (.slice A_r1 m_r2 m_r3), (.slice A_r4 m_r5 m_r6), (.slice A_r7 m_r8 m_r9), (.slice A_ra m_rb m_rc), (.slice A_rd m_re m_rf), (.slice A_rg m_rh m_ri), I_qw), (.c rfl (.c rfl (.c rfl (.c rfl (.c rfl (.c rfl (.c rfl (.c rfl (.c rfl (.c rfl .n)))))))))), rfl, hp, r_u, r_v, r_3s, r_3t, r_6h, r_6i, r_bi, r_bj, r_bk, r_bl, r_bm, r_bn, r_p9, r_pa, r_pb, r_pc, r_pm, r_pn, r_po, r_pp, r_qz, r_r0, r_p9, r_pa, r_pb, r_pc, tb⟩
 rintro ⟨x_rk, x_rl, x_rm, x_rn, x_ro, x_rp, x_rq, x_rr, x_rs, x_rt, x_ru, x_rv, x_rw, x_rx, x_ry, x_rz, v_s0, v_s1, v_s2, v_s3, g_s4, v_s5, v_s6, v_s7, v_s8, v_s9, v_sa, I_sb⟩ w_sc ⟨hy, hp, r_u, r_v, r_3s, r_3t, r_6h, r_6i, r_bi, r_bj, r_bk, r_bl, r_bm, r_bn, r_sd, r_se, r_sf, r_sg, r_pm, r_pn, r_po, r_pp, r_sh, r_si, r_sj, r_sk, r_sl, r_sm, tb⟩
 replace hy := hy.symm
 subst hy
 apply go
 apply go
 refine ev (rn_load rfl rfl (run_loadVarA T41 rfl (hp.at_ (i := 4) rfl))) ?_
 refine ev (rn_load rfl rfl (run_loadVarA T41 rfl (hp.at_ (i := 9) rfl))) ?_
 obtain ⟨x_sn, q_so, h⟩ := bind_some h
 refine ev_call rfl rfl C14 (((rotation_Compose_ok n) _ _  (Transform.mk (Rot.mk (Int_2.mk x_ax x_ay) (Int_2.mk x_az x_b0)) (Rational.mk (Int_2.mk x_b1 x_b2) (Int_2.mk x_b3 x_b4)) (Rational.mk (Int_2.mk x_b5 x_b6) (Int_2.mk x_b7 x_b8))) v_ba r_bi v_bb r_bj v_bc r_bk v_bd r_bl v_be r_bm v_bf r_bn (Transform.mk (Rot.mk (Int_2.mk x_ro x_rp) (Int_2.mk x_rq x_rr)) (Rational.mk (Int_2.mk x_rs x_rt) (Int_2.mk x_ru x_rv)) (Rational.mk (Int_2.mk x_rw x_rx) (Int_2.mk x_ry x_rz))) v_s5 r_sh v_s6 r_si v_s7 r_sj v_s8 r_sk v_s9 r_sl v_sa r_sm hp.imm _ q_so).mono ?_)
 rintro _ w_sp ⟨I_sq, v_sr, v_ss, v_st, v_su, v_sv, v_sw, hv, hq, r_sx, r_sy, r_sz, r_t0, r_t1, r_t2⟩
 replace hv := hv.symm
 subst hv
 have hs := hq.st
 have hp := hp.join0 hq
 replace ha := hs
 refine ev_alloc hp rfl T41 ?_
 intro g_t3 w_t4 hp hs
 replace ha := ha.trans hs
 replace r_sx := r_sx.step hs
 replace r_sy := r_sy.step hs
 replace r_sz := r_sz.step hs
 replace r_t0 := r_t0.step hs
 replace r_t1 := r_t1.step hs
 replace r_t2 := r_t2.step hs
 refine ev_storeA hp (i := 0) (off := 0) (vs := [(.bool x_sn.R.P.Neg), v_sr, (.bool x_sn.R.Q.Neg), v_ss, (.bool x_sn.X.Num.Neg), v_st, (.bool x_sn.X.Den.Neg), v_su, (.bool x_sn.Y.Num.Neg), v_sv, (.bool x_sn.Y.Den.Neg), v_sw]) rfl rfl rfl rfl T41 rfl (lbe rfl) (on2 r_sx.one (on2 r_sy.one (on2 r_sz.one (on2 r_t0.one (on2 r_t1.one (on2 r_t2.one ones_nil)))))) ?_
 intro w_t5 hp hs
 replace ha := ha.trans hs
 replace r_sx := r_sx.step hs
 replace r_sy := r_sy.step hs
 replace r_sz := r_sz.step hs
 replace r_t0 := r_t0.step hs
 replace r_t1 := r_t1.step hs
 replace r_t2 := r_t2.step hs
 apply go
 apply go
 refine ev (rn_load rfl rfl (run_loadVarA T41 rfl (hp.at_ (i := 0) rfl))) ?_
 refine ev (rn_load rfl rfl (run_loadVarA T31 rfl (hp.at_ (i := 1) rfl))) ?_
 refine ev (rn_load rfl rfl (run_loadVarA T31 rfl (hp.at_ (i := 1) rfl))) ?_
 obtain ⟨⟨x_t6, x_t7⟩, q_t8, h⟩ := bind_some h
 replace r_u := r_u.step ha
 replace r_v := r_v.step ha
 refine ev_call rfl rfl C13 (((rotation_Act_ok n) _ _  (Transform.mk (Rot.mk (Int_2.mk x_sn.R.P.Neg x_sn.R.P.Mag) (Int_2.mk x_sn.R.Q.Neg x_sn.R.Q.Mag)) (Rational.mk (Int_2.mk x_sn.X.Num.Neg x_sn.X.Num.Mag) (Int_2.mk x_sn.X.Den.Neg x_sn.X.Den.Mag)) (Rational.mk (Int_2.mk x_sn.Y.Num.Neg x_sn.Y.Num.Mag) (Int_2.mk x_sn.Y.Den.Neg x_sn.Y.Den.Mag))) v_sr r_sx v_ss r_sy v_st r_sz v_su r_t0 v_sv r_t1 v_sw r_t2 (Rational.mk (Int_2.mk x_o.Num.Neg x_o.Num.Mag) (Int_2.mk x_o.Den.Neg x_o.Den.Mag)) v_s r_u v_t r_v (Rational.mk (Int_2.mk x_o.Num.Neg x_o.Num.Mag) (Int_2.mk x_o.Den.Neg x_o.Den.Mag)) v_s r_u v_t r_v hp.imm _ q_t8).mono ?_)
 rintro _ w_t9 ⟨I_ta, v_tb, v_tc, v_td, v_te, hv, hq, r_tf, r_tg, r_th, r_ti⟩
 replace hv := hv.symm
 subst hv
 have hs := hq.st
 have hp := hp.join0 hq
 replace ha := ha.trans hs
 replace r_sx := r_sx.step hs
 replace r_sy := r_sy.step hs
 replace r_u := r_u.step hs
 replace r_v := r_v.step hs
 refine ev_alloc hp rfl T31 ?_
 intro g_tj w_tk hp hs
 replace ha := ha.trans hs
 replace r_tf := r_tf.step hs
 replace r_tg := r_tg.step hs
 replace r_th := r_th.step hs
 replace r_ti := r_ti.step hs
 replace r_sx := r_sx.step hs
 replace r_sy := r_sy.step hs
 replace r_u := r_u.step hs
 replace r_v := r_v.step hs
 refine ev_alloc hp rfl T31 ?_
 intro g_tl w_tm hp hs
 replace ha := ha.trans hs
 replace r_tf := r_tf.step hs
 replace r_tg := r_tg.step hs
 replace r_th := r_th.step hs
 replace r_ti := r_ti.step hs
 replace r_sx := r_sx.step hs
 replace r_sy := r_sy.step hs
 replace r_u := r_u.step hs
 replace r_v := r_v.step hs
 refine ev_storeA hp (i := 1) (off := 0) (vs := [(.bool x_t6.Num.Neg), v_tb, (.bool x_t6.Den.Neg), v_tc]) rfl rfl rfl rfl T31 rfl (lbe rfl) (on2 r_tf.one (on2 r_tg.one ones_nil)) ?_
 intro w_tn hp hs
 replace ha := ha.trans hs
 replace r_th := r_th.step hs
 replace r_ti := r_ti.step hs
 replace r_tf := r_tf.step hs
 replace r_tg := r_tg.step hs
 replace r_sx := r_sx.step hs
 replace r_sy := r_sy.step hs
 replace r_u := r_u.step hs
 replace r_v := r_v.step hs
 refine ev_storeA hp (i := 0) (off := 0) (vs := [(.bool x_t7.Num.Neg), v_td, (.bool x_t7.Den.Neg), v_te]) rfl rfl rfl rfl T31 rfl (lbe rfl) (on2 r_th.one (on2 r_ti.one ones_nil)) ?_
 intro w_to hp hs
 replace r_3s := r_3s.step ha
 replace r_3t := r_3t.step ha
 replace r_6h := r_6h.step ha
 replace r_6i := r_6i.step ha
 replace r_bi := r_bi.step ha
 replace r_bj := r_bj.step ha
 replace r_bk := r_bk.step ha
 replace r_bl := r_bl.step ha
 replace r_bm := r_bm.step ha
 replace r_bn := r_bn.step ha
 replace r_sd := r_sd.step ha
 replace r_se := r_se.step ha
 replace r_sf := r_sf.step ha
 replace r_sg := r_sg.step ha
 replace r_pm := r_pm.step ha
 replace r_pn := r_pn.step ha
 replace r_po := r_po.step ha
 replace r_pp := r_pp.step ha
 replace tb := tb.step ha
 replace ha := hs
 obtain ⟨y_tp, q_tq, h⟩ := bind_some h
 refine W.cut (γ := (Bool × (List Int) × Bool × (List Int) × Bool × (List Int) × Bool × (List Int) × Nat × Value × Value × Nat × Value × Value × (Nat → Prop))) (fun g => [(8, (.pointer (some ⟨g_12, 0, none⟩))), (9, (.pointer (some ⟨g_3n, 0, none⟩))), (10, (.pointer (some ⟨g_6c, 0, none⟩))), (11, (.pointer (some ⟨g_b9, 0, none⟩))), (12, (.pointer (some ⟨g_p1, 0, none⟩))), (13, (.pointer (some ⟨g_p4, 0, none⟩))), (14, (.pointer (some ⟨g_pq, 0, none⟩))), (15, (.pointer (some ⟨g_ps, 0, none⟩))), (18, (.pointer (some ⟨g_tj, 0, none⟩))), (19, (.pointer (some ⟨g_tl, 0, none⟩))), (20, (.pointer (some ⟨(g.2.2.2.2.2.2.2.2.1), 0, none⟩))), (21, (.pointer (some ⟨(g.2.2.2.2.2.2.2.2.2.2.2.1), 0, none⟩)))]) (fun g w' => y_tp = ((g.1), (g.2.1), (g.2.2.1), (g.2.2.2.1), (g.2.2.2.2.1), (g.2.2.2.2.2.1), (g.2.2.2.2.2.2.1), (g.2.2.2.2.2.2.2.1)) ∧ Hp ⟨w0, I0, []⟩ (g.2.2.2.2.2.2.2.2.2.2.2.2.2.2) [some (g_12, [(.int .i64 x_z.X), (.int .i64 x_z.Y), (.int .i64 x_z.D)], 34), some (g_3n, [(.bool x_3j), v_3o, (.bool x_3l), v_3p], 31), some (g_6c, [(.bool x_68), v_6d, (.bool x_6a), v_6e], 31), some (g_b9, [(.bool x_ax), v_ba, (.bool x_az), v_bb, (.bool x_b1), v_bc, (.bool x_b3), v_bd, (.bool x_b5), v_be, (.bool x_b7), v_bf], 41), some (g_p1, [(.bool x_ot), v_s0, (.bool x_ov), v_s1], 31), some (g_p4, [(.bool x_ox), v_s2, (.bool x_oz), v_s3], 31), some (g_pq, [(.bool x_pd.Num.Neg), v_pi, (.bool x_pd.Den.Neg), v_pj], 31), some (g_ps, [(.bool x_pe.Num.Neg), v_pk, (.bool x_pe.Den.Neg), v_pl], 31), some (g_tj, [(.bool x_t6.Num.Neg), v_tb, (.bool x_t6.Den.Neg), v_tc], 31), some (g_tl, [(.bool x_t7.Num.Neg), v_td, (.bool x_t7.Den.Neg), v_te], 31), some ((g.2.2.2.2.2.2.2.2.1), [(.bool (g.1)), (g.2.2.2.2.2.2.2.2.2.1), (.bool (g.2.2.1)), (g.2.2.2.2.2.2.2.2.2.2.1)], 31), some ((g.2.2.2.2.2.2.2.2.2.2.2.1), [(.bool (g.2.2.2.2.1)), (g.2.2.2.2.2.2.2.2.2.2.2.2.1), (.bool (g.2.2.2.2.2.2.1)), (g.2.2.2.2.2.2.2.2.2.2.2.2.2.1)], 31)] w' ∧ RepS (dI .u32) w' (g.2.2.2.2.2.2.2.2.2.2.2.2.2.2) v_3o x_3k ∧ RepS (dI .u32) w' (g.2.2.2.2.2.2.2.2.2.2.2.2.2.2) v_3p x_3m ∧ RepS (dI .u32) w' (g.2.2.2.2.2.2.2.2.2.2.2.2.2.2) v_6d x_69 ∧ RepS (dI .u32) w' (g.2.2.2.2.2.2.2.2.2.2.2.2.2.2) v_6e x_6b ∧ RepS (dI .u32) w' (g.2.2.2.2.2.2.2.2.2.2.2.2.2.2) v_ba x_ay ∧ RepS (dI .u32) w' (g.2.2.2.2.2.2.2.2.2.2.2.2.2.2) v_bb x_b0 ∧ RepS (dI .u32) w' (g.2.2.2.2.2.2.2.2.2.2.2.2.2.2) v_bc x_b2 ∧ RepS (dI .u32) w' (g.2.2.2.2.2.2.2.2.2.2.2.2.2.2) v_bd x_b4 ∧ RepS (dI .u32) w' (g.2.2.2.2.2.2.2.2.2.2.2.2.2.2) v_be x_b6 ∧ RepS (dI .u32) w' (g.2.2.2.2.2.2.2.2.2.2.2.2.2.2) v_bf x_b8 ∧ RepS (dI .u32) w' (g.2.2.2.2.2.2.2.2.2.2.2.2.2.2) v_s0 x_rk ∧ RepS (dI .u32) w' (g.2.2.2.2.2.2.2.2.2.2.2.2.2.2) v_s1 x_rl ∧ RepS (dI .u32) w' (g.2.2.2.2.2.2.2.2.2.2.2.2.2.2) v_s2 x_rm ∧ RepS (dI .u32) w' (g.2.2.2.2.2.2.2.2.2.2.2.2.2.2) v_s3 x_rn ∧ RepS (dI .u32) w' (g.2.2.2.2.2.2.2.2.2.2.2.2.2.2) v_pi x_pd.Num.Mag ∧ RepS (dI .u32) w' (g.2.2.2.2.2.2.2.2.2.2.2.2.2.2) v_pj x_pd.Den.Mag ∧ RepS (dI .u32) w' (g.2.2.2.2.2.2.2.2.2.2.2.2.2.2) v_pk x_pe.Num.Mag ∧ RepS (dI .u32) w' (g.2.2.2.2.2.2.2.2.2.2.2.2.2.2) v_pl x_pe.Den.Mag ∧ RepS (dI .u32) w' (g.2.2.2.2.2.2.2.2.2.2.2.2.2.2) v_tb x_t6.Num.Mag ∧ RepS (dI .u32) w' (g.2.2.2.2.2.2.2.2.2.2.2.2.2.2) v_tc x_t6.Den.Mag ∧ RepS (dI .u32) w' (g.2.2.2.2.2.2.2.2.2.2.2.2.2.2) v_td x_t7.Num.Mag ∧ RepS (dI .u32) w' (g.2.2.2.2.2.2.2.2.2.2.2.2.2.2) v_te x_t7.Den.Mag ∧ RepS (dI .u32) w' (g.2.2.2.2.2.2.2.2.2.2.2.2.2.2) (g.2.2.2.2.2.2.2.2.2.1) (g.2.1) ∧ RepS (dI .u32) w' (g.2.2.2.2.2.2.2.2.2.2.2.2.2.2) (g.2.2.2.2.2.2.2.2.2.2.1) (g.2.2.2.1) ∧ RepS (dI .u32) w' (g.2.2.2.2.2.2.2.2.2.2.2.2.2.2) (g.2.2.2.2.2.2.2.2.2.2.2.2.1) (g.2.2.2.2.2.1) ∧ RepS (dI .u32) w' (g.2.2.2.2.2.2.2.2.2.2.2.2.2.2) (g.2.2.2.2.2.2.2.2.2.2.2.2.2.1) (g.2.2.2.2.2.2.2.1) ∧ Tb w' (g.2.2.2.2.2.2.2.2.2.2.2.2.2.2) 2 .u64 pow10) ?_ ?_
 ·
  have hs := hp.stp (Ch.drew [] w_to)
  have hp := hp.drew
  replace ha := ha.trans hs
  refine W.heldG (.q 0 (.q 1 (.q 3 (.l 2 (.l 4 (.q 5 (.q 6 (.q 7 (.l 8 (.l 9 (.l 10 (.l 11 .done .no) .no) .no) (.l 9 (.l 8 (.l 10 (.l 11 .done .no) .no) .no) .no))))) (.l 8 (.l 4 (.q 5 (.q 6 (.q 7 (.l 9 (.l 10 (.l 11 .done .no) .no) .no)))) (.l 9 (.l 4 (.q 5 (.q 6 (.q 7 (.l 10 (.l 11 .done .no) .no)))) .no) .no)) (.l 9 (.l 4 (.q 5 (.q 6 (.q 7 (.l 8 (.l 10 (.l 11 .done .no) .no) .no)))) (.l 8 (.l 4 (.q 5 (.q 6 (.q 7 (.l 10 (.l 11 .done .no) .no)))) .no) .no)) .no))) (.l 8 (.l 2 (.l 4 (.q 5 (.q 6 (.q 7 (.l 9 (.l 10 (.l 11 .done .no) .no) .no)))) (.l 9 (.l 4 (.q 5 (.q 6 (.q 7 (.l 10 (.l 11 .done .no) .no)))) .no) .no)) (.l 9 (.l 2 (.l 4 (.q 5 (.q 6 (.q 7 (.l 10 (.l 11 .done .no) .no)))) .no) .no) .no)) (.l 9 (.l 2 (.l 4 (.q 5 (.q 6 (.q 7 (.l 8 (.l 10 (.l 11 .done .no) .no) .no)))) (.l 8 (.l 4 (.q 5 (.q 6 (.q 7 (.l 10 (.l 11 .done .no) .no)))) .no) .no)) (.l 8 (.l 2 (.l 4 (.q 5 (.q 6 (.q 7 (.l 10 (.l 11 .done .no) .no)))) .no) .no) .no)) .no)))))) (SK (Stp I_ta w_to.drew I_ta) [(g_t3, [(.bool x_sn.R.P.Neg), v_sr, (.bool x_sn.R.Q.Neg), v_ss, (.bool x_sn.X.Num.Neg), v_st, (.bool x_sn.X.Den.Neg), v_su, (.bool x_sn.Y.Num.Neg), v_sv, (.bool x_sn.Y.Den.Neg), v_sw], 41), (g_w, [(.bool x_o.Num.Neg), v_s, (.bool x_o.Den.Neg), v_t], 31)] [[], []]) MX (by kernel_rfl) ⟨Stp.refl _ _, (kp_cons (fun _ => (hp.own 2 _ _ _ rfl).1) (kp_cons (fun _ => (hp.own 3 _ _ _ rfl).1) kp_nil))⟩ ?_
  have hz := Stp.refl I_ta w_to.drew
  refine ⟨SK.same (by kernel_rfl), ?_⟩
  refine evh0 (rn_field rfl rfl FO41_0) ?_
  refine ⟨SK.same (by kernel_rfl), ?_⟩
  refine evh (fun w' hw => rn_load rfl rfl (run_loadVarA T38 rfl ((((S0.keep (p := 0) hw rfl rfl (by kernel_rfl)).at_ (i := 0) rfl).drop 0).take 4))) ?_
  refine ⟨SK.same (by kernel_rfl), ?_⟩
  refine evh (fun w' hw => rn_load rfl rfl (run_loadVarA T31 rfl ((S0.keep (p := 1) hw rfl rfl (by kernel_rfl)).at_ (i := 0) rfl))) ?_
  refine ⟨?_, ?_⟩
  ·
   obtain ⟨x_tr, q_ts, q_tq⟩ := bind_some q_tq
   refine ev_call rfl rfl C8 (((rational_Of_ok n) _ _  1 1 hp.imm _ q_ts).mono ?_)
   rintro _ w_tt ⟨I_tu, v_tv, v_tw, hv, hq, r_tx, r_ty⟩
   replace hv := hv.symm
   subst hv
   have hs := hq.st
   have hp := hp.join0 hq
   replace hz := hz.trans hs
   replace ha := ha.trans hs
   refine nxS hz (hp.kc 2 rfl (hp.kc 3 rfl kp_nil)) ?_
   have hz := Stp.refl I_tu w_tt
   refine ⟨?_, ?_⟩
   ·
    obtain ⟨⟨x_tz, x_u0⟩, q_u1, q_tq⟩ := bind_some q_tq
    replace r_u := r_u.step ha
    replace r_v := r_v.step ha
    replace r_sx := r_sx.step ha
    replace r_sy := r_sy.step ha
    refine ev_call rfl rfl C12 (((rotation_Turn_ok n) _ _  (Rot.mk (Int_2.mk x_sn.R.P.Neg x_sn.R.P.Mag) (Int_2.mk x_sn.R.Q.Neg x_sn.R.Q.Mag)) v_sr r_sx v_ss r_sy x_tr v_tv r_tx v_tw r_ty (Rational.mk (Int_2.mk x_o.Num.Neg x_o.Num.Mag) (Int_2.mk x_o.Den.Neg x_o.Den.Mag)) v_s r_u v_t r_v hp.imm _ q_u1).mono ?_)
    rintro _ w_u2 ⟨I_u3, v_u4, v_u5, v_u6, v_u7, hv, hq, r_u8, r_u9, r_ua, r_ub⟩
    replace hv := hv.symm
    subst hv
    have hs := hq.st
    have hp := hp.join0 hq
    replace hz := hz.trans hs
    replace ha := ha.trans hs
    refine nxS hz (hp.kc 2 rfl (hp.kc 3 rfl kp_nil)) ?_
    have hz := Stp.refl I_u3 w_u2
    refine ⟨SK.same (by kernel_rfl), ?_⟩
    refine ⟨SK.same (by kernel_rfl), ?_⟩
    refine ⟨SK.same (by kernel_rfl), ?_⟩
    refine ⟨?_, ?_⟩
    ·
     refine ev_alloc hp rfl T31 ?_
     intro g_uc w_ud hp hs
     replace hz := hz.trans hs
     replace ha := ha.trans hs
     replace r_u8 := r_u8.step hs
     replace r_u9 := r_u9.step hs
     replace r_ua := r_ua.step hs
     replace r_ub := r_ub.step hs
     refine nxS hz (hp.kc 3 rfl (hp.kc 4 rfl kp_nil)) ?_
     have hz := Stp.refl I_u3 w_ud
     refine ⟨?_, trivial⟩
     refine ev_alloc hp rfl T31 ?_
     intro g_ue w_uf hp hs
     replace hz := hz.trans hs
     replace ha := ha.trans hs
     replace r_u8 := r_u8.step hs
     replace r_u9 := r_u9.step hs
     replace r_ua := r_ua.step hs
     replace r_ub := r_ub.step hs
     refine nxS hz (hp.kc 4 rfl (hp.kc 5 rfl kp_nil)) ?_
     have hz := Stp.refl I_u3 w_uf
     refine ⟨?_, trivial⟩
     refine ev_storeA hp (i := 1) (off := 0) (vs := [(.bool x_tz.Num.Neg), v_u4, (.bool x_tz.Den.Neg), v_u5]) rfl rfl rfl rfl T31 rfl (lbe rfl) (on2 r_u8.one (on2 r_u9.one ones_nil)) ?_
     intro w_ug hp hs
     replace hz := hz.trans hs
     replace ha := ha.trans hs
     replace r_ua := r_ua.step hs
     replace r_ub := r_ub.step hs
     replace r_u8 := r_u8.step hs
     replace r_u9 := r_u9.step hs
     refine nxS hz (hp.kc 4 rfl (hp.kc 5 rfl kp_nil)) ?_
     have hz := Stp.refl I_u3 w_ug
     refine ⟨?_, trivial⟩
     refine ev_storeA hp (i := 0) (off := 0) (vs := [(.bool x_u0.Num.Neg), v_u6, (.bool x_u0.Den.Neg), v_u7]) rfl rfl rfl rfl T31 rfl (lbe rfl) (on2 r_ua.one (on2 r_ub.one ones_nil)) ?_
     intro w_uh hp hs
     replace hz := hz.trans hs
     replace ha := ha.trans hs
     replace r_ua := r_ua.step hs
     replace r_ub := r_ub.step hs
     replace r_u8 := r_u8.step hs
     replace r_u9 := r_u9.step hs
     refine nxS hz (hp.kc 4 rfl (hp.kc 5 rfl kp_nil)) ?_
     have hz := Stp.refl I_u3 w_uh
     obtain rfl := Option.some.inj q_tq
     have hp := hp.perm [6, 7, 8, 9, 10, 11, 12, 13, 3, 2, 1, 0] (by decide)
     replace r_3s := r_3s.step ha
     replace r_3t := r_3t.step ha
     replace r_6h := r_6h.step ha
     replace r_6i := r_6i.step ha
     replace r_bi := r_bi.step ha
     replace r_bj := r_bj.step ha
     replace r_bk := r_bk.step ha
     replace r_bl := r_bl.step ha
     replace r_bm := r_bm.step ha
     replace r_bn := r_bn.step ha
     replace r_pm := r_pm.step ha
     replace r_pn := r_pn.step ha
     replace r_po := r_po.step ha
     replace r_pp := r_pp.step ha
     replace r_sd := r_sd.step ha
     replace r_se := r_se.step ha
     replace r_sf := r_sf.step ha
     replace r_sg := r_sg.step ha
     replace r_tf := r_tf.step ha
     replace r_tg := r_tg.step ha
     replace r_th := r_th.step ha
     replace r_ti := r_ti.step ha
     replace tb := tb.step ha
     exact ⟨(x_tz.Num.Neg, x_tz.Num.Mag, x_tz.Den.Neg, x_tz.Den.Mag, x_u0.Num.Neg, x_u0.Num.Mag, x_u0.Den.Neg, x_u0.Den.Mag, g_uc, v_u4, v_u5, g_ue, v_u6, v_u7, I_u3), (.c rfl (.c rfl (.c rfl (.c rfl (.c rfl (.c rfl (.c rfl (.c rfl (.c rfl (.c rfl (.c rfl (.c rfl .n)))))))))))), rfl, hp, r_3s, r_3t, r_6h, r_6i, r_bi, r_bj, r_bk, r_bl, r_bm, r_bn, r_sd, r_se, r_sf, r_sg, r_pm, r_pn, r_po, r_pp, r_tf, r_tg, r_th, r_ti, r_u8, r_u9, r_ua, r_ub, tb⟩
    refine ⟨?_, trivial⟩
    refine ev_alloc hp rfl T31 ?_
    intro g_ui w_uj hp hs
    replace hz := hz.trans hs
    replace ha := ha.trans hs
    replace r_u8 := r_u8.step hs
    replace r_u9 := r_u9.step hs
    replace r_ua := r_ua.step hs
    replace r_ub := r_ub.step hs
    refine nxS hz (hp.kc 3 rfl (hp.kc 4 rfl kp_nil)) ?_
    have hz := Stp.refl I_u3 w_uj
    refine ⟨?_, trivial⟩
    refine ev_alloc hp rfl T31 ?_
    intro g_uk w_ul hp hs
    replace hz := hz.trans hs
    replace ha := ha.trans hs
    replace r_u8 := r_u8.step hs
    replace r_u9 := r_u9.step hs
    replace r_ua := r_ua.step hs
    replace r_ub := r_ub.step hs
    refine nxS hz (hp.kc 4 rfl (hp.kc 5 rfl kp_nil)) ?_
    have hz := Stp.refl I_u3 w_ul
    refine ⟨?_, trivial⟩
    refine ev_storeA hp (i := 0) (off := 0) (vs := [(.bool x_tz.Num.Neg), v_u4, (.bool x_tz.Den.Neg), v_u5]) rfl rfl rfl rfl T31 rfl (lbe rfl) (on2 r_u8.one (on2 r_u9.one ones_nil)) ?_
    intro w_um hp hs
    replace hz := hz.trans hs
    replace ha := ha.trans hs
    replace r_ua := r_ua.step hs
    replace r_ub := r_ub.step hs
    replace r_u8 := r_u8.step hs
    replace r_u9 := r_u9.step hs
    refine nxS hz (hp.kc 4 rfl (hp.kc 5 rfl kp_nil)) ?_
    have hz := Stp.refl I_u3 w_um
    refine ⟨?_, trivial⟩
    refine ev_storeA hp (i := 1) (off := 0) (vs := [(.bool x_u0.Num.Neg), v_u6, (.bool x_u0.Den.Neg), v_u7]) rfl rfl rfl rfl T31 rfl (lbe rfl) (on2 r_ua.one (on2 r_ub.one ones_nil)) ?_
    intro w_un hp hs
    replace hz := hz.trans hs
    replace ha := ha.trans hs
    replace r_u8 := r_u8.step hs
    replace r_u9 := r_u9.step hs
    replace r_ua := r_ua.step hs
    replace r_ub := r_ub.step hs
    refine nxS hz (hp.kc 4 rfl (hp.kc 5 rfl kp_nil)) ?_
    have hz := Stp.refl I_u3 w_un
    obtain rfl := Option.some.inj q_tq
    have hp := hp.perm [6, 7, 8, 9, 10, 11, 12, 13, 3, 2, 0, 1] (by decide)
    replace r_3s := r_3s.step ha
    replace r_3t := r_3t.step ha
    replace r_6h := r_6h.step ha
    replace r_6i := r_6i.step ha
    replace r_bi := r_bi.step ha
    replace r_bj := r_bj.step ha
    replace r_bk := r_bk.step ha
    replace r_bl := r_bl.step ha
    replace r_bm := r_bm.step ha
    replace r_bn := r_bn.step ha
    replace r_pm := r_pm.step ha
    replace r_pn := r_pn.step ha
    replace r_po := r_po.step ha
    replace r_pp := r_pp.step ha
    replace r_sd := r_sd.step ha
    replace r_se := r_se.step ha
    replace r_sf := r_sf.step ha
    replace r_sg := r_sg.step ha
    replace r_tf := r_tf.step ha
    replace r_tg := r_tg.step ha
    replace r_th := r_th.step ha
    replace r_ti := r_ti.step ha
    replace tb := tb.step ha
    exact ⟨(x_tz.Num.Neg, x_tz.Num.Mag, x_tz.Den.Neg, x_tz.Den.Mag, x_u0.Num.Neg, x_u0.Num.Mag, x_u0.Den.Neg, x_u0.Den.Mag, g_uk, v_u4, v_u5, g_ui, v_u6, v_u7, I_u3), (.c rfl (.c rfl (.c rfl (.c rfl (.c rfl (.c rfl (.c rfl (.c rfl (.c rfl (.c rfl (.c rfl (.c rfl .n)))))))))))), rfl, hp, r_3s, r_3t, r_6h, r_6i, r_bi, r_bj, r_bk, r_bl, r_bm, r_bn, r_sd, r_se, r_sf, r_sg, r_pm, r_pn, r_po, r_pp, r_tf, r_tg, r_th, r_ti, r_u8, r_u9, r_ua, r_ub, tb⟩
   refine ⟨?_, ?_⟩
   ·
    refine ev_alloc hp rfl T31 ?_
    intro g_uo w_up hp hs
    replace hz := hz.trans hs
    replace ha := ha.trans hs
    replace r_tx := r_tx.step hs
    replace r_ty := r_ty.step hs
    refine nxS hz (hp.kc 3 rfl (hp.kc 4 rfl kp_nil)) ?_
    have hz := Stp.refl I_tu w_up
    refine ⟨?_, ?_⟩
    ·
     obtain ⟨⟨x_uq, x_ur⟩, q_us, q_tq⟩ := bind_some q_tq
     replace r_u := r_u.step ha
     replace r_v := r_v.step ha
     replace r_sx := r_sx.step ha
     replace r_sy := r_sy.step ha
     refine ev_call rfl rfl C12 (((rotation_Turn_ok n) _ _  (Rot.mk (Int_2.mk x_sn.R.P.Neg x_sn.R.P.Mag) (Int_2.mk x_sn.R.Q.Neg x_sn.R.Q.Mag)) v_sr r_sx v_ss r_sy x_tr v_tv r_tx v_tw r_ty (Rational.mk (Int_2.mk x_o.Num.Neg x_o.Num.Mag) (Int_2.mk x_o.Den.Neg x_o.Den.Mag)) v_s r_u v_t r_v hp.imm _ q_us).mono ?_)
     rintro _ w_ut ⟨I_uu, v_uv, v_uw, v_ux, v_uy, hv, hq, r_uz, r_v0, r_v1, r_v2⟩
     replace hv := hv.symm
     subst hv
     have hs := hq.st
     have hp := hp.join0 hq
     replace hz := hz.trans hs
     replace ha := ha.trans hs
     refine nxS hz (hp.kc 3 rfl (hp.kc 4 rfl kp_nil)) ?_
     have hz := Stp.refl I_uu w_ut
     refine ⟨SK.same (by kernel_rfl), ?_⟩
     refine ⟨SK.same (by kernel_rfl), ?_⟩
     refine ⟨SK.same (by kernel_rfl), ?_⟩
     refine ⟨?_, trivial⟩
     refine ev_alloc hp rfl T31 ?_
     intro g_v3 w_v4 hp hs
     replace hz := hz.trans hs
     replace ha := ha.trans hs
     replace r_uz := r_uz.step hs
     replace r_v0 := r_v0.step hs
     replace r_v1 := r_v1.step hs
     replace r_v2 := r_v2.step hs
     refine nxS hz (hp.kc 4 rfl (hp.kc 5 rfl kp_nil)) ?_
     have hz := Stp.refl I_uu w_v4
     refine ⟨?_, trivial⟩
     refine ev_storeA hp (i := 1) (off := 0) (vs := [(.bool x_uq.Num.Neg), v_uv, (.bool x_uq.Den.Neg), v_uw]) rfl rfl rfl rfl T31 rfl (lbe rfl) (on2 r_uz.one (on2 r_v0.one ones_nil)) ?_
     intro w_v5 hp hs
     replace hz := hz.trans hs
     replace ha := ha.trans hs
     replace r_v1 := r_v1.step hs
     replace r_v2 := r_v2.step hs
     replace r_uz := r_uz.step hs
     replace r_v0 := r_v0.step hs
     refine nxS hz (hp.kc 4 rfl (hp.kc 5 rfl kp_nil)) ?_
     have hz := Stp.refl I_uu w_v5
     refine ⟨?_, trivial⟩
     refine ev_storeA hp (i := 0) (off := 0) (vs := [(.bool x_ur.Num.Neg), v_ux, (.bool x_ur.Den.Neg), v_uy]) rfl rfl rfl rfl T31 rfl (lbe rfl) (on2 r_v1.one (on2 r_v2.one ones_nil)) ?_
     intro w_v6 hp hs
     replace hz := hz.trans hs
     replace ha := ha.trans hs
     replace r_v1 := r_v1.step hs
     replace r_v2 := r_v2.step hs
     replace r_uz := r_uz.step hs
     replace r_v0 := r_v0.step hs
     refine nxS hz (hp.kc 4 rfl (hp.kc 5 rfl kp_nil)) ?_
     have hz := Stp.refl I_uu w_v6
     obtain rfl := Option.some.inj q_tq
     have hp := hp.perm [6, 7, 8, 9, 10, 11, 12, 13, 3, 2, 1, 0] (by decide)
     replace r_3s := r_3s.step ha
     replace r_3t := r_3t.step ha
     replace r_6h := r_6h.step ha
     replace r_6i := r_6i.step ha
     replace r_bi := r_bi.step ha
     replace r_bj := r_bj.step ha
     replace r_bk := r_bk.step ha
     replace r_bl := r_bl.step ha
     replace r_bm := r_bm.step ha
     replace r_bn := r_bn.step ha
     replace r_pm := r_pm.step ha
     replace r_pn := r_pn.step ha
     replace r_po := r_po.step ha
     replace r_pp := r_pp.step ha
     replace r_sd := r_sd.step ha
     replace r_se := r_se.step ha
     replace r_sf := r_sf.step ha
     replace r_sg := r_sg.step ha
     replace r_tf := r_tf.step ha
     replace r_tg := r_tg.step ha
     replace r_th := r_th.step ha
     replace r_ti := r_ti.step ha
     replace tb := tb.step ha
     exact ⟨(x_uq.Num.Neg, x_uq.Num.Mag, x_uq.Den.Neg, x_uq.Den.Mag, x_ur.Num.Neg, x_ur.Num.Mag, x_ur.Den.Neg, x_ur.Den.Mag, g_uo, v_uv, v_uw, g_v3, v_ux, v_uy, I_uu), (.c rfl (.c rfl (.c rfl (.c rfl (.c rfl (.c rfl (.c rfl (.c rfl (.c rfl (.c rfl (.c rfl (.c rfl .n)))))))))))), rfl, hp, r_3s, r_3t, r_6h, r_6i, r_bi, r_bj, r_bk, r_bl, r_bm, r_bn, r_sd, r_se, r_sf, r_sg, r_pm, r_pn, r_po, r_pp, r_tf, r_tg, r_th, r_ti, r_uz, r_v0, r_v1, r_v2, tb⟩
    refine ⟨?_, trivial⟩
    refine ev_alloc hp rfl T31 ?_
    intro g_v7 w_v8 hp hs
    replace hz := hz.trans hs
    replace ha := ha.trans hs
    replace r_tx := r_tx.step hs
    replace r_ty := r_ty.step hs
    refine nxS hz (hp.kc 4 rfl (hp.kc 5 rfl kp_nil)) ?_
    have hz := Stp.refl I_tu w_v8
    refine ⟨?_, trivial⟩
    obtain ⟨⟨x_v9, x_va⟩, q_vb, q_tq⟩ := bind_some q_tq
    replace r_u := r_u.step ha
    replace r_v := r_v.step ha
    replace r_sx := r_sx.step ha
    replace r_sy := r_sy.step ha
    refine ev_call rfl rfl C12 (((rotation_Turn_ok n) _ _  (Rot.mk (Int_2.mk x_sn.R.P.Neg x_sn.R.P.Mag) (Int_2.mk x_sn.R.Q.Neg x_sn.R.Q.Mag)) v_sr r_sx v_ss r_sy x_tr v_tv r_tx v_tw r_ty (Rational.mk (Int_2.mk x_o.Num.Neg x_o.Num.Mag) (Int_2.mk x_o.Den.Neg x_o.Den.Mag)) v_s r_u v_t r_v hp.imm _ q_vb).mono ?_)
    rintro _ w_vc ⟨I_vd, v_ve, v_vf, v_vg, v_vh, hv, hq, r_vi, r_vj, r_vk, r_vl⟩
    replace hv := hv.symm
    subst hv
    have hs := hq.st
    have hp := hp.join0 hq
    replace hz := hz.trans hs
    replace ha := ha.trans hs
    refine nxS hz (hp.kc 4 rfl (hp.kc 5 rfl kp_nil)) ?_
    have hz := Stp.refl I_vd w_vc
    refine ⟨SK.same (by kernel_rfl), ?_⟩
    refine ⟨SK.same (by kernel_rfl), ?_⟩
    refine ⟨SK.same (by kernel_rfl), ?_⟩
    refine ⟨?_, trivial⟩
    refine ev_storeA hp (i := 1) (off := 0) (vs := [(.bool x_v9.Num.Neg), v_ve, (.bool x_v9.Den.Neg), v_vf]) rfl rfl rfl rfl T31 rfl (lbe rfl) (on2 r_vi.one (on2 r_vj.one ones_nil)) ?_
    intro w_vm hp hs
    replace hz := hz.trans hs
    replace ha := ha.trans hs
    replace r_vk := r_vk.step hs
    replace r_vl := r_vl.step hs
    replace r_vi := r_vi.step hs
    replace r_vj := r_vj.step hs
    refine nxS hz (hp.kc 4 rfl (hp.kc 5 rfl kp_nil)) ?_
    have hz := Stp.refl I_vd w_vm
    refine ⟨?_, trivial⟩
    refine ev_storeA hp (i := 0) (off := 0) (vs := [(.bool x_va.Num.Neg), v_vg, (.bool x_va.Den.Neg), v_vh]) rfl rfl rfl rfl T31 rfl (lbe rfl) (on2 r_vk.one (on2 r_vl.one ones_nil)) ?_
    intro w_vn hp hs
    replace hz := hz.trans hs
    replace ha := ha.trans hs
    replace r_vk := r_vk.step hs
    replace r_vl := r_vl.step hs
    replace r_vi := r_vi.step hs
    replace r_vj := r_vj.step hs
    refine nxS hz (hp.kc 4 rfl (hp.kc 5 rfl kp_nil)) ?_
    have hz := Stp.refl I_vd w_vn
    obtain rfl := Option.some.inj q_tq
    have hp := hp.perm [6, 7, 8, 9, 10, 11, 12, 13, 3, 2, 1, 0] (by decide)
    replace r_3s := r_3s.step ha
    replace r_3t := r_3t.step ha
    replace r_6h := r_6h.step ha
    replace r_6i := r_6i.step ha
    replace r_bi := r_bi.step ha
    replace r_bj := r_bj.step ha
    replace r_bk := r_bk.step ha
    replace r_bl := r_bl.step ha
    replace r_bm := r_bm.step ha
    replace r_bn := r_bn.step ha
    replace r_pm := r_pm.step ha
    replace r_pn := r_pn.step ha
    replace r_po := r_po.step ha
    replace r_pp := r_pp.step ha
    replace r_sd := r_sd.step ha
    replace r_se := r_se.step ha
    replace r_sf := r_sf.step ha
    replace r_sg := r_sg.step ha
    replace r_tf := r_tf.step ha
    replace r_tg := r_tg.step ha
    replace r_th := r_th.step ha
    replace r_ti := r_ti.step ha
    replace tb := tb.step ha
    exact ⟨(x_v9.Num.Neg, x_v9.Num.Mag, x_v9.Den.Neg, x_v9.Den.Mag, x_va.Num.Neg, x_va.Num.Mag, x_va.Den.Neg, x_va.Den.Mag, g_uo, v_ve, v_vf, g_v7, v_vg, v_vh, I_vd), (.c rfl (.c rfl (.c rfl (.c rfl (.c rfl (.c rfl (.c rfl (.c rfl (.c rfl (.c rfl (.c rfl (.c rfl .n)))))))))))), rfl, hp, r_3s, r_3t, r_6h, r_6i, r_bi, r_bj, r_bk, r_bl, r_bm, r_bn, r_sd, r_se, r_sf, r_sg, r_pm, r_pn, r_po, r_pp, r_tf, r_tg, r_th, r_ti, r_vi, r_vj, r_vk, r_vl, tb⟩
   refine ⟨?_, trivial⟩
   refine ev_alloc hp rfl T31 ?_
   intro g_vo w_vp hp hs
   replace hz := hz.trans hs
   replace ha := ha.trans hs
   replace r_tx := r_tx.step hs
   replace r_ty := r_ty.step hs
   refine nxS hz (hp.kc 3 rfl (hp.kc 4 rfl kp_nil)) ?_
   have hz := Stp.refl I_tu w_vp
   refine ⟨?_, ?_⟩
   ·
    obtain ⟨⟨x_vq, x_vr⟩, q_vs, q_tq⟩ := bind_some q_tq
    replace r_u := r_u.step ha
    replace r_v := r_v.step ha
    replace r_sx := r_sx.step ha
    replace r_sy := r_sy.step ha
    refine ev_call rfl rfl C12 (((rotation_Turn_ok n) _ _  (Rot.mk (Int_2.mk x_sn.R.P.Neg x_sn.R.P.Mag) (Int_2.mk x_sn.R.Q.Neg x_sn.R.Q.Mag)) v_sr r_sx v_ss r_sy x_tr v_tv r_tx v_tw r_ty (Rational.mk (Int_2.mk x_o.Num.Neg x_o.Num.Mag) (Int_2.mk x_o.Den.Neg x_o.Den.Mag)) v_s r_u v_t r_v hp.imm _ q_vs).mono ?_)
    rintro _ w_vt ⟨I_vu, v_vv, v_vw, v_vx, v_vy, hv, hq, r_vz, r_w0, r_w1, r_w2⟩
    replace hv := hv.symm
    subst hv
    have hs := hq.st
    have hp := hp.join0 hq
    replace hz := hz.trans hs
    replace ha := ha.trans hs
    refine nxS hz (hp.kc 3 rfl (hp.kc 4 rfl kp_nil)) ?_
    have hz := Stp.refl I_vu w_vt
    refine ⟨SK.same (by kernel_rfl), ?_⟩
    refine ⟨SK.same (by kernel_rfl), ?_⟩
    refine ⟨SK.same (by kernel_rfl), ?_⟩
    refine ⟨?_, trivial⟩
    refine ev_alloc hp rfl T31 ?_
    intro g_w3 w_w4 hp hs
    replace hz := hz.trans hs
    replace ha := ha.trans hs
    replace r_vz := r_vz.step hs
    replace r_w0 := r_w0.step hs
    replace r_w1 := r_w1.step hs
    replace r_w2 := r_w2.step hs
    refine nxS hz (hp.kc 4 rfl (hp.kc 5 rfl kp_nil)) ?_
    have hz := Stp.refl I_vu w_w4
    refine ⟨?_, trivial⟩
    refine ev_storeA hp (i := 0) (off := 0) (vs := [(.bool x_vq.Num.Neg), v_vv, (.bool x_vq.Den.Neg), v_vw]) rfl rfl rfl rfl T31 rfl (lbe rfl) (on2 r_vz.one (on2 r_w0.one ones_nil)) ?_
    intro w_w5 hp hs
    replace hz := hz.trans hs
    replace ha := ha.trans hs
    replace r_w1 := r_w1.step hs
    replace r_w2 := r_w2.step hs
    replace r_vz := r_vz.step hs
    replace r_w0 := r_w0.step hs
    refine nxS hz (hp.kc 4 rfl (hp.kc 5 rfl kp_nil)) ?_
    have hz := Stp.refl I_vu w_w5
    refine ⟨?_, trivial⟩
    refine ev_storeA hp (i := 1) (off := 0) (vs := [(.bool x_vr.Num.Neg), v_vx, (.bool x_vr.Den.Neg), v_vy]) rfl rfl rfl rfl T31 rfl (lbe rfl) (on2 r_w1.one (on2 r_w2.one ones_nil)) ?_
    intro w_w6 hp hs
    replace hz := hz.trans hs
    replace ha := ha.trans hs
    replace r_vz := r_vz.step hs
    replace r_w0 := r_w0.step hs
    replace r_w1 := r_w1.step hs
    replace r_w2 := r_w2.step hs
    refine nxS hz (hp.kc 4 rfl (hp.kc 5 rfl kp_nil)) ?_
    have hz := Stp.refl I_vu w_w6
    obtain rfl := Option.some.inj q_tq
    have hp := hp.perm [6, 7, 8, 9, 10, 11, 12, 13, 3, 2, 0, 1] (by decide)
    replace r_3s := r_3s.step ha
    replace r_3t := r_3t.step ha
    replace r_6h := r_6h.step ha
    replace r_6i := r_6i.step ha
    replace r_bi := r_bi.step ha
    replace r_bj := r_bj.step ha
    replace r_bk := r_bk.step ha
    replace r_bl := r_bl.step ha
    replace r_bm := r_bm.step ha
    replace r_bn := r_bn.step ha
    replace r_pm := r_pm.step ha
    replace r_pn := r_pn.step ha
    replace r_po := r_po.step ha
    replace r_pp := r_pp.step ha
    replace r_sd := r_sd.step ha
    replace r_se := r_se.step ha
    replace r_sf := r_sf.step ha
    replace r_sg := r_sg.step ha
    replace r_tf := r_tf.step ha
    replace r_tg := r_tg.step ha
    replace r_th := r_th.step ha
    replace r_ti := r_ti.step ha
    replace tb := tb.step ha
    exact ⟨(x_vq.Num.Neg, x_vq.Num.Mag, x_vq.Den.Neg, x_vq.Den.Mag, x_vr.Num.Neg, x_vr.Num.Mag, x_vr.Den.Neg, x_vr.Den.Mag, g_w3, v_vv, v_vw, g_vo, v_vx, v_vy, I_vu), (.c rfl (.c rfl (.c rfl (.c rfl (.c rfl (.c rfl (.c rfl (.c rfl (.c rfl (.c rfl (.c rfl (.c rfl .n)))))))))))), rfl, hp, r_3s, r_3t, r_6h, r_6i, r_bi, r_bj, r_bk, r_bl, r_bm, r_bn, r_sd, r_se, r_sf, r_sg, r_pm, r_pn, r_po, r_pp, r_tf, r_tg, r_th, r_ti, r_vz, r_w0, r_w1, r_w2, tb⟩
   refine ⟨?_, trivial⟩
   refine ev_alloc hp rfl T31 ?_
   intro g_w7 w_w8 hp hs
   replace hz := hz.trans hs
   replace ha := ha.trans hs
   replace r_tx := r_tx.step hs
   replace r_ty := r_ty.step hs
   refine nxS hz (hp.kc 4 rfl (hp.kc 5 rfl kp_nil)) ?_
   have hz := Stp.refl I_tu w_w8
   refine ⟨?_, trivial⟩
   obtain ⟨⟨x_w9, x_wa⟩, q_wb, q_tq⟩ := bind_some q_tq
   replace r_u := r_u.step ha
   replace r_v := r_v.step ha
   replace r_sx := r_sx.step ha
   replace r_sy := r_sy.step ha
   refine ev_call rfl rfl C12 (((rotation_Turn_ok n) _ _  (Rot.mk (Int_2.mk x_sn.R.P.Neg x_sn.R.P.Mag) (Int_2.mk x_sn.R.Q.Neg x_sn.R.Q.Mag)) v_sr r_sx v_ss r_sy x_tr v_tv r_tx v_tw r_ty (Rational.mk (Int_2.mk x_o.Num.Neg x_o.Num.Mag) (Int_2.mk x_o.Den.Neg x_o.Den.Mag)) v_s r_u v_t r_v hp.imm _ q_wb).mono ?_)
   rintro _ w_wc ⟨I_wd, v_we, v_wf, v_wg, v_wh, hv, hq, r_wi, r_wj, r_wk, r_wl⟩
   replace hv := hv.symm
   subst hv
   have hs := hq.st
   have hp := hp.join0 hq
   replace hz := hz.trans hs
   replace ha := ha.trans hs
   refine nxS hz (hp.kc 4 rfl (hp.kc 5 rfl kp_nil)) ?_
   have hz := Stp.refl I_wd w_wc
   refine ⟨SK.same (by kernel_rfl), ?_⟩
   refine ⟨SK.same (by kernel_rfl), ?_⟩
   refine ⟨SK.same (by kernel_rfl), ?_⟩
   refine ⟨?_, trivial⟩
   refine ev_storeA hp (i := 0) (off := 0) (vs := [(.bool x_w9.Num.Neg), v_we, (.bool x_w9.Den.Neg), v_wf]) rfl rfl rfl rfl T31 rfl (lbe rfl) (on2 r_wi.one (on2 r_wj.one ones_nil)) ?_
   intro w_wm hp hs
   replace hz := hz.trans hs
   replace ha := ha.trans hs
   replace r_wk := r_wk.step hs
   replace r_wl := r_wl.step hs
   replace r_wi := r_wi.step hs
   replace r_wj := r_wj.step hs
   refine nxS hz (hp.kc 4 rfl (hp.kc 5 rfl kp_nil)) ?_
   have hz := Stp.refl I_wd w_wm
   refine ⟨?_, trivial⟩
   refine ev_storeA hp (i := 1) (off := 0) (vs := [(.bool x_wa.Num.Neg), v_wg, (.bool x_wa.Den.Neg), v_wh]) rfl rfl rfl rfl T31 rfl (lbe rfl) (on2 r_wk.one (on2 r_wl.one ones_nil)) ?_
   intro w_wn hp hs
   replace hz := hz.trans hs
   replace ha := ha.trans hs
   replace r_wi := r_wi.step hs
   replace r_wj := r_wj.step hs
   replace r_wk := r_wk.step hs
   replace r_wl := r_wl.step hs
   refine nxS hz (hp.kc 4 rfl (hp.kc 5 rfl kp_nil)) ?_
   have hz := Stp.refl I_wd w_wn
   obtain rfl := Option.some.inj q_tq
   have hp := hp.perm [6, 7, 8, 9, 10, 11, 12, 13, 3, 2, 0, 1] (by decide)
   replace r_3s := r_3s.step ha
   replace r_3t := r_3t.step ha
   replace r_6h := r_6h.step ha
   replace r_6i := r_6i.step ha
   replace r_bi := r_bi.step ha
   replace r_bj := r_bj.step ha
   replace r_bk := r_bk.step ha
   replace r_bl := r_bl.step ha
   replace r_bm := r_bm.step ha
   replace r_bn := r_bn.step ha
   replace r_pm := r_pm.step ha
   replace r_pn := r_pn.step ha
   replace r_po := r_po.step ha
   replace r_pp := r_pp.step ha
   replace r_sd := r_sd.step ha
   replace r_se := r_se.step ha
   replace r_sf := r_sf.step ha
   replace r_sg := r_sg.step ha
   replace r_tf := r_tf.step ha
   replace r_tg := r_tg.step ha
   replace r_th := r_th.step ha
   replace r_ti := r_ti.step ha
   replace tb := tb.step ha
   exact ⟨(x_w9.Num.Neg, x_w9.Num.Mag, x_w9.Den.Neg, x_w9.Den.Mag, x_wa.Num.Neg, x_wa.Num.Mag, x_wa.Den.Neg, x_wa.Den.Mag, g_w7, v_we, v_wf, g_vo, v_wg, v_wh, I_wd), (.c rfl (.c rfl (.c rfl (.c rfl (.c rfl (.c rfl (.c rfl (.c rfl (.c rfl (.c rfl (.c rfl (.c rfl .n)))))))))))), rfl, hp, r_3s, r_3t, r_6h, r_6i, r_bi, r_bj, r_bk, r_bl, r_bm, r_bn, r_sd, r_se, r_sf, r_sg, r_pm, r_pn, r_po, r_pp, r_tf, r_tg, r_th, r_ti, r_wi, r_wj, r_wk, r_wl, tb⟩
  refine ⟨?_, ?_⟩
  ·
   refine ev_alloc hp rfl T31 ?_
   intro g_wo w_wp hp hs
   replace hz := hz.trans hs
   replace ha := ha.trans hs
   refine nxS hz (hp.kc 3 rfl (hp.kc 4 rfl kp_nil)) ?_
   have hz := Stp.refl I_ta w_wp
   refine ⟨?_, ?_⟩
   ·
    obtain ⟨x_wq, q_wr, q_tq⟩ := bind_some q_tq
    refine ev_call rfl rfl C8 (((rational_Of_ok n) _ _  1 1 hp.imm _ q_wr).mono ?_)
    rintro _ w_ws ⟨I_wt, v_wu, v_wv, hv, hq, r_ww, r_wx⟩
    replace hv := hv.symm
    subst hv
    have hs := hq.st
    have hp := hp.join0 hq
    replace hz := hz.trans hs
    replace ha := ha.trans hs
    refine nxS hz (hp.kc 3 rfl (hp.kc 4 rfl kp_nil)) ?_
    have hz := Stp.refl I_wt w_ws
    refine ⟨?_, ?_⟩
    ·
     obtain ⟨⟨x_wy, x_wz⟩, q_x0, q_tq⟩ := bind_some q_tq
     replace r_u := r_u.step ha
     replace r_v := r_v.step ha
     replace r_sx := r_sx.step ha
     replace r_sy := r_sy.step ha
     refine ev_call rfl rfl C12 (((rotation_Turn_ok n) _ _  (Rot.mk (Int_2.mk x_sn.R.P.Neg x_sn.R.P.Mag) (Int_2.mk x_sn.R.Q.Neg x_sn.R.Q.Mag)) v_sr r_sx v_ss r_sy x_wq v_wu r_ww v_wv r_wx (Rational.mk (Int_2.mk x_o.Num.Neg x_o.Num.Mag) (Int_2.mk x_o.Den.Neg x_o.Den.Mag)) v_s r_u v_t r_v hp.imm _ q_x0).mono ?_)
     rintro _ w_x1 ⟨I_x2, v_x3, v_x4, v_x5, v_x6, hv, hq, r_x7, r_x8, r_x9, r_xa⟩
     replace hv := hv.symm
     subst hv
     have hs := hq.st
     have hp := hp.join0 hq
     replace hz := hz.trans hs
     replace ha := ha.trans hs
     refine nxS hz (hp.kc 3 rfl (hp.kc 4 rfl kp_nil)) ?_
     have hz := Stp.refl I_x2 w_x1
     refine ⟨SK.same (by kernel_rfl), ?_⟩
     refine ⟨SK.same (by kernel_rfl), ?_⟩
     refine ⟨SK.same (by kernel_rfl), ?_⟩
     refine ⟨?_, trivial⟩
     refine ev_alloc hp rfl T31 ?_
     intro g_xb w_xc hp hs
     replace hz := hz.trans hs
     replace ha := ha.trans hs
     replace r_x7 := r_x7.step hs
     replace r_x8 := r_x8.step hs
     replace r_x9 := r_x9.step hs
     replace r_xa := r_xa.step hs
     refine nxS hz (hp.kc 4 rfl (hp.kc 5 rfl kp_nil)) ?_
     have hz := Stp.refl I_x2 w_xc
     refine ⟨?_, trivial⟩
     refine ev_storeA hp (i := 1) (off := 0) (vs := [(.bool x_wy.Num.Neg), v_x3, (.bool x_wy.Den.Neg), v_x4]) rfl rfl rfl rfl T31 rfl (lbe rfl) (on2 r_x7.one (on2 r_x8.one ones_nil)) ?_
     intro w_xd hp hs
     replace hz := hz.trans hs
     replace ha := ha.trans hs
     replace r_x9 := r_x9.step hs
     replace r_xa := r_xa.step hs
     replace r_x7 := r_x7.step hs
     replace r_x8 := r_x8.step hs
     refine nxS hz (hp.kc 4 rfl (hp.kc 5 rfl kp_nil)) ?_
     have hz := Stp.refl I_x2 w_xd
     refine ⟨?_, trivial⟩
     refine ev_storeA hp (i := 0) (off := 0) (vs := [(.bool x_wz.Num.Neg), v_x5, (.bool x_wz.Den.Neg), v_x6]) rfl rfl rfl rfl T31 rfl (lbe rfl) (on2 r_x9.one (on2 r_xa.one ones_nil)) ?_
     intro w_xe hp hs
     replace hz := hz.trans hs
     replace ha := ha.trans hs
     replace r_x9 := r_x9.step hs
     replace r_xa := r_xa.step hs
     replace r_x7 := r_x7.step hs
     replace r_x8 := r_x8.step hs
     refine nxS hz (hp.kc 4 rfl (hp.kc 5 rfl kp_nil)) ?_
     have hz := Stp.refl I_x2 w_xe
     obtain rfl := Option.some.inj q_tq
     have hp := hp.perm [6, 7, 8, 9, 10, 11, 12, 13, 3, 2, 1, 0] (by decide)
     replace r_3s := r_3s.step ha
     replace r_3t := r_3t.step ha
     replace r_6h := r_6h.step ha
     replace r_6i := r_6i.step ha
     replace r_bi := r_bi.step ha
     replace r_bj := r_bj.step ha
     replace r_bk := r_bk.step ha
     replace r_bl := r_bl.step ha
     replace r_bm := r_bm.step ha
     replace r_bn := r_bn.step ha
     replace r_pm := r_pm.step ha
     replace r_pn := r_pn.step ha
     replace r_po := r_po.step ha
     replace r_pp := r_pp.step ha
     replace r_sd := r_sd.step ha
     replace r_se := r_se.step ha
     replace r_sf := r_sf.step ha
     replace r_sg := r_sg.step ha
     replace r_tf := r_tf.step ha
     replace r_tg := r_tg.step ha
     replace r_th := r_th.step ha
     replace r_ti := r_ti.step ha
     replace tb := tb.step ha
     exact ⟨(x_wy.Num.Neg, x_wy.Num.Mag, x_wy.Den.Neg, x_wy.Den.Mag, x_wz.Num.Neg, x_wz.Num.Mag, x_wz.Den.Neg, x_wz.Den.Mag, g_wo, v_x3, v_x4, g_xb, v_x5, v_x6, I_x2), (.c rfl (.c rfl (.c rfl (.c rfl (.c rfl (.c rfl (.c rfl (.c rfl (.c rfl (.c rfl (.c rfl (.c rfl .n)))))))))))), rfl, hp, r_3s, r_3t, r_6h, r_6i, r_bi, r_bj, r_bk, r_bl, r_bm, r_bn, r_sd, r_se, r_sf, r_sg, r_pm, r_pn, r_po, r_pp, r_tf, r_tg, r_th, r_ti, r_x7, r_x8, r_x9, r_xa, tb⟩
    refine ⟨?_, trivial⟩
    refine ev_alloc hp rfl T31 ?_
    intro g_xf w_xg hp hs
    replace hz := hz.trans hs
    replace ha := ha.trans hs
    replace r_ww := r_ww.step hs
    replace r_wx := r_wx.step hs
    refine nxS hz (hp.kc 4 rfl (hp.kc 5 rfl kp_nil)) ?_
    have hz := Stp.refl I_wt w_xg
    refine ⟨?_, trivial⟩
    obtain ⟨⟨x_xh, x_xi⟩, q_xj, q_tq⟩ := bind_some q_tq
    replace r_u := r_u.step ha
    replace r_v := r_v.step ha
    replace r_sx := r_sx.step ha
    replace r_sy := r_sy.step ha
    refine ev_call rfl rfl C12 (((rotation_Turn_ok n) _ _  (Rot.mk (Int_2.mk x_sn.R.P.Neg x_sn.R.P.Mag) (Int_2.mk x_sn.R.Q.Neg x_sn.R.Q.Mag)) v_sr r_sx v_ss r_sy x_wq v_wu r_ww v_wv r_wx (Rational.mk (Int_2.mk x_o.Num.Neg x_o.Num.Mag) (Int_2.mk x_o.Den.Neg x_o.Den.Mag)) v_s r_u v_t r_v hp.imm _ q_xj).mono ?_)
    rintro _ w_xk ⟨I_xl, v_xm, v_xn, v_xo, v_xp, hv, hq, r_xq, r_xr, r_xs, r_xt⟩
    replace hv := hv.symm
    subst hv
    have hs := hq.st
    have hp := hp.join0 hq
    replace hz := hz.trans hs
    replace ha := ha.trans hs
    refine nxS hz (hp.kc 4 rfl (hp.kc 5 rfl kp_nil)) ?_
    have hz := Stp.refl I_xl w_xk
    refine ⟨SK.same (by kernel_rfl), ?_⟩
    refine ⟨SK.same (by kernel_rfl), ?_⟩
    refine ⟨SK.same (by kernel_rfl), ?_⟩
    refine ⟨?_, trivial⟩
    refine ev_storeA hp (i := 1) (off := 0) (vs := [(.bool x_xh.Num.Neg), v_xm, (.bool x_xh.Den.Neg), v_xn]) rfl rfl rfl rfl T31 rfl (lbe rfl) (on2 r_xq.one (on2 r_xr.one ones_nil)) ?_
    intro w_xu hp hs
    replace hz := hz.trans hs
    replace ha := ha.trans hs
    replace r_xs := r_xs.step hs
    replace r_xt := r_xt.step hs
    replace r_xq := r_xq.step hs
    replace r_xr := r_xr.step hs
    refine nxS hz (hp.kc 4 rfl (hp.kc 5 rfl kp_nil)) ?_
    have hz := Stp.refl I_xl w_xu
    refine ⟨?_, trivial⟩
    refine ev_storeA hp (i := 0) (off := 0) (vs := [(.bool x_xi.Num.Neg), v_xo, (.bool x_xi.Den.Neg), v_xp]) rfl rfl rfl rfl T31 rfl (lbe rfl) (on2 r_xs.one (on2 r_xt.one ones_nil)) ?_
    intro w_xv hp hs
    replace hz := hz.trans hs
    replace ha := ha.trans hs
    replace r_xs := r_xs.step hs
    replace r_xt := r_xt.step hs
    replace r_xq := r_xq.step hs
    replace r_xr := r_xr.step hs
    refine nxS hz (hp.kc 4 rfl (hp.kc 5 rfl kp_nil)) ?_
    have hz := Stp.refl I_xl w_xv
    obtain rfl := Option.some.inj q_tq
    have hp := hp.perm [6, 7, 8, 9, 10, 11, 12, 13, 3, 2, 1, 0] (by decide)
    replace r_3s := r_3s.step ha
    replace r_3t := r_3t.step ha
    replace r_6h := r_6h.step ha
    replace r_6i := r_6i.step ha
    replace r_bi := r_bi.step ha
    replace r_bj := r_bj.step ha
    replace r_bk := r_bk.step ha
    replace r_bl := r_bl.step ha
    replace r_bm := r_bm.step ha
    replace r_bn := r_bn.step ha
    replace r_pm := r_pm.step ha
    replace r_pn := r_pn.step ha
    replace r_po := r_po.step ha
    replace r_pp := r_pp.step ha
    replace r_sd := r_sd.step ha
    replace r_se := r_se.step ha
    replace r_sf := r_sf.step ha
    replace r_sg := r_sg.step ha
    replace r_tf := r_tf.step ha
    replace r_tg := r_tg.step ha
    replace r_th := r_th.step ha
    replace r_ti := r_ti.step ha
    replace tb := tb.step ha
    exact ⟨(x_xh.Num.Neg, x_xh.Num.Mag, x_xh.Den.Neg, x_xh.Den.Mag, x_xi.Num.Neg, x_xi.Num.Mag, x_xi.Den.Neg, x_xi.Den.Mag, g_wo, v_xm, v_xn, g_xf, v_xo, v_xp, I_xl), (.c rfl (.c rfl (.c rfl (.c rfl (.c rfl (.c rfl (.c rfl (.c rfl (.c rfl (.c rfl (.c rfl (.c rfl .n)))))))))))), rfl, hp, r_3s, r_3t, r_6h, r_6i, r_bi, r_bj, r_bk, r_bl, r_bm, r_bn, r_sd, r_se, r_sf, r_sg, r_pm, r_pn, r_po, r_pp, r_tf, r_tg, r_th, r_ti, r_xq, r_xr, r_xs, r_xt, tb⟩
   refine ⟨?_, trivial⟩
   refine ev_alloc hp rfl T31 ?_
   intro g_xw w_xx hp hs
   replace hz := hz.trans hs
   replace ha := ha.trans hs
   refine nxS hz (hp.kc 4 rfl (hp.kc 5 rfl kp_nil)) ?_
   have hz := Stp.refl I_ta w_xx
   refine ⟨?_, trivial⟩
   obtain ⟨x_xy, q_xz, q_tq⟩ := bind_some q_tq
   refine ev_call rfl rfl C8 (((rational_Of_ok n) _ _  1 1 hp.imm _ q_xz).mono ?_)
   rintro _ w_y0 ⟨I_y1, v_y2, v_y3, hv, hq, r_y4, r_y5⟩
   replace hv := hv.symm
   subst hv
   have hs := hq.st
   have hp := hp.join0 hq
   replace hz := hz.trans hs
   replace ha := ha.trans hs
   refine nxS hz (hp.kc 4 rfl (hp.kc 5 rfl kp_nil)) ?_
   have hz := Stp.refl I_y1 w_y0
   refine ⟨?_, trivial⟩
   obtain ⟨⟨x_y6, x_y7⟩, q_y8, q_tq⟩ := bind_some q_tq
   replace r_u := r_u.step ha
   replace r_v := r_v.step ha
   replace r_sx := r_sx.step ha
   replace r_sy := r_sy.step ha
   refine ev_call rfl rfl C12 (((rotation_Turn_ok n) _ _  (Rot.mk (Int_2.mk x_sn.R.P.Neg x_sn.R.P.Mag) (Int_2.mk x_sn.R.Q.Neg x_sn.R.Q.Mag)) v_sr r_sx v_ss r_sy x_xy v_y2 r_y4 v_y3 r_y5 (Rational.mk (Int_2.mk x_o.Num.Neg x_o.Num.Mag) (Int_2.mk x_o.Den.Neg x_o.Den.Mag)) v_s r_u v_t r_v hp.imm _ q_y8).mono ?_)
   rintro _ w_y9 ⟨I_ya, v_yb, v_yc, v_yd, v_ye, hv, hq, r_yf, r_yg, r_yh, r_yi⟩
   replace hv := hv.symm
   subst hv
   have hs := hq.st
   have hp := hp.join0 hq
   replace hz := hz.trans hs
   replace ha := ha.trans hs
   refine nxS hz (hp.kc 4 rfl (hp.kc 5 rfl kp_nil)) ?_
   have hz := Stp.refl I_ya w_y9
   refine ⟨SK.same (by kernel_rfl), ?_⟩
   refine ⟨SK.same (by kernel_rfl), ?_⟩
   refine ⟨SK.same (by kernel_rfl), ?_⟩
   refine ⟨?_, trivial⟩
   refine ev_storeA hp (i := 1) (off := 0) (vs := [(.bool x_y6.Num.Neg), v_yb, (.bool x_y6.Den.Neg), v_yc]) rfl rfl rfl rfl T31 rfl (lbe rfl) (on2 r_yf.one (on2 r_yg.one ones_nil)) ?_
   intro w_yj hp hs
   replace hz := hz.trans hs
   replace ha := ha.trans hs
   replace r_yh := r_yh.step hs
   replace r_yi := r_yi.step hs
   replace r_yf := r_yf.step hs
   replace r_yg := r_yg.step hs
   refine nxS hz (hp.kc 4 rfl (hp.kc 5 rfl kp_nil)) ?_
   have hz := Stp.refl I_ya w_yj
   refine ⟨?_, trivial⟩
   refine ev_storeA hp (i := 0) (off := 0) (vs := [(.bool x_y7.Num.Neg), v_yd, (.bool x_y7.Den.Neg), v_ye]) rfl rfl rfl rfl T31 rfl (lbe rfl) (on2 r_yh.one (on2 r_yi.one ones_nil)) ?_
   intro w_yk hp hs
   replace hz := hz.trans hs
   replace ha := ha.trans hs
   replace r_yh := r_yh.step hs
   replace r_yi := r_yi.step hs
   replace r_yf := r_yf.step hs
   replace r_yg := r_yg.step hs
   refine nxS hz (hp.kc 4 rfl (hp.kc 5 rfl kp_nil)) ?_
   have hz := Stp.refl I_ya w_yk
   obtain rfl := Option.some.inj q_tq
   have hp := hp.perm [6, 7, 8, 9, 10, 11, 12, 13, 3, 2, 1, 0] (by decide)
   replace r_3s := r_3s.step ha
   replace r_3t := r_3t.step ha
   replace r_6h := r_6h.step ha
   replace r_6i := r_6i.step ha
   replace r_bi := r_bi.step ha
   replace r_bj := r_bj.step ha
   replace r_bk := r_bk.step ha
   replace r_bl := r_bl.step ha
   replace r_bm := r_bm.step ha
   replace r_bn := r_bn.step ha
   replace r_pm := r_pm.step ha
   replace r_pn := r_pn.step ha
   replace r_po := r_po.step ha
   replace r_pp := r_pp.step ha
   replace r_sd := r_sd.step ha
   replace r_se := r_se.step ha
   replace r_sf := r_sf.step ha
   replace r_sg := r_sg.step ha
   replace r_tf := r_tf.step ha
   replace r_tg := r_tg.step ha
   replace r_th := r_th.step ha
   replace r_ti := r_ti.step ha
   replace tb := tb.step ha
   exact ⟨(x_y6.Num.Neg, x_y6.Num.Mag, x_y6.Den.Neg, x_y6.Den.Mag, x_y7.Num.Neg, x_y7.Num.Mag, x_y7.Den.Neg, x_y7.Den.Mag, g_wo, v_yb, v_yc, g_xw, v_yd, v_ye, I_ya), (.c rfl (.c rfl (.c rfl (.c rfl (.c rfl (.c rfl (.c rfl (.c rfl (.c rfl (.c rfl (.c rfl (.c rfl .n)))))))))))), rfl, hp, r_3s, r_3t, r_6h, r_6i, r_bi, r_bj, r_bk, r_bl, r_bm, r_bn, r_sd, r_se, r_sf, r_sg, r_pm, r_pn, r_po, r_pp, r_tf, r_tg, r_th, r_ti, r_yf, r_yg, r_yh, r_yi, tb⟩
  refine ⟨?_, trivial⟩
  refine ev_alloc hp rfl T31 ?_
  intro g_yl w_ym hp hs
  replace hz := hz.trans hs
  replace ha := ha.trans hs
  refine nxS hz (hp.kc 3 rfl (hp.kc 4 rfl kp_nil)) ?_
  have hz := Stp.refl I_ta w_ym
  refine ⟨?_, ?_⟩
  ·
   obtain ⟨x_yn, q_yo, q_tq⟩ := bind_some q_tq
   refine ev_call rfl rfl C8 (((rational_Of_ok n) _ _  1 1 hp.imm _ q_yo).mono ?_)
   rintro _ w_yp ⟨I_yq, v_yr, v_ys, hv, hq, r_yt, r_yu⟩
   replace hv := hv.symm
   subst hv
   have hs := hq.st
   have hp := hp.join0 hq
   replace hz := hz.trans hs
   replace ha := ha.trans hs
   refine nxS hz (hp.kc 3 rfl (hp.kc 4 rfl kp_nil)) ?_
   have hz := Stp.refl I_yq w_yp
   refine ⟨?_, ?_⟩
   ·
    obtain ⟨⟨x_yv, x_yw⟩, q_yx, q_tq⟩ := bind_some q_tq
    replace r_u := r_u.step ha
    replace r_v := r_v.step ha
    replace r_sx := r_sx.step ha
    replace r_sy := r_sy.step ha
    refine ev_call rfl rfl C12 (((rotation_Turn_ok n) _ _  (Rot.mk (Int_2.mk x_sn.R.P.Neg x_sn.R.P.Mag) (Int_2.mk x_sn.R.Q.Neg x_sn.R.Q.Mag)) v_sr r_sx v_ss r_sy x_yn v_yr r_yt v_ys r_yu (Rational.mk (Int_2.mk x_o.Num.Neg x_o.Num.Mag) (Int_2.mk x_o.Den.Neg x_o.Den.Mag)) v_s r_u v_t r_v hp.imm _ q_yx).mono ?_)
    rintro _ w_yy ⟨I_yz, v_z0, v_z1, v_z2, v_z3, hv, hq, r_z4, r_z5, r_z6, r_z7⟩
    replace hv := hv.symm
    subst hv
    have hs := hq.st
    have hp := hp.join0 hq
    replace hz := hz.trans hs
    replace ha := ha.trans hs
    refine nxS hz (hp.kc 3 rfl (hp.kc 4 rfl kp_nil)) ?_
    have hz := Stp.refl I_yz w_yy
    refine ⟨SK.same (by kernel_rfl), ?_⟩
    refine ⟨SK.same (by kernel_rfl), ?_⟩
    refine ⟨SK.same (by kernel_rfl), ?_⟩
    refine ⟨?_, trivial⟩
    refine ev_alloc hp rfl T31 ?_
    intro g_z8 w_z9 hp hs
    replace hz := hz.trans hs
    replace ha := ha.trans hs
    replace r_z4 := r_z4.step hs
    replace r_z5 := r_z5.step hs
    replace r_z6 := r_z6.step hs
    replace r_z7 := r_z7.step hs
    refine nxS hz (hp.kc 4 rfl (hp.kc 5 rfl kp_nil)) ?_
    have hz := Stp.refl I_yz w_z9
    refine ⟨?_, trivial⟩
    refine ev_storeA hp (i := 0) (off := 0) (vs := [(.bool x_yv.Num.Neg), v_z0, (.bool x_yv.Den.Neg), v_z1]) rfl rfl rfl rfl T31 rfl (lbe rfl) (on2 r_z4.one (on2 r_z5.one ones_nil)) ?_
    intro w_za hp hs
    replace hz := hz.trans hs
    replace ha := ha.trans hs
    replace r_z6 := r_z6.step hs
    replace r_z7 := r_z7.step hs
    replace r_z4 := r_z4.step hs
    replace r_z5 := r_z5.step hs
    refine nxS hz (hp.kc 4 rfl (hp.kc 5 rfl kp_nil)) ?_
    have hz := Stp.refl I_yz w_za
    refine ⟨?_, trivial⟩
    refine ev_storeA hp (i := 1) (off := 0) (vs := [(.bool x_yw.Num.Neg), v_z2, (.bool x_yw.Den.Neg), v_z3]) rfl rfl rfl rfl T31 rfl (lbe rfl) (on2 r_z6.one (on2 r_z7.one ones_nil)) ?_
    intro w_zb hp hs
    replace hz := hz.trans hs
    replace ha := ha.trans hs
    replace r_z4 := r_z4.step hs
    replace r_z5 := r_z5.step hs
    replace r_z6 := r_z6.step hs
    replace r_z7 := r_z7.step hs
    refine nxS hz (hp.kc 4 rfl (hp.kc 5 rfl kp_nil)) ?_
    have hz := Stp.refl I_yz w_zb
    obtain rfl := Option.some.inj q_tq
    have hp := hp.perm [6, 7, 8, 9, 10, 11, 12, 13, 3, 2, 0, 1] (by decide)
    replace r_3s := r_3s.step ha
    replace r_3t := r_3t.step ha
    replace r_6h := r_6h.step ha
    replace r_6i := r_6i.step ha
    replace r_bi := r_bi.step ha
    replace r_bj := r_bj.step ha
    replace r_bk := r_bk.step ha
    replace r_bl := r_bl.step ha
    replace r_bm := r_bm.step ha
    replace r_bn := r_bn.step ha
    replace r_pm := r_pm.step ha
    replace r_pn := r_pn.step ha
    replace r_po := r_po.step ha
    replace r_pp := r_pp.step ha
    replace r_sd := r_sd.step ha
    replace r_se := r_se.step ha
    replace r_sf := r_sf.step ha
    replace r_sg := r_sg.step ha
    replace r_tf := r_tf.step ha
    replace r_tg := r_tg.step ha
    replace r_th := r_th.step ha
    replace r_ti := r_ti.step ha
    replace tb := tb.step ha
    exact ⟨(x_yv.Num.Neg, x_yv.Num.Mag, x_yv.Den.Neg, x_yv.Den.Mag, x_yw.Num.Neg, x_yw.Num.Mag, x_yw.Den.Neg, x_yw.Den.Mag, g_z8, v_z0, v_z1, g_yl, v_z2, v_z3, I_yz), (.c rfl (.c rfl (.c rfl (.c rfl (.c rfl (.c rfl (.c rfl (.c rfl (.c rfl (.c rfl (.c rfl (.c rfl .n)))))))))))), rfl, hp, r_3s, r_3t, r_6h, r_6i, r_bi, r_bj, r_bk, r_bl, r_bm, r_bn, r_sd, r_se, r_sf, r_sg, r_pm, r_pn, r_po, r_pp, r_tf, r_tg, r_th, r_ti, r_z4, r_z5, r_z6, r_z7, tb⟩
   refine ⟨?_, trivial⟩
   refine ev_alloc hp rfl T31 ?_
   intro g_zc w_zd hp hs
   replace hz := hz.trans hs
   replace ha := ha.trans hs
   replace r_yt := r_yt.step hs
   replace r_yu := r_yu.step hs
   refine nxS hz (hp.kc 4 rfl (hp.kc 5 rfl kp_nil)) ?_
   have hz := Stp.refl I_yq w_zd
   refine ⟨?_, trivial⟩
   obtain ⟨⟨x_ze, x_zf⟩, q_zg, q_tq⟩ := bind_some q_tq
   replace r_u := r_u.step ha
   replace r_v := r_v.step ha
   replace r_sx := r_sx.step ha
   replace r_sy := r_sy.step ha
   refine ev_call rfl rfl C12 (((rotation_Turn_ok n) _ _  (Rot.mk (Int_2.mk x_sn.R.P.Neg x_sn.R.P.Mag) (Int_2.mk x_sn.R.Q.Neg x_sn.R.Q.Mag)) v_sr r_sx v_ss r_sy x_yn v_yr r_yt v_ys r_yu (Rational.mk (Int_2.mk x_o.Num.Neg x_o.Num.Mag) (Int_2.mk x_o.Den.Neg x_o.Den.Mag)) v_s r_u v_t r_v hp.imm _ q_zg).mono ?_)
   rintro _ w_zh ⟨I_zi, v_zj, v_zk, v_zl, v_zm, hv, hq, r_zn, r_zo, r_zp, r_zq⟩
   replace hv := hv.symm
   subst hv
   have hs := hq.st
   have hp := hp.join0 hq
   replace hz := hz.trans hs
   replace ha := ha.trans hs
   refine nxS hz (hp.kc 4 rfl (hp.kc 5 rfl kp_nil)) ?_
   have hz := Stp.refl I_zi w_zh
   refine ⟨SK.same (by kernel_rfl), ?_⟩
   refine ⟨SK.same (by kernel_rfl), ?_⟩
   refine ⟨SK.same (by kernel_rfl), ?_⟩
   refine ⟨?_, trivial⟩
   refine ev_storeA hp (i := 0) (off := 0) (vs := [(.bool x_ze.Num.Neg), v_zj, (.bool x_ze.Den.Neg), v_zk]) rfl rfl rfl rfl T31 rfl (lbe rfl) (on2 r_zn.one (on2 r_zo.one ones_nil)) ?_
   intro w_zr hp hs
   replace hz := hz.trans hs
   replace ha := ha.trans hs
   replace r_zp := r_zp.step hs
   replace r_zq := r_zq.step hs
   replace r_zn := r_zn.step hs
   replace r_zo := r_zo.step hs
   refine nxS hz (hp.kc 4 rfl (hp.kc 5 rfl kp_nil)) ?_
   have hz := Stp.refl I_zi w_zr
   refine ⟨?_, trivial⟩
   refine ev_storeA hp (i := 1) (off := 0) (vs := [(.bool x_zf.Num.Neg), v_zl, (.bool x_zf.Den.Neg), v_zm]) rfl rfl rfl rfl T31 rfl (lbe rfl) (on2 r_zp.one (on2 r_zq.one ones_nil)) ?_
   intro w_zs hp hs
   replace hz := hz.trans hs
   replace ha := ha.trans hs
   replace r_zn := r_zn.step hs
   replace r_zo := r_zo.step hs
   replace r_zp := r_zp.step hs
   replace r_zq := r_zq.step hs
   refine nxS hz (hp.kc 4 rfl (hp.kc 5 rfl kp_nil)) ?_
   have hz := Stp.refl I_zi w_zs
   obtain rfl := Option.some.inj q_tq
   have hp := hp.perm [6, 7, 8, 9, 10, 11, 12, 13, 3, 2, 0, 1] (by decide)
   replace r_3s := r_3s.step ha
   replace r_3t := r_3t.step ha
   replace r_6h := r_6h.step ha
   replace r_6i := r_6i.step ha
   replace r_bi := r_bi.step ha
   replace r_bj := r_bj.step ha
   replace r_bk := r_bk.step ha
   replace r_bl := r_bl.step ha
   replace r_bm := r_bm.step ha
   replace r_bn := r_bn.step ha
   replace r_pm := r_pm.step ha
   replace r_pn := r_pn.step ha
   replace r_po := r_po.step ha
   replace r_pp := r_pp.step ha
   replace r_sd := r_sd.step ha
   replace r_se := r_se.step ha
   replace r_sf := r_sf.step ha
   replace r_sg := r_sg.step ha
   replace r_tf := r_tf.step ha
   replace r_tg := r_tg.step ha
   replace r_th := r_th.step ha
   replace r_ti := r_ti.step ha
   replace tb := tb.step ha
   exact ⟨(x_ze.Num.Neg, x_ze.Num.Mag, x_ze.Den.Neg, x_ze.Den.Mag, x_zf.Num.Neg, x_zf.Num.Mag, x_zf.Den.Neg, x_zf.Den.Mag, g_zc, v_zj, v_zk, g_yl, v_zl, v_zm, I_zi), (.c rfl (.c rfl (.c rfl (.c rfl (.c rfl (.c rfl (.c rfl (.c rfl (.c rfl (.c rfl (.c rfl (.c rfl .n)))))))))))), rfl, hp, r_3s, r_3t, r_6h, r_6i, r_bi, r_bj, r_bk, r_bl, r_bm, r_bn, r_sd, r_se, r_sf, r_sg, r_pm, r_pn, r_po, r_pp, r_tf, r_tg, r_th, r_ti, r_zn, r_zo, r_zp, r_zq, tb⟩
  refine ⟨?_, trivial⟩
  refine ev_alloc hp rfl T31 ?_
  intro g_zt w_zu hp hs
  replace hz := hz.trans hs
  replace ha := ha.trans hs
  refine nxS hz (hp.kc 4 rfl (hp.kc 5 rfl kp_nil)) ?_
  have hz := Stp.refl I_ta w_zu
  refine ⟨?_, trivial⟩
  obtain ⟨x_zv, q_zw, q_tq⟩ := bind_some q_tq
  refine ev_call rfl rfl C8 (((rational_Of_ok n) _ _  1 1 hp.imm _ q_zw).mono ?_)
  rintro _ w_zx ⟨I_zy, v_zz, v_100, hv, hq, r_101, r_102⟩
  replace hv := hv.symm
  subst hv
  have hs := hq.st
  have hp := hp.join0 hq
  replace hz := hz.trans hs
  replace ha := ha.trans hs
  refine nxS hz (hp.kc 4 rfl (hp.kc 5 rfl kp_nil)) ?_
  have hz := Stp.refl I_zy w_zx
  refine ⟨?_, trivial⟩
  obtain ⟨⟨x_103, x_104⟩, q_105, q_tq⟩ := bind_some q_tq
  replace r_u := r_u.step ha
  replace r_v := r_v.step ha
  replace r_sx := r_sx.step ha
  replace r_sy := r_sy.step ha
  refine ev_call rfl rfl C12 (((rotation_Turn_ok n) _ _  (Rot.mk (Int_2.mk x_sn.R.P.Neg x_sn.R.P.Mag) (Int_2.mk x_sn.R.Q.Neg x_sn.R.Q.Mag)) v_sr r_sx v_ss r_sy x_zv v_zz r_101 v_100 r_102 (Rational.mk (Int_2.mk x_o.Num.Neg x_o.Num.Mag) (Int_2.mk x_o.Den.Neg x_o.Den.Mag)) v_s r_u v_t r_v hp.imm _ q_105).mono ?_)
  rintro _ w_106 ⟨I_107, v_108, v_109, v_10a, v_10b, hv, hq, r_10c, r_10d, r_10e, r_10f⟩
  replace hv := hv.symm
  subst hv
  have hs := hq.st
  have hp := hp.join0 hq
  replace hz := hz.trans hs
  replace ha := ha.trans hs
  refine nxS hz (hp.kc 4 rfl (hp.kc 5 rfl kp_nil)) ?_
  have hz := Stp.refl I_107 w_106
  refine ⟨SK.same (by kernel_rfl), ?_⟩
  refine ⟨SK.same (by kernel_rfl), ?_⟩
  refine ⟨SK.same (by kernel_rfl), ?_⟩
  refine ⟨?_, trivial⟩
  refine ev_storeA hp (i := 0) (off := 0) (vs := [(.bool x_103.Num.Neg), v_108, (.bool x_103.Den.Neg), v_109]) rfl rfl rfl rfl T31 rfl (lbe rfl) (on2 r_10c.one (on2 r_10d.one ones_nil)) ?_
  intro w_10g hp hs
  replace hz := hz.trans hs
  replace ha := ha.trans hs
  replace r_10e := r_10e.step hs
  replace r_10f := r_10f.step hs
  replace r_10c := r_10c.step hs
  replace r_10d := r_10d.step hs
  refine nxS hz (hp.kc 4 rfl (hp.kc 5 rfl kp_nil)) ?_
  have hz := Stp.refl I_107 w_10g
  refine ⟨?_, trivial⟩
  refine ev_storeA hp (i := 1) (off := 0) (vs := [(.bool x_104.Num.Neg), v_10a, (.bool x_104.Den.Neg), v_10b]) rfl rfl rfl rfl T31 rfl (lbe rfl) (on2 r_10e.one (on2 r_10f.one ones_nil)) ?_
  intro w_10h hp hs
  replace hz := hz.trans hs
  replace ha := ha.trans hs
  replace r_10c := r_10c.step hs
  replace r_10d := r_10d.step hs
  replace r_10e := r_10e.step hs
  replace r_10f := r_10f.step hs
  refine nxS hz (hp.kc 4 rfl (hp.kc 5 rfl kp_nil)) ?_
  have hz := Stp.refl I_107 w_10h
  obtain rfl := Option.some.inj q_tq
  have hp := hp.perm [6, 7, 8, 9, 10, 11, 12, 13, 3, 2, 0, 1] (by decide)
  replace r_3s := r_3s.step ha
  replace r_3t := r_3t.step ha
  replace r_6h := r_6h.step ha
  replace r_6i := r_6i.step ha
  replace r_bi := r_bi.step ha
  replace r_bj := r_bj.step ha
  replace r_bk := r_bk.step ha
  replace r_bl := r_bl.step ha
  replace r_bm := r_bm.step ha
  replace r_bn := r_bn.step ha
  replace r_pm := r_pm.step ha
  replace r_pn := r_pn.step ha
  replace r_po := r_po.step ha
  replace r_pp := r_pp.step ha
  replace r_sd := r_sd.step ha
  replace r_se := r_se.step ha
  replace r_sf := r_sf.step ha
  replace r_sg := r_sg.step ha
  replace r_tf := r_tf.step ha
  replace r_tg := r_tg.step ha
  replace r_th := r_th.step ha
  replace r_ti := r_ti.step ha
  replace tb := tb.step ha
  exact ⟨(x_103.Num.Neg, x_103.Num.Mag, x_103.Den.Neg, x_103.Den.Mag, x_104.Num.Neg, x_104.Num.Mag, x_104.Den.Neg, x_104.Den.Mag, g_zt, v_108, v_109, g_yl, v_10a, v_10b, I_107), (.c rfl (.c rfl (.c rfl (.c rfl (.c rfl (.c rfl (.c rfl (.c rfl (.c rfl (.c rfl (.c rfl (.c rfl .n)))))))))))), rfl, hp, r_3s, r_3t, r_6h, r_6i, r_bi, r_bj, r_bk, r_bl, r_bm, r_bn, r_sd, r_se, r_sf, r_sg, r_pm, r_pn, r_po, r_pp, r_tf, r_tg, r_th, r_ti, r_10c, r_10d, r_10e, r_10f, tb⟩
 rintro ⟨x_10i, x_10j, x_10k, x_10l, x_10m, x_10n, x_10o, x_10p, g_10q, v_10r, v_10s, g_10t, v_10u, v_10v, I_10w⟩ w_10x ⟨hy, hp, r_3s, r_3t, r_6h, r_6i, r_bi, r_bj, r_bk, r_bl, r_bm, r_bn, r_sd, r_se, r_sf, r_sg, r_pm, r_pn, r_po, r_pp, r_tf, r_tg, r_th, r_ti, r_10y, r_10z, r_110, r_111, tb⟩
 replace hy := hy.symm
 subst hy
 obtain ⟨y_112, q_113, h⟩ := bind_some h
 refine W.cut (γ := (Bool × (List Int) × Bool × (List Int) × Bool × (List Int) × Bool × (List Int) × Nat × Value × Value × Nat × Value × Value × (Nat → Prop))) (fun g => [(8, (.pointer (some ⟨g_12, 0, none⟩))), (9, (.pointer (some ⟨g_3n, 0, none⟩))), (10, (.pointer (some ⟨g_6c, 0, none⟩))), (12, (.pointer (some ⟨g_p1, 0, none⟩))), (13, (.pointer (some ⟨g_p4, 0, none⟩))), (14, (.pointer (some ⟨g_pq, 0, none⟩))), (15, (.pointer (some ⟨g_ps, 0, none⟩))), (18, (.pointer (some ⟨g_tj, 0, none⟩))), (19, (.pointer (some ⟨g_tl, 0, none⟩))), (20, (.pointer (some ⟨g_10q, 0, none⟩))), (21, (.pointer (some ⟨g_10t, 0, none⟩))), (22, (.pointer (some ⟨(g.2.2.2.2.2.2.2.2.1), 0, none⟩))), (23, (.pointer (some ⟨(g.2.2.2.2.2.2.2.2.2.2.2.1), 0, none⟩)))]) (fun g w' => y_112 = ((g.1), (g.2.1), (g.2.2.1), (g.2.2.2.1), (g.2.2.2.2.1), (g.2.2.2.2.2.1), (g.2.2.2.2.2.2.1), (g.2.2.2.2.2.2.2.1)) ∧ Hp ⟨w0, I0, []⟩ (g.2.2.2.2.2.2.2.2.2.2.2.2.2.2) [some (g_12, [(.int .i64 x_z.X), (.int .i64 x_z.Y), (.int .i64 x_z.D)], 34), some (g_3n, [(.bool x_3j), v_3o, (.bool x_3l), v_3p], 31), some (g_6c, [(.bool x_68), v_6d, (.bool x_6a), v_6e], 31), some (g_p1, [(.bool x_ot), v_s0, (.bool x_ov), v_s1], 31), some (g_p4, [(.bool x_ox), v_s2, (.bool x_oz), v_s3], 31), some (g_pq, [(.bool x_pd.Num.Neg), v_pi, (.bool x_pd.Den.Neg), v_pj], 31), some (g_ps, [(.bool x_pe.Num.Neg), v_pk, (.bool x_pe.Den.Neg), v_pl], 31), some (g_tj, [(.bool x_t6.Num.Neg), v_tb, (.bool x_t6.Den.Neg), v_tc], 31), some (g_tl, [(.bool x_t7.Num.Neg), v_td, (.bool x_t7.Den.Neg), v_te], 31), some (g_10q, [(.bool x_10i), v_10r, (.bool x_10k), v_10s], 31), some (g_10t, [(.bool x_10m), v_10u, (.bool x_10o), v_10v], 31), some ((g.2.2.2.2.2.2.2.2.1), [(.bool (g.1)), (g.2.2.2.2.2.2.2.2.2.1), (.bool (g.2.2.1)), (g.2.2.2.2.2.2.2.2.2.2.1)], 31), some ((g.2.2.2.2.2.2.2.2.2.2.2.1), [(.bool (g.2.2.2.2.1)), (g.2.2.2.2.2.2.2.2.2.2.2.2.1), (.bool (g.2.2.2.2.2.2.1)), (g.2.2.2.2.2.2.2.2.2.2.2.2.2.1)], 31)] w' ∧ RepS (dI .u32) w' (g.2.2.2.2.2.2.2.2.2.2.2.2.2.2) v_3o x_3k ∧ RepS (dI .u32) w' (g.2.2.2.2.2.2.2.2.2.2.2.2.2.2) v_3p x_3m ∧ RepS (dI .u32) w' (g.2.2.2.2.2.2.2.2.2.2.2.2.2.2) v_6d x_69 ∧ RepS (dI .u32) w' (g.2.2.2.2.2.2.2.2.2.2.2.2.2.2) v_6e x_6b ∧ RepS (dI .u32) w' (g.2.2.2.2.2.2.2.2.2.2.2.2.2.2) v_s0 x_rk ∧ RepS (dI .u32) w' (g.2.2.2.2.2.2.2.2.2.2.2.2.2.2) v_s1 x_rl ∧ RepS (dI .u32) w' (g.2.2.2.2.2.2.2.2.2.2.2.2.2.2) v_s2 x_rm ∧ RepS (dI .u32) w' (g.2.2.2.2.2.2.2.2.2.2.2.2.2.2) v_s3 x_rn ∧ RepS (dI .u32) w' (g.2.2.2.2.2.2.2.2.2.2.2.2.2.2) v_pi x_pd.Num.Mag ∧ RepS (dI .u32) w' (g.2.2.2.2.2.2.2.2.2.2.2.2.2.2) v_pj x_pd.Den.Mag ∧ RepS (dI .u32) w' (g.2.2.2.2.2.2.2.2.2.2.2.2.2.2) v_pk x_pe.Num.Mag ∧ RepS (dI .u32) w' (g.2.2.2.2.2.2.2.2.2.2.2.2.2.2) v_pl x_pe.Den.Mag ∧ RepS (dI .u32) w' (g.2.2.2.2.2.2.2.2.2.2.2.2.2.2) v_tb x_t6.Num.Mag ∧ RepS (dI .u32) w' (g.2.2.2.2.2.2.2.2.2.2.2.2.2.2) v_tc x_t6.Den.Mag ∧ RepS (dI .u32) w' (g.2.2.2.2.2.2.2.2.2.2.2.2.2.2) v_td x_t7.Num.Mag ∧ RepS (dI .u32) w' (g.2.2.2.2.2.2.2.2.2.2.2.2.2.2) v_te x_t7.Den.Mag ∧ RepS (dI .u32) w' (g.2.2.2.2.2.2.2.2.2.2.2.2.2.2) v_10r x_10j ∧ RepS (dI .u32) w' (g.2.2.2.2.2.2.2.2.2.2.2.2.2.2) v_10s x_10l ∧ RepS (dI .u32) w' (g.2.2.2.2.2.2.2.2.2.2.2.2.2.2) v_10u x_10n ∧ RepS (dI .u32) w' (g.2.2.2.2.2.2.2.2.2.2.2.2.2.2) v_10v x_10p ∧ RepS (dI .u32) w' (g.2.2.2.2.2.2.2.2.2.2.2.2.2.2) (g.2.2.2.2.2.2.2.2.2.1) (g.2.1) ∧ RepS (dI .u32) w' (g.2.2.2.2.2.2.2.2.2.2.2.2.2.2) (g.2.2.2.2.2.2.2.2.2.2.1) (g.2.2.2.1) ∧ RepS (dI .u32) w' (g.2.2.2.2.2.2.2.2.2.2.2.2.2.2) (g.2.2.2.2.2.2.2.2.2.2.2.2.1) (g.2.2.2.2.2.1) ∧ RepS (dI .u32) w' (g.2.2.2.2.2.2.2.2.2.2.2.2.2.2) (g.2.2.2.2.2.2.2.2.2.2.2.2.2.1) (g.2.2.2.2.2.2.2.1) ∧ Tb w' (g.2.2.2.2.2.2.2.2.2.2.2.2.2.2) 2 .u64 pow10) ?_ ?_
 ·
  have hs := hp.stp (Ch.drew [] w_10x)
  have hp := hp.drew
  replace ha := hs
  refine W.heldG (.q 0 (.q 2 (.q 3 (.l 1 (.l 4 (.q 5 (.q 6 (.q 7 (.l 8 (.l 9 (.l 10 (.l 11 .done .no) .no) .no) (.l 9 (.l 8 (.l 10 (.l 11 .done .no) .no) .no) .no))))) (.l 8 (.l 4 (.q 5 (.q 6 (.q 7 (.l 9 (.l 10 (.l 11 .done .no) .no) .no)))) (.l 9 (.l 4 (.q 5 (.q 6 (.q 7 (.l 10 (.l 11 .done .no) .no)))) .no) .no)) (.l 9 (.l 4 (.q 5 (.q 6 (.q 7 (.l 8 (.l 10 (.l 11 .done .no) .no) .no)))) (.l 8 (.l 4 (.q 5 (.q 6 (.q 7 (.l 10 (.l 11 .done .no) .no)))) .no) .no)) .no))) (.l 8 (.l 1 (.l 4 (.q 5 (.q 6 (.q 7 (.l 9 (.l 10 (.l 11 .done .no) .no) .no)))) (.l 9 (.l 4 (.q 5 (.q 6 (.q 7 (.l 10 (.l 11 .done .no) .no)))) .no) .no)) (.l 9 (.l 1 (.l 4 (.q 5 (.q 6 (.q 7 (.l 10 (.l 11 .done .no) .no)))) .no) .no) .no)) (.l 9 (.l 1 (.l 4 (.q 5 (.q 6 (.q 7 (.l 8 (.l 10 (.l 11 .done .no) .no) .no)))) (.l 8 (.l 4 (.q 5 (.q 6 (.q 7 (.l 10 (.l 11 .done .no) .no)))) .no) .no)) (.l 8 (.l 1 (.l 4 (.q 5 (.q 6 (.q 7 (.l 10 (.l 11 .done .no) .no)))) .no) .no) .no)) .no)))))) (SK (Stp I_10w w_10x.drew I_10w) [(g_b9, [(.bool x_ax), v_ba, (.bool x_az), v_bb, (.bool x_b1), v_bc, (.bool x_b3), v_bd, (.bool x_b5), v_be, (.bool x_b7), v_bf], 41), (g_3n, [(.bool x_3j), v_3o, (.bool x_3l), v_3p], 31), (g_6c, [(.bool x_68), v_6d, (.bool x_6a), v_6e], 31)] [[], [], []]) MX (by kernel_rfl) ⟨Stp.refl _ _, (kp_cons (fun _ => (hp.own 3 _ _ _ rfl).1) (kp_cons (fun _ => (hp.own 1 _ _ _ rfl).1) (kp_cons (fun _ => (hp.own 2 _ _ _ rfl).1) kp_nil)))⟩ ?_
  have hz := Stp.refl I_10w w_10x.drew
  refine ⟨SK.same (by kernel_rfl), ?_⟩
  refine evh (fun w' hw => rn_load rfl rfl (run_loadVarA T41 rfl ((S0.keep (p := 0) hw rfl rfl (by kernel_rfl)).at_ (i := 0) rfl))) ?_
  refine ⟨SK.same (by kernel_rfl), ?_⟩
  refine evh (fun w' hw => rn_load rfl rfl (run_loadVarA T31 rfl ((S0.keep (p := 1) hw rfl rfl (by kernel_rfl)).at_ (i := 0) rfl))) ?_
  refine ⟨SK.same (by kernel_rfl), ?_⟩
  refine evh (fun w' hw => rn_load rfl rfl (run_loadVarA T31 rfl ((S0.keep (p := 2) hw rfl rfl (by kernel_rfl)).at_ (i := 0) rfl))) ?_
  refine ⟨?_, ?_⟩
  ·
   obtain ⟨x_114, q_115, q_113⟩ := bind_some q_113
   replace r_bi := r_bi.step ha
   replace r_bj := r_bj.step ha
   replace r_bk := r_bk.step ha
   replace r_bl := r_bl.step ha
   replace r_bm := r_bm.step ha
   replace r_bn := r_bn.step ha
   refine ev_call rfl rfl C15 (((rotation_Back_ok n) _ _  (Transform.mk (Rot.mk (Int_2.mk x_ax x_ay) (Int_2.mk x_az x_b0)) (Rational.mk (Int_2.mk x_b1 x_b2) (Int_2.mk x_b3 x_b4)) (Rational.mk (Int_2.mk x_b5 x_b6) (Int_2.mk x_b7 x_b8))) v_ba r_bi v_bb r_bj v_bc r_bk v_bd r_bl v_be r_bm v_bf r_bn hp.imm _ q_115).mono ?_)
   rintro _ w_116 ⟨I_117, v_118, v_119, v_11a, v_11b, v_11c, v_11d, hv, hq, r_11e, r_11f, r_11g, r_11h, r_11i, r_11j⟩
   replace hv := hv.symm
   subst hv
   have hs := hq.st
   have hp := hp.join0 hq
   replace hz := hz.trans hs
   replace ha := ha.trans hs
   refine nxS hz (hp.kc 3 rfl (hp.kc 1 rfl (hp.kc 2 rfl kp_nil))) ?_
   have hz := Stp.refl I_117 w_116
   refine ⟨?_, ?_⟩
   ·
    obtain ⟨⟨x_11k, x_11l⟩, q_11m, q_113⟩ := bind_some q_113
    replace r_3s := r_3s.step ha
    replace r_3t := r_3t.step ha
    replace r_6h := r_6h.step ha
    replace r_6i := r_6i.step ha
    refine ev_call rfl rfl C13 (((rotation_Act_ok n) _ _  x_114 v_118 r_11e v_119 r_11f v_11a r_11g v_11b r_11h v_11c r_11i v_11d r_11j (Rational.mk (Int_2.mk x_3j x_3k) (Int_2.mk x_3l x_3m)) v_3o r_3s v_3p r_3t (Rational.mk (Int_2.mk x_68 x_69) (Int_2.mk x_6a x_6b)) v_6d r_6h v_6e r_6i hp.imm _ q_11m).mono ?_)
    rintro _ w_11n ⟨I_11o, v_11p, v_11q, v_11r, v_11s, hv, hq, r_11t, r_11u, r_11v, r_11w⟩
    replace hv := hv.symm
    subst hv
    have hs := hq.st
    have hp := hp.join0 hq
    replace hz := hz.trans hs
    replace ha := ha.trans hs
    replace r_3s := r_3s.step hs
    replace r_3t := r_3t.step hs
    replace r_6h := r_6h.step hs
    replace r_6i := r_6i.step hs
    refine nxS hz (hp.kc 3 rfl (hp.kc 1 rfl (hp.kc 2 rfl kp_nil))) ?_
    have hz := Stp.refl I_11o w_11n
    refine ⟨SK.same (by kernel_rfl), ?_⟩
    refine ⟨SK.same (by kernel_rfl), ?_⟩
    refine ⟨SK.same (by kernel_rfl), ?_⟩
    refine ⟨?_, ?_⟩
    ·
     refine ev_alloc hp rfl T31 ?_
     intro g_11x w_11y hp hs
     replace hz := hz.trans hs
     replace ha := ha.trans hs
     replace r_11t := r_11t.step hs
     replace r_11u := r_11u.step hs
     replace r_11v := r_11v.step hs
     replace r_11w := r_11w.step hs
     replace r_3s := r_3s.step hs
     replace r_3t := r_3t.step hs
     replace r_6h := r_6h.step hs
     replace r_6i := r_6i.step hs
     refine nxS hz (hp.kc 4 rfl (hp.kc 2 rfl (hp.kc 3 rfl kp_nil))) ?_
     have hz := Stp.refl I_11o w_11y
     refine ⟨?_, trivial⟩
     refine ev_alloc hp rfl T31 ?_
     intro g_11z w_120 hp hs
     replace hz := hz.trans hs
     replace ha := ha.trans hs
     replace r_11t := r_11t.step hs
     replace r_11u := r_11u.step hs
     replace r_11v := r_11v.step hs
     replace r_11w := r_11w.step hs
     replace r_3s := r_3s.step hs
     replace r_3t := r_3t.step hs
     replace r_6h := r_6h.step hs
     replace r_6i := r_6i.step hs
     refine nxS hz (hp.kc 5 rfl (hp.kc 3 rfl (hp.kc 4 rfl kp_nil))) ?_
     have hz := Stp.refl I_11o w_120
     refine ⟨?_, trivial⟩
     refine ev_storeA hp (i := 1) (off := 0) (vs := [(.bool x_11k.Num.Neg), v_11p, (.bool x_11k.Den.Neg), v_11q]) rfl rfl rfl rfl T31 rfl (lbe rfl) (on2 r_11t.one (on2 r_11u.one ones_nil)) ?_
     intro w_121 hp hs
     replace hz := hz.trans hs
     replace ha := ha.trans hs
     replace r_11v := r_11v.step hs
     replace r_11w := r_11w.step hs
     replace r_11t := r_11t.step hs
     replace r_11u := r_11u.step hs
     replace r_3s := r_3s.step hs
     replace r_3t := r_3t.step hs
     replace r_6h := r_6h.step hs
     replace r_6i := r_6i.step hs
     refine nxS hz (hp.kc 5 rfl (hp.kc 3 rfl (hp.kc 4 rfl kp_nil))) ?_
     have hz := Stp.refl I_11o w_121
     refine ⟨?_, trivial⟩
     refine ev_storeA hp (i := 0) (off := 0) (vs := [(.bool x_11l.Num.Neg), v_11r, (.bool x_11l.Den.Neg), v_11s]) rfl rfl rfl rfl T31 rfl (lbe rfl) (on2 r_11v.one (on2 r_11w.one ones_nil)) ?_
     intro w_122 hp hs
     replace hz := hz.trans hs
     replace ha := ha.trans hs
     replace r_11v := r_11v.step hs
     replace r_11w := r_11w.step hs
     replace r_11t := r_11t.step hs
     replace r_11u := r_11u.step hs
     replace r_3s := r_3s.step hs
     replace r_3t := r_3t.step hs
     replace r_6h := r_6h.step hs
     replace r_6i := r_6i.step hs
     refine nxS hz (hp.kc 5 rfl (hp.kc 3 rfl (hp.kc 4 rfl kp_nil))) ?_
     have hz := Stp.refl I_11o w_122
     obtain rfl := Option.some.inj q_113
     have hp := hp.perm [2, 3, 4, 6, 7, 8, 9, 10, 11, 12, 13, 1, 0] (by decide)
     replace r_pm := r_pm.step ha
     replace r_pn := r_pn.step ha
     replace r_po := r_po.step ha
     replace r_pp := r_pp.step ha
     replace r_sd := r_sd.step ha
     replace r_se := r_se.step ha
     replace r_sf := r_sf.step ha
     replace r_sg := r_sg.step ha
     replace r_tf := r_tf.step ha
     replace r_tg := r_tg.step ha
     replace r_th := r_th.step ha
     replace r_ti := r_ti.step ha
     replace r_10y := r_10y.step ha
     replace r_10z := r_10z.step ha
     replace r_110 := r_110.step ha
     replace r_111 := r_111.step ha
     replace tb := tb.step ha
     exact ⟨(x_11k.Num.Neg, x_11k.Num.Mag, x_11k.Den.Neg, x_11k.Den.Mag, x_11l.Num.Neg, x_11l.Num.Mag, x_11l.Den.Neg, x_11l.Den.Mag, g_11x, v_11p, v_11q, g_11z, v_11r, v_11s, I_11o), (.c rfl (.c rfl (.c rfl (.c rfl (.c rfl (.c rfl (.c rfl (.c rfl (.c rfl (.c rfl (.c rfl (.c rfl (.c rfl .n))))))))))))), rfl, hp, r_3s, r_3t, r_6h, r_6i, r_sd, r_se, r_sf, r_sg, r_pm, r_pn, r_po, r_pp, r_tf, r_tg, r_th, r_ti, r_10y, r_10z, r_110, r_111, r_11t, r_11u, r_11v, r_11w, tb⟩
    refine ⟨?_, trivial⟩
    refine ev_alloc hp rfl T31 ?_
    intro g_123 w_124 hp hs
    replace hz := hz.trans hs
    replace ha := ha.trans hs
    replace r_11t := r_11t.step hs
    replace r_11u := r_11u.step hs
    replace r_11v := r_11v.step hs
    replace r_11w := r_11w.step hs
    replace r_3s := r_3s.step hs
    replace r_3t := r_3t.step hs
    replace r_6h := r_6h.step hs
    replace r_6i := r_6i.step hs
    refine nxS hz (hp.kc 4 rfl (hp.kc 2 rfl (hp.kc 3 rfl kp_nil))) ?_
    have hz := Stp.refl I_11o w_124
    refine ⟨?_, trivial⟩
    refine ev_alloc hp rfl T31 ?_
    intro g_125 w_126 hp hs
    replace hz := hz.trans hs
    replace ha := ha.trans hs
    replace r_11t := r_11t.step hs
    replace r_11u := r_11u.step hs
    replace r_11v := r_11v.step hs
    replace r_11w := r_11w.step hs
    replace r_3s := r_3s.step hs
    replace r_3t := r_3t.step hs
    replace r_6h := r_6h.step hs
    replace r_6i := r_6i.step hs
    refine nxS hz (hp.kc 5 rfl (hp.kc 3 rfl (hp.kc 4 rfl kp_nil))) ?_
    have hz := Stp.refl I_11o w_126
    refine ⟨?_, trivial⟩
    refine ev_storeA hp (i := 0) (off := 0) (vs := [(.bool x_11k.Num.Neg), v_11p, (.bool x_11k.Den.Neg), v_11q]) rfl rfl rfl rfl T31 rfl (lbe rfl) (on2 r_11t.one (on2 r_11u.one ones_nil)) ?_
    intro w_127 hp hs
    replace hz := hz.trans hs
    replace ha := ha.trans hs
    replace r_11v := r_11v.step hs
    replace r_11w := r_11w.step hs
    replace r_11t := r_11t.step hs
    replace r_11u := r_11u.step hs
    replace r_3s := r_3s.step hs
    replace r_3t := r_3t.step hs
    replace r_6h := r_6h.step hs
    replace r_6i := r_6i.step hs
    refine nxS hz (hp.kc 5 rfl (hp.kc 3 rfl (hp.kc 4 rfl kp_nil))) ?_
    have hz := Stp.refl I_11o w_127
    refine ⟨?_, trivial⟩
    refine ev_storeA hp (i := 1) (off := 0) (vs := [(.bool x_11l.Num.Neg), v_11r, (.bool x_11l.Den.Neg), v_11s]) rfl rfl rfl rfl T31 rfl (lbe rfl) (on2 r_11v.one (on2 r_11w.one ones_nil)) ?_
    intro w_128 hp hs
    replace hz := hz.trans hs
    replace ha := ha.trans hs
    replace r_11t := r_11t.step hs
    replace r_11u := r_11u.step hs
    replace r_11v := r_11v.step hs
    replace r_11w := r_11w.step hs
    replace r_3s := r_3s.step hs
    replace r_3t := r_3t.step hs
    replace r_6h := r_6h.step hs
    replace r_6i := r_6i.step hs
    refine nxS hz (hp.kc 5 rfl (hp.kc 3 rfl (hp.kc 4 rfl kp_nil))) ?_
    have hz := Stp.refl I_11o w_128
    obtain rfl := Option.some.inj q_113
    have hp := hp.perm [2, 3, 4, 6, 7, 8, 9, 10, 11, 12, 13, 0, 1] (by decide)
    replace r_pm := r_pm.step ha
    replace r_pn := r_pn.step ha
    replace r_po := r_po.step ha
    replace r_pp := r_pp.step ha
    replace r_sd := r_sd.step ha
    replace r_se := r_se.step ha
    replace r_sf := r_sf.step ha
    replace r_sg := r_sg.step ha
    replace r_tf := r_tf.step ha
    replace r_tg := r_tg.step ha
    replace r_th := r_th.step ha
    replace r_ti := r_ti.step ha
    replace r_10y := r_10y.step ha
    replace r_10z := r_10z.step ha
    replace r_110 := r_110.step ha
    replace r_111 := r_111.step ha
    replace tb := tb.step ha
    exact ⟨(x_11k.Num.Neg, x_11k.Num.Mag, x_11k.Den.Neg, x_11k.Den.Mag, x_11l.Num.Neg, x_11l.Num.Mag, x_11l.Den.Neg, x_11l.Den.Mag, g_125, v_11p, v_11q, g_123, v_11r, v_11s, I_11o), (.c rfl (.c rfl (.c rfl (.c rfl (.c rfl (.c rfl (.c rfl (.c rfl (.c rfl (.c rfl (.c rfl (.c rfl (.c rfl .n))))))))))))), rfl, hp, r_3s, r_3t, r_6h, r_6i, r_sd, r_se, r_sf, r_sg, r_pm, r_pn, r_po, r_pp, r_tf, r_tg, r_th, r_ti, r_10y, r_10z, r_110, r_111, r_11t, r_11u, r_11v, r_11w, tb⟩
   refine ⟨?_, ?_⟩
   ·
    refine ev_alloc hp rfl T31 ?_
    intro g_129 w_12a hp hs
    replace hz := hz.trans hs
    replace ha := ha.trans hs
    replace r_11e := r_11e.step hs
    replace r_11f := r_11f.step hs
    replace r_11g := r_11g.step hs
    replace r_11h := r_11h.step hs
    replace r_11i := r_11i.step hs
    replace r_11j := r_11j.step hs
    refine nxS hz (hp.kc 4 rfl (hp.kc 2 rfl (hp.kc 3 rfl kp_nil))) ?_
    have hz := Stp.refl I_117 w_12a
    refine ⟨?_, ?_⟩
    ·
     obtain ⟨⟨x_12b, x_12c⟩, q_12d, q_113⟩ := bind_some q_113
     replace r_3s := r_3s.step ha
     replace r_3t := r_3t.step ha
     replace r_6h := r_6h.step ha
     replace r_6i := r_6i.step ha
     refine ev_call rfl rfl C13 (((rotation_Act_ok n) _ _  x_114 v_118 r_11e v_119 r_11f v_11a r_11g v_11b r_11h v_11c r_11i v_11d r_11j (Rational.mk (Int_2.mk x_3j x_3k) (Int_2.mk x_3l x_3m)) v_3o r_3s v_3p r_3t (Rational.mk (Int_2.mk x_68 x_69) (Int_2.mk x_6a x_6b)) v_6d r_6h v_6e r_6i hp.imm _ q_12d).mono ?_)
     rintro _ w_12e ⟨I_12f, v_12g, v_12h, v_12i, v_12j, hv, hq, r_12k, r_12l, r_12m, r_12n⟩
     replace hv := hv.symm
     subst hv
     have hs := hq.st
     have hp := hp.join0 hq
     replace hz := hz.trans hs
     replace ha := ha.trans hs
     replace r_3s := r_3s.step hs
     replace r_3t := r_3t.step hs
     replace r_6h := r_6h.step hs
     replace r_6i := r_6i.step hs
     refine nxS hz (hp.kc 4 rfl (hp.kc 2 rfl (hp.kc 3 rfl kp_nil))) ?_
     have hz := Stp.refl I_12f w_12e
     refine ⟨SK.same (by kernel_rfl), ?_⟩
     refine ⟨SK.same (by kernel_rfl), ?_⟩
     refine ⟨SK.same (by kernel_rfl), ?_⟩
     refine ⟨?_, trivial⟩
     refine ev_alloc hp rfl T31 ?_
     intro g_12o w_12p hp hs
     replace hz := hz.trans hs
     replace ha := ha.trans hs
     replace r_12k := r_12k.step hs
     replace r_12l := r_12l.step hs
     replace r_12m := r_12m.step hs
     replace r_12n := r_12n.step hs
     replace r_3s := r_3s.step hs
     replace r_3t := r_3t.step hs
     replace r_6h := r_6h.step hs
     replace r_6i := r_6i.step hs
     refine nxS hz (hp.kc 5 rfl (hp.kc 3 rfl (hp.kc 4 rfl kp_nil))) ?_
     have hz := Stp.refl I_12f w_12p
     refine ⟨?_, trivial⟩
     refine ev_storeA hp (i := 1) (off := 0) (vs := [(.bool x_12b.Num.Neg), v_12g, (.bool x_12b.Den.Neg), v_12h]) rfl rfl rfl rfl T31 rfl (lbe rfl) (on2 r_12k.one (on2 r_12l.one ones_nil)) ?_
     intro w_12q hp hs
     replace hz := hz.trans hs
     replace ha := ha.trans hs
     replace r_12m := r_12m.step hs
     replace r_12n := r_12n.step hs
     replace r_12k := r_12k.step hs
     replace r_12l := r_12l.step hs
     replace r_3s := r_3s.step hs
     replace r_3t := r_3t.step hs
     replace r_6h := r_6h.step hs
     replace r_6i := r_6i.step hs
     refine nxS hz (hp.kc 5 rfl (hp.kc 3 rfl (hp.kc 4 rfl kp_nil))) ?_
     have hz := Stp.refl I_12f w_12q
     refine ⟨?_, trivial⟩
     refine ev_storeA hp (i := 0) (off := 0) (vs := [(.bool x_12c.Num.Neg), v_12i, (.bool x_12c.Den.Neg), v_12j]) rfl rfl rfl rfl T31 rfl (lbe rfl) (on2 r_12m.one (on2 r_12n.one ones_nil)) ?_
     intro w_12r hp hs
     replace hz := hz.trans hs
     replace ha := ha.trans hs
     replace r_12m := r_12m.step hs
     replace r_12n := r_12n.step hs
     replace r_12k := r_12k.step hs
     replace r_12l := r_12l.step hs
     replace r_3s := r_3s.step hs
     replace r_3t := r_3t.step hs
     replace r_6h := r_6h.step hs
     replace r_6i := r_6i.step hs
     refine nxS hz (hp.kc 5 rfl (hp.kc 3 rfl (hp.kc 4 rfl kp_nil))) ?_
     have hz := Stp.refl I_12f w_12r
     obtain rfl := Option.some.inj q_113
     have hp := hp.perm [2, 3, 4, 6, 7, 8, 9, 10, 11, 12, 13, 1, 0] (by decide)
     replace r_pm := r_pm.step ha
     replace r_pn := r_pn.step ha
     replace r_po := r_po.step ha
     replace r_pp := r_pp.step ha
     replace r_sd := r_sd.step ha
     replace r_se := r_se.step ha
     replace r_sf := r_sf.step ha
     replace r_sg := r_sg.step ha
     replace r_tf := r_tf.step ha
     replace r_tg := r_tg.step ha
     replace r_th := r_th.step ha
     replace r_ti := r_ti.step ha
     replace r_10y := r_10y.step ha
     replace r_10z := r_10z.step ha
     replace r_110 := r_110.step ha
     replace r_111 := r_111.step ha
     replace tb := tb.step ha
     exact ⟨(x_12b.Num.Neg, x_12b.Num.Mag, x_12b.Den.Neg, x_12b.Den.Mag, x_12c.Num.Neg, x_12c.Num.Mag, x_12c.Den.Neg, x_12c.Den.Mag, g_129, v_12g, v_12h, g_12o, v_12i, v_12j, I_12f), (.c rfl (.c rfl (.c rfl (.c rfl (.c rfl (.c rfl (.c rfl (.c rfl (.c rfl (.c rfl (.c rfl (.c rfl (.c rfl .n))))))))))))), rfl, hp, r_3s, r_3t, r_6h, r_6i, r_sd, r_se, r_sf, r_sg, r_pm, r_pn, r_po, r_pp, r_tf, r_tg, r_th, r_ti, r_10y, r_10z, r_110, r_111, r_12k, r_12l, r_12m, r_12n, tb⟩
    refine ⟨?_, trivial⟩
    refine ev_alloc hp rfl T31 ?_
    intro g_12s w_12t hp hs
    replace hz := hz.trans hs
    replace ha := ha.trans hs
    replace r_11e := r_11e.step hs
    replace r_11f := r_11f.step hs
    replace r_11g := r_11g.step hs
    replace r_11h := r_11h.step hs
    replace r_11i := r_11i.step hs
    replace r_11j := r_11j.step hs
    refine nxS hz (hp.kc 5 rfl (hp.kc 3 rfl (hp.kc 4 rfl kp_nil))) ?_
    have hz := Stp.refl I_117 w_12t
    refine ⟨?_, trivial⟩
    obtain ⟨⟨x_12u, x_12v⟩, q_12w, q_113⟩ := bind_some q_113
    replace r_3s := r_3s.step ha
    replace r_3t := r_3t.step ha
    replace r_6h := r_6h.step ha
    replace r_6i := r_6i.step ha
    refine ev_call rfl rfl C13 (((rotation_Act_ok n) _ _  x_114 v_118 r_11e v_119 r_11f v_11a r_11g v_11b r_11h v_11c r_11i v_11d r_11j (Rational.mk (Int_2.mk x_3j x_3k) (Int_2.mk x_3l x_3m)) v_3o r_3s v_3p r_3t (Rational.mk (Int_2.mk x_68 x_69) (Int_2.mk x_6a x_6b)) v_6d r_6h v_6e r_6i hp.imm _ q_12w).mono ?_)
    rintro _ w_12x ⟨I_12y, v_12z, v_130, v_131, v_132, hv, hq, r_133, r_134, r_135, r_136⟩
    replace hv := hv.symm
    subst hv
    have hs := hq.st
    have hp := hp.join0 hq
    replace hz := hz.trans hs
    replace ha := ha.trans hs
    replace r_3s := r_3s.step hs
    replace r_3t := r_3t.step hs
    replace r_6h := r_6h.step hs
    replace r_6i := r_6i.step hs
    refine nxS hz (hp.kc 5 rfl (hp.kc 3 rfl (hp.kc 4 rfl kp_nil))) ?_
    have hz := Stp.refl I_12y w_12x
    refine ⟨SK.same (by kernel_rfl), ?_⟩
    refine ⟨SK.same (by kernel_rfl), ?_⟩
    refine ⟨SK.same (by kernel_rfl), ?_⟩
    refine ⟨?_, trivial⟩
    refine ev_storeA hp (i := 1) (off := 0) (vs := [(.bool x_12u.Num.Neg), v_12z, (.bool x_12u.Den.Neg), v_130]) rfl rfl rfl rfl T31 rfl (lbe rfl) (on2 r_133.one (on2 r_134.one ones_nil)) ?_
    intro w_137 hp hs
    replace hz := hz.trans hs
    replace ha := ha.trans hs
    replace r_135 := r_135.step hs
    replace r_136 := r_136.step hs
    replace r_133 := r_133.step hs
    replace r_134 := r_134.step hs
    replace r_3s := r_3s.step hs
    replace r_3t := r_3t.step hs
    replace r_6h := r_6h.step hs
    replace r_6i := r_6i.step hs
    refine nxS hz (hp.kc 5 rfl (hp.kc 3 rfl (hp.kc 4 rfl kp_nil))) ?_
    have hz := Stp.refl I_12y w_137
    refine ⟨?_, trivial⟩
    refine ev_storeA hp (i := 0) (off := 0) (vs := [(.bool x_12v.Num.Neg), v_131, (.bool x_12v.Den.Neg), v_132]) rfl rfl rfl rfl T31 rfl (lbe rfl) (on2 r_135.one (on2 r_136.one ones_nil)) ?_
    intro w_138 hp hs
    replace hz := hz.trans hs
    replace ha := ha.trans hs
    replace r_135 := r_135.step hs
    replace r_136 := r_136.step hs
    replace r_133 := r_133.step hs
    replace r_134 := r_134.step hs
    replace r_3s := r_3s.step hs
    replace r_3t := r_3t.step hs
    replace r_6h := r_6h.step hs
    replace r_6i := r_6i.step hs
    refine nxS hz (hp.kc 5 rfl (hp.kc 3 rfl (hp.kc 4 rfl kp_nil))) ?_
    have hz := Stp.refl I_12y w_138
    obtain rfl := Option.some.inj q_113
    have hp := hp.perm [2, 3, 4, 6, 7, 8, 9, 10, 11, 12, 13, 1, 0] (by decide)
    replace r_pm := r_pm.step ha
    replace r_pn := r_pn.step ha
    replace r_po := r_po.step ha
    replace r_pp := r_pp.step ha
    replace r_sd := r_sd.step ha
    replace r_se := r_se.step ha
    replace r_sf := r_sf.step ha
    replace r_sg := r_sg.step ha
    replace r_tf := r_tf.step ha
    replace r_tg := r_tg.step ha
    replace r_th := r_th.step ha
    replace r_ti := r_ti.step ha
    replace r_10y := r_10y.step ha
    replace r_10z := r_10z.step ha
    replace r_110 := r_110.step ha
    replace r_111 := r_111.step ha
    replace tb := tb.step ha
    exact ⟨(x_12u.Num.Neg, x_12u.Num.Mag, x_12u.Den.Neg, x_12u.Den.Mag, x_12v.Num.Neg, x_12v.Num.Mag, x_12v.Den.Neg, x_12v.Den.Mag, g_129, v_12z, v_130, g_12s, v_131, v_132, I_12y), (.c rfl (.c rfl (.c rfl (.c rfl (.c rfl (.c rfl (.c rfl (.c rfl (.c rfl (.c rfl (.c rfl (.c rfl (.c rfl .n))))))))))))), rfl, hp, r_3s, r_3t, r_6h, r_6i, r_sd, r_se, r_sf, r_sg, r_pm, r_pn, r_po, r_pp, r_tf, r_tg, r_th, r_ti, r_10y, r_10z, r_110, r_111, r_133, r_134, r_135, r_136, tb⟩
   refine ⟨?_, trivial⟩
   refine ev_alloc hp rfl T31 ?_
   intro g_139 w_13a hp hs
   replace hz := hz.trans hs
   replace ha := ha.trans hs
   replace r_11e := r_11e.step hs
   replace r_11f := r_11f.step hs
   replace r_11g := r_11g.step hs
   replace r_11h := r_11h.step hs
   replace r_11i := r_11i.step hs
   replace r_11j := r_11j.step hs
   refine nxS hz (hp.kc 4 rfl (hp.kc 2 rfl (hp.kc 3 rfl kp_nil))) ?_
   have hz := Stp.refl I_117 w_13a
   refine ⟨?_, ?_⟩
   ·
    obtain ⟨⟨x_13b, x_13c⟩, q_13d, q_113⟩ := bind_some q_113
    replace r_3s := r_3s.step ha
    replace r_3t := r_3t.step ha
    replace r_6h := r_6h.step ha
    replace r_6i := r_6i.step ha
    refine ev_call rfl rfl C13 (((rotation_Act_ok n) _ _  x_114 v_118 r_11e v_119 r_11f v_11a r_11g v_11b r_11h v_11c r_11i v_11d r_11j (Rational.mk (Int_2.mk x_3j x_3k) (Int_2.mk x_3l x_3m)) v_3o r_3s v_3p r_3t (Rational.mk (Int_2.mk x_68 x_69) (Int_2.mk x_6a x_6b)) v_6d r_6h v_6e r_6i hp.imm _ q_13d).mono ?_)
    rintro _ w_13e ⟨I_13f, v_13g, v_13h, v_13i, v_13j, hv, hq, r_13k, r_13l, r_13m, r_13n⟩
    replace hv := hv.symm
    subst hv
    have hs := hq.st
    have hp := hp.join0 hq
    replace hz := hz.trans hs
    replace ha := ha.trans hs
    replace r_3s := r_3s.step hs
    replace r_3t := r_3t.step hs
    replace r_6h := r_6h.step hs
    replace r_6i := r_6i.step hs
    refine nxS hz (hp.kc 4 rfl (hp.kc 2 rfl (hp.kc 3 rfl kp_nil))) ?_
    have hz := Stp.refl I_13f w_13e
    refine ⟨SK.same (by kernel_rfl), ?_⟩
    refine ⟨SK.same (by kernel_rfl), ?_⟩
    refine ⟨SK.same (by kernel_rfl), ?_⟩
    refine ⟨?_, trivial⟩
    refine ev_alloc hp rfl T31 ?_
    intro g_13o w_13p hp hs
    replace hz := hz.trans hs
    replace ha := ha.trans hs
    replace r_13k := r_13k.step hs
    replace r_13l := r_13l.step hs
    replace r_13m := r_13m.step hs
    replace r_13n := r_13n.step hs
    replace r_3s := r_3s.step hs
    replace r_3t := r_3t.step hs
    replace r_6h := r_6h.step hs
    replace r_6i := r_6i.step hs
    refine nxS hz (hp.kc 5 rfl (hp.kc 3 rfl (hp.kc 4 rfl kp_nil))) ?_
    have hz := Stp.refl I_13f w_13p
    refine ⟨?_, trivial⟩
    refine ev_storeA hp (i := 0) (off := 0) (vs := [(.bool x_13b.Num.Neg), v_13g, (.bool x_13b.Den.Neg), v_13h]) rfl rfl rfl rfl T31 rfl (lbe rfl) (on2 r_13k.one (on2 r_13l.one ones_nil)) ?_
    intro w_13q hp hs
    replace hz := hz.trans hs
    replace ha := ha.trans hs
    replace r_13m := r_13m.step hs
    replace r_13n := r_13n.step hs
    replace r_13k := r_13k.step hs
    replace r_13l := r_13l.step hs
    replace r_3s := r_3s.step hs
    replace r_3t := r_3t.step hs
    replace r_6h := r_6h.step hs
    replace r_6i := r_6i.step hs
    refine nxS hz (hp.kc 5 rfl (hp.kc 3 rfl (hp.kc 4 rfl kp_nil))) ?_
    have hz := Stp.refl I_13f w_13q
    refine ⟨?_, trivial⟩
    refine ev_storeA hp (i := 1) (off := 0) (vs := [(.bool x_13c.Num.Neg), v_13i, (.bool x_13c.Den.Neg), v_13j]) rfl rfl rfl rfl T31 rfl (lbe rfl) (on2 r_13m.one (on2 r_13n.one ones_nil)) ?_
    intro w_13r hp hs
    replace hz := hz.trans hs
    replace ha := ha.trans hs
    replace r_13k := r_13k.step hs
    replace r_13l := r_13l.step hs
    replace r_13m := r_13m.step hs
    replace r_13n := r_13n.step hs
    replace r_3s := r_3s.step hs
    replace r_3t := r_3t.step hs
    replace r_6h := r_6h.step hs
    replace r_6i := r_6i.step hs
    refine nxS hz (hp.kc 5 rfl (hp.kc 3 rfl (hp.kc 4 rfl kp_nil))) ?_
    have hz := Stp.refl I_13f w_13r
    obtain rfl := Option.some.inj q_113
    have hp := hp.perm [2, 3, 4, 6, 7, 8, 9, 10, 11, 12, 13, 0, 1] (by decide)
    replace r_pm := r_pm.step ha
    replace r_pn := r_pn.step ha
    replace r_po := r_po.step ha
    replace r_pp := r_pp.step ha
    replace r_sd := r_sd.step ha
    replace r_se := r_se.step ha
    replace r_sf := r_sf.step ha
    replace r_sg := r_sg.step ha
    replace r_tf := r_tf.step ha
    replace r_tg := r_tg.step ha
    replace r_th := r_th.step ha
    replace r_ti := r_ti.step ha
    replace r_10y := r_10y.step ha
    replace r_10z := r_10z.step ha
    replace r_110 := r_110.step ha
    replace r_111 := r_111.step ha
    replace tb := tb.step ha
    exact ⟨(x_13b.Num.Neg, x_13b.Num.Mag, x_13b.Den.Neg, x_13b.Den.Mag, x_13c.Num.Neg, x_13c.Num.Mag, x_13c.Den.Neg, x_13c.Den.Mag, g_13o, v_13g, v_13h, g_139, v_13i, v_13j, I_13f), (.c rfl (.c rfl (.c rfl (.c rfl (.c rfl (.c rfl (.c rfl (.c rfl (.c rfl (.c rfl (.c rfl (.c rfl (.c rfl .n))))))))))))), rfl, hp, r_3s, r_3t, r_6h, r_6i, r_sd, r_se, r_sf, r_sg, r_pm, r_pn, r_po, r_pp, r_tf, r_tg, r_th, r_ti, r_10y, r_10z, r_110, r_111, r_13k, r_13l, r_13m, r_13n, tb⟩
   refine ⟨?_, trivial⟩
   refine ev_alloc hp rfl T31 ?_
   intro g_13s w_13t hp hs
   replace hz := hz.trans hs
   replace ha := ha.trans hs
   replace r_11e := r_11e.step hs
   replace r_11f := r_11f.step hs
   replace r_11g := r_11g.step hs
   replace r_11h := r_11h.step hs
   replace r_11i := r_11i.step hs
   replace r_11j := r_11j.step hs
   refine nxS hz (hp.kc 5 rfl (hp.kc 3 rfl (hp.kc 4 rfl kp_nil))) ?_
   have hz := Stp.refl I_117 w_13t
   refine ⟨?_, trivial⟩
   obtain ⟨⟨x_13u, x_13v⟩, q_13w, q_113⟩ := bind_some q_113
   replace r_3s := r_3s.step ha
   replace r_3t := r_3t.step ha
   replace r_6h := r_6h.step ha
   replace r_6i := r_6i.step ha
   refine ev_call rfl rfl C13 (((rotation_Act_ok n) _ _  x_114 v_118 r_11e v_119 r_11f v_11a r_11g v_11b r_11h v_11c r_11i v_11d r_11j (Rational.mk (Int_2.mk x_3j x_3k) (Int_2.mk x_3l x_3m)) v_3o r_3s v_3p r_3t (Rational.mk (Int_2.mk x_68 x_69) (Int_2.mk x_6a x_6b)) v_6d r_6h v_6e r_6i hp.imm _ q_13w).mono ?_)
   rintro _ w_13x ⟨I_13y, v_13z, v_140, v_141, v_142, hv, hq, r_143, r_144, r_145, r_146⟩
   replace hv := hv.symm
   subst hv
   have hs := hq.st
   have hp := hp.join0 hq
   replace hz := hz.trans hs
   replace ha := ha.trans hs
   replace r_3s := r_3s.step hs
   replace r_3t := r_3t.step hs
   replace r_6h := r_6h.step hs
   replace r_6i := r_6i.step hs
   refine nxS hz (hp.kc 5 rfl (hp.kc 3 rfl (hp.kc 4 rfl kp_nil))) ?_
   have hz := Stp.refl I_13y w_13x
   refine ⟨SK.same (by kernel_rfl), ?_⟩
   refine ⟨SK.same (by kernel_rfl), ?_⟩
   refine ⟨SK.same (by kernel_rfl), ?_⟩
   refine ⟨?_, trivial⟩
   refine ev_storeA hp (i := 0) (off := 0) (vs := [(.bool x_13u.Num.Neg), v_13z, (.bool x_13u.Den.Neg), v_140]) rfl rfl rfl rfl T31 rfl (lbe rfl) (on2 r_143.one (on2 r_144.one ones_nil)) ?_
   intro w_147 hp hs
   replace hz := hz.trans hs
   replace ha := ha.trans hs
   replace r_145 := r_145.step hs
   replace r_146 := r_146.step hs
   replace r_143 := r_143.step hs
   replace r_144 := r_144.step hs
   replace r_3s := r_3s.step hs
   replace r_3t := r_3t.step hs
   replace r_6h := r_6h.step hs
   replace r_6i := r_6i.step hs
   refine nxS hz (hp.kc 5 rfl (hp.kc 3 rfl (hp.kc 4 rfl kp_nil))) ?_
   have hz := Stp.refl I_13y w_147
   refine ⟨?_, trivial⟩
   refine ev_storeA hp (i := 1) (off := 0) (vs := [(.bool x_13v.Num.Neg), v_141, (.bool x_13v.Den.Neg), v_142]) rfl rfl rfl rfl T31 rfl (lbe rfl) (on2 r_145.one (on2 r_146.one ones_nil)) ?_
   intro w_148 hp hs
   replace hz := hz.trans hs
   replace ha := ha.trans hs
   replace r_143 := r_143.step hs
   replace r_144 := r_144.step hs
   replace r_145 := r_145.step hs
   replace r_146 := r_146.step hs
   replace r_3s := r_3s.step hs
   replace r_3t := r_3t.step hs
   replace r_6h := r_6h.step hs
   replace r_6i := r_6i.step hs
   refine nxS hz (hp.kc 5 rfl (hp.kc 3 rfl (hp.kc 4 rfl kp_nil))) ?_
   have hz := Stp.refl I_13y w_148
   obtain rfl := Option.some.inj q_113
   have hp := hp.perm [2, 3, 4, 6, 7, 8, 9, 10, 11, 12, 13, 0, 1] (by decide)
   replace r_pm := r_pm.step ha
   replace r_pn := r_pn.step ha
   replace r_po := r_po.step ha
   replace r_pp := r_pp.step ha
   replace r_sd := r_sd.step ha
   replace r_se := r_se.step ha
   replace r_sf := r_sf.step ha
   replace r_sg := r_sg.step ha
   replace r_tf := r_tf.step ha
   replace r_tg := r_tg.step ha
   replace r_th := r_th.step ha
   replace r_ti := r_ti.step ha
   replace r_10y := r_10y.step ha
   replace r_10z := r_10z.step ha
   replace r_110 := r_110.step ha
   replace r_111 := r_111.step ha
   replace tb := tb.step ha
   exact ⟨(x_13u.Num.Neg, x_13u.Num.Mag, x_13u.Den.Neg, x_13u.Den.Mag, x_13v.Num.Neg, x_13v.Num.Mag, x_13v.Den.Neg, x_13v.Den.Mag, g_13s, v_13z, v_140, g_139, v_141, v_142, I_13y), (.c rfl (.c rfl (.c rfl (.c rfl (.c rfl (.c rfl (.c rfl (.c rfl (.c rfl (.c rfl (.c rfl (.c rfl (.c rfl .n))))))))))))), rfl, hp, r_3s, r_3t, r_6h, r_6i, r_sd, r_se, r_sf, r_sg, r_pm, r_pn, r_po, r_pp, r_tf, r_tg, r_th, r_ti, r_10y, r_10z, r_110, r_111, r_143, r_144, r_145, r_146, tb⟩
  refine ⟨?_, ?_⟩
  ·
   refine ev_alloc hp rfl T31 ?_
   intro g_149 w_14a hp hs
   replace hz := hz.trans hs
   replace ha := ha.trans hs
   refine nxS hz (hp.kc 4 rfl (hp.kc 2 rfl (hp.kc 3 rfl kp_nil))) ?_
   have hz := Stp.refl I_10w w_14a
   refine ⟨?_, ?_⟩
   ·
    obtain ⟨x_14b, q_14c, q_113⟩ := bind_some q_113
    replace r_bi := r_bi.step ha
    replace r_bj := r_bj.step ha
    replace r_bk := r_bk.step ha
    replace r_bl := r_bl.step ha
    replace r_bm := r_bm.step ha
    replace r_bn := r_bn.step ha
    refine ev_call rfl rfl C15 (((rotation_Back_ok n) _ _  (Transform.mk (Rot.mk (Int_2.mk x_ax x_ay) (Int_2.mk x_az x_b0)) (Rational.mk (Int_2.mk x_b1 x_b2) (Int_2.mk x_b3 x_b4)) (Rational.mk (Int_2.mk x_b5 x_b6) (Int_2.mk x_b7 x_b8))) v_ba r_bi v_bb r_bj v_bc r_bk v_bd r_bl v_be r_bm v_bf r_bn hp.imm _ q_14c).mono ?_)
    rintro _ w_14d ⟨I_14e, v_14f, v_14g, v_14h, v_14i, v_14j, v_14k, hv, hq, r_14l, r_14m, r_14n, r_14o, r_14p, r_14q⟩
    replace hv := hv.symm
    subst hv
    have hs := hq.st
    have hp := hp.join0 hq
    replace hz := hz.trans hs
    replace ha := ha.trans hs
    refine nxS hz (hp.kc 4 rfl (hp.kc 2 rfl (hp.kc 3 rfl kp_nil))) ?_
    have hz := Stp.refl I_14e w_14d
    refine ⟨?_, ?_⟩
    ·
     obtain ⟨⟨x_14r, x_14s⟩, q_14t, q_113⟩ := bind_some q_113
     replace r_3s := r_3s.step ha
     replace r_3t := r_3t.step ha
     replace r_6h := r_6h.step ha
     replace r_6i := r_6i.step ha
     refine ev_call rfl rfl C13 (((rotation_Act_ok n) _ _  x_14b v_14f r_14l v_14g r_14m v_14h r_14n v_14i r_14o v_14j r_14p v_14k r_14q (Rational.mk (Int_2.mk x_3j x_3k) (Int_2.mk x_3l x_3m)) v_3o r_3s v_3p r_3t (Rational.mk (Int_2.mk x_68 x_69) (Int_2.mk x_6a x_6b)) v_6d r_6h v_6e r_6i hp.imm _ q_14t).mono ?_)
     rintro _ w_14u ⟨I_14v, v_14w, v_14x, v_14y, v_14z, hv, hq, r_150, r_151, r_152, r_153⟩
     replace hv := hv.symm
     subst hv
     have hs := hq.st
     have hp := hp.join0 hq
     replace hz := hz.trans hs
     replace ha := ha.trans hs
     replace r_3s := r_3s.step hs
     replace r_3t := r_3t.step hs
     replace r_6h := r_6h.step hs
     replace r_6i := r_6i.step hs
     refine nxS hz (hp.kc 4 rfl (hp.kc 2 rfl (hp.kc 3 rfl kp_nil))) ?_
     have hz := Stp.refl I_14v w_14u
     refine ⟨SK.same (by kernel_rfl), ?_⟩
     refine ⟨SK.same (by kernel_rfl), ?_⟩
     refine ⟨SK.same (by kernel_rfl), ?_⟩
     refine ⟨?_, trivial⟩
     refine ev_alloc hp rfl T31 ?_
     intro g_154 w_155 hp hs
     replace hz := hz.trans hs
     replace ha := ha.trans hs
     replace r_150 := r_150.step hs
     replace r_151 := r_151.step hs
     replace r_152 := r_152.step hs
     replace r_153 := r_153.step hs
     replace r_3s := r_3s.step hs
     replace r_3t := r_3t.step hs
     replace r_6h := r_6h.step hs
     replace r_6i := r_6i.step hs
     refine nxS hz (hp.kc 5 rfl (hp.kc 3 rfl (hp.kc 4 rfl kp_nil))) ?_
     have hz := Stp.refl I_14v w_155
     refine ⟨?_, trivial⟩
     refine ev_storeA hp (i := 1) (off := 0) (vs := [(.bool x_14r.Num.Neg), v_14w, (.bool x_14r.Den.Neg), v_14x]) rfl rfl rfl rfl T31 rfl (lbe rfl) (on2 r_150.one (on2 r_151.one ones_nil)) ?_
     intro w_156 hp hs
     replace hz := hz.trans hs
     replace ha := ha.trans hs
     replace r_152 := r_152.step hs
     replace r_153 := r_153.step hs
     replace r_150 := r_150.step hs
     replace r_151 := r_151.step hs
     replace r_3s := r_3s.step hs
     replace r_3t := r_3t.step hs
     replace r_6h := r_6h.step hs
     replace r_6i := r_6i.step hs
     refine nxS hz (hp.kc 5 rfl (hp.kc 3 rfl (hp.kc 4 rfl kp_nil))) ?_
     have hz := Stp.refl I_14v w_156
     refine ⟨?_, trivial⟩
     refine ev_storeA hp (i := 0) (off := 0) (vs := [(.bool x_14s.Num.Neg), v_14y, (.bool x_14s.Den.Neg), v_14z]) rfl rfl rfl rfl T31 rfl (lbe rfl) (on2 r_152.one (on2 r_153.one ones_nil)) ?_
     intro w_157 hp hs
     replace hz := hz.trans hs
     replace ha := ha.trans hs
     replace r_152 := r_152.step hs
     replace r_153 := r_153.step hs
     replace r_150 := r_150.step hs
     replace r_151 := r_151.step hs
     replace r_3s := r_3s.step hs
     replace r_3t := r_3t.step hs
     replace r_6h := r_6h.step hs
     replace r_6i := r_6i.step hs
     refine nxS hz (hp.kc 5 rfl (hp.kc 3 rfl (hp.kc 4 rfl kp_nil))) ?_
     have hz := Stp.refl I_14v w_157
     obtain rfl := Option.some.inj q_113
     have hp := hp.perm [2, 3, 4, 6, 7, 8, 9, 10, 11, 12, 13, 1, 0] (by decide)
     replace r_pm := r_pm.step ha
     replace r_pn := r_pn.step ha
     replace r_po := r_po.step ha
     replace r_pp := r_pp.step ha
     replace r_sd := r_sd.step ha
     replace r_se := r_se.step ha
     replace r_sf := r_sf.step ha
     replace r_sg := r_sg.step ha
     replace r_tf := r_tf.step ha
     replace r_tg := r_tg.step ha
     replace r_th := r_th.step ha
     replace r_ti := r_ti.step ha
     replace r_10y := r_10y.step ha
     replace r_10z := r_10z.step ha
     replace r_110 := r_110.step ha
     replace r_111 := r_111.step ha
     replace tb := tb.step ha
     exact ⟨(x_14r.Num.Neg, x_14r.Num.Mag, x_14r.Den.Neg, x_14r.Den.Mag, x_14s.Num.Neg, x_14s.Num.Mag, x_14s.Den.Neg, x_14s.Den.Mag, g_149, v_14w, v_14x, g_154, v_14y, v_14z, I_14v), (.c rfl (.c rfl (.c rfl (.c rfl (.c rfl (.c rfl (.c rfl (.c rfl (.c rfl (.c rfl (.c rfl (.c rfl (.c rfl .n))))))))))))), rfl, hp, r_3s, r_3t, r_6h, r_6i, r_sd, r_se, r_sf, r_sg, r_pm, r_pn, r_po, r_pp, r_tf, r_tg, r_th, r_ti, r_10y, r_10z, r_110, r_111, r_150, r_151, r_152, r_153, tb⟩
    refine ⟨?_, trivial⟩
    refine ev_alloc hp rfl T31 ?_
    intro g_158 w_159 hp hs
    replace hz := hz.trans hs
    replace ha := ha.trans hs
    replace r_14l := r_14l.step hs
    replace r_14m := r_14m.step hs
    replace r_14n := r_14n.step hs
    replace r_14o := r_14o.step hs
    replace r_14p := r_14p.step hs
    replace r_14q := r_14q.step hs
    refine nxS hz (hp.kc 5 rfl (hp.kc 3 rfl (hp.kc 4 rfl kp_nil))) ?_
    have hz := Stp.refl I_14e w_159
    refine ⟨?_, trivial⟩
    obtain ⟨⟨x_15a, x_15b⟩, q_15c, q_113⟩ := bind_some q_113
    replace r_3s := r_3s.step ha
    replace r_3t := r_3t.step ha
    replace r_6h := r_6h.step ha
    replace r_6i := r_6i.step ha
    refine ev_call rfl rfl C13 (((rotation_Act_ok n) _ _  x_14b v_14f r_14l v_14g r_14m v_14h r_14n v_14i r_14o v_14j r_14p v_14k r_14q (Rational.mk (Int_2.mk x_3j x_3k) (Int_2.mk x_3l x_3m)) v_3o r_3s v_3p r_3t (Rational.mk (Int_2.mk x_68 x_69) (Int_2.mk x_6a x_6b)) v_6d r_6h v_6e r_6i hp.imm _ q_15c).mono ?_)
    rintro _ w_15d ⟨I_15e, v_15f, v_15g, v_15h, v_15i, hv, hq, r_15j, r_15k, r_15l, r_15m⟩
    replace hv := hv.symm
    subst hv
    have hs := hq.st
    have hp := hp.join0 hq
    replace hz := hz.trans hs
    replace ha := ha.trans hs
    replace r_3s := r_3s.step hs
    replace r_3t := r_3t.step hs
    replace r_6h := r_6h.step hs
    replace r_6i := r_6i.step hs
    refine nxS hz (hp.kc 5 rfl (hp.kc 3 rfl (hp.kc 4 rfl kp_nil))) ?_
    have hz := Stp.refl I_15e w_15d
    refine ⟨SK.same (by kernel_rfl), ?_⟩
    refine ⟨SK.same (by kernel_rfl), ?_⟩
    refine ⟨SK.same (by kernel_rfl), ?_⟩
    refine ⟨?_, trivial⟩
    refine ev_storeA hp (i := 1) (off := 0) (vs := [(.bool x_15a.Num.Neg), v_15f, (.bool x_15a.Den.Neg), v_15g]) rfl rfl rfl rfl T31 rfl (lbe rfl) (on2 r_15j.one (on2 r_15k.one ones_nil)) ?_
    intro w_15n hp hs
    replace hz := hz.trans hs
    replace ha := ha.trans hs
    replace r_15l := r_15l.step hs
    replace r_15m := r_15m.step hs
    replace r_15j := r_15j.step hs
    replace r_15k := r_15k.step hs
    replace r_3s := r_3s.step hs
    replace r_3t := r_3t.step hs
    replace r_6h := r_6h.step hs
    replace r_6i := r_6i.step hs
    refine nxS hz (hp.kc 5 rfl (hp.kc 3 rfl (hp.kc 4 rfl kp_nil))) ?_
    have hz := Stp.refl I_15e w_15n
    refine ⟨?_, trivial⟩
    refine ev_storeA hp (i := 0) (off := 0) (vs := [(.bool x_15b.Num.Neg), v_15h, (.bool x_15b.Den.Neg), v_15i]) rfl rfl rfl rfl T31 rfl (lbe rfl) (on2 r_15l.one (on2 r_15m.one ones_nil)) ?_
    intro w_15o hp hs
    replace hz := hz.trans hs
    replace ha := ha.trans hs
    replace r_15l := r_15l.step hs
    replace r_15m := r_15m.step hs
    replace r_15j := r_15j.step hs
    replace r_15k := r_15k.step hs
    replace r_3s := r_3s.step hs
    replace r_3t := r_3t.step hs
    replace r_6h := r_6h.step hs
    replace r_6i := r_6i.step hs
    refine nxS hz (hp.kc 5 rfl (hp.kc 3 rfl (hp.kc 4 rfl kp_nil))) ?_
    have hz := Stp.refl I_15e w_15o
    obtain rfl := Option.some.inj q_113
    have hp := hp.perm [2, 3, 4, 6, 7, 8, 9, 10, 11, 12, 13, 1, 0] (by decide)
    replace r_pm := r_pm.step ha
    replace r_pn := r_pn.step ha
    replace r_po := r_po.step ha
    replace r_pp := r_pp.step ha
    replace r_sd := r_sd.step ha
    replace r_se := r_se.step ha
    replace r_sf := r_sf.step ha
    replace r_sg := r_sg.step ha
    replace r_tf := r_tf.step ha
    replace r_tg := r_tg.step ha
    replace r_th := r_th.step ha
    replace r_ti := r_ti.step ha
    replace r_10y := r_10y.step ha
    replace r_10z := r_10z.step ha
    replace r_110 := r_110.step ha
    replace r_111 := r_111.step ha
    replace tb := tb.step ha
    exact ⟨(x_15a.Num.Neg, x_15a.Num.Mag, x_15a.Den.Neg, x_15a.Den.Mag, x_15b.Num.Neg, x_15b.Num.Mag, x_15b.Den.Neg, x_15b.Den.Mag, g_149, v_15f, v_15g, g_158, v_15h, v_15i, I_15e), (.c rfl (.c rfl (.c rfl (.c rfl (.c rfl (.c rfl (.c rfl (.c rfl (.c rfl (.c rfl (.c rfl (.c rfl (.c rfl .n))))))))))))), rfl, hp, r_3s, r_3t, r_6h, r_6i, r_sd, r_se, r_sf, r_sg, r_pm, r_pn, r_po, r_pp, r_tf, r_tg, r_th, r_ti, r_10y, r_10z, r_110, r_111, r_15j, r_15k, r_15l, r_15m, tb⟩
   refine ⟨?_, trivial⟩
   refine ev_alloc hp rfl T31 ?_
   intro g_15p w_15q hp hs
   replace hz := hz.trans hs
   replace ha := ha.trans hs
   refine nxS hz (hp.kc 5 rfl (hp.kc 3 rfl (hp.kc 4 rfl kp_nil))) ?_
   have hz := Stp.refl I_10w w_15q
   refine ⟨?_, trivial⟩
   obtain ⟨x_15r, q_15s, q_113⟩ := bind_some q_113
   replace r_bi := r_bi.step ha
   replace r_bj := r_bj.step ha
   replace r_bk := r_bk.step ha
   replace r_bl := r_bl.step ha
   replace r_bm := r_bm.step ha
   replace r_bn := r_bn.step ha
   refine ev_call rfl rfl C15 (((rotation_Back_ok n) _ _  (Transform.mk (Rot.mk (Int_2.mk x_ax x_ay) (Int_2.mk x_az x_b0)) (Rational.mk (Int_2.mk x_b1 x_b2) (Int_2.mk x_b3 x_b4)) (Rational.mk (Int_2.mk x_b5 x_b6) (Int_2.mk x_b7 x_b8))) v_ba r_bi v_bb r_bj v_bc r_bk v_bd r_bl v_be r_bm v_bf r_bn hp.imm _ q_15s).mono ?_)
   rintro _ w_15t ⟨I_15u, v_15v, v_15w, v_15x, v_15y, v_15z, v_160, hv, hq, r_161, r_162, r_163, r_164, r_165, r_166⟩
   replace hv := hv.symm
   subst hv
   have hs := hq.st
   have hp := hp.join0 hq
   replace hz := hz.trans hs
   replace ha := ha.trans hs
   refine nxS hz (hp.kc 5 rfl (hp.kc 3 rfl (hp.kc 4 rfl kp_nil))) ?_
   have hz := Stp.refl I_15u w_15t
   refine ⟨?_, trivial⟩
   obtain ⟨⟨x_167, x_168⟩, q_169, q_113⟩ := bind_some q_113
   replace r_3s := r_3s.step ha
   replace r_3t := r_3t.step ha
   replace r_6h := r_6h.step ha
   replace r_6i := r_6i.step ha
   refine ev_call rfl rfl C13 (((rotation_Act_ok n) _ _  x_15r v_15v r_161 v_15w r_162 v_15x r_163 v_15y r_164 v_15z r_165 v_160 r_166 (Rational.mk (Int_2.mk x_3j x_3k) (Int_2.mk x_3l x_3m)) v_3o r_3s v_3p r_3t (Rational.mk (Int_2.mk x_68 x_69) (Int_2.mk x_6a x_6b)) v_6d r_6h v_6e r_6i hp.imm _ q_169).mono ?_)
   rintro _ w_16a ⟨I_16b, v_16c, v_16d, v_16e, v_16f, hv, hq, r_16g, r_16h, r_16i, r_16j⟩
   replace hv := hv.symm
   subst hv
   have hs := hq.st
   have hp := hp.join0 hq
   replace hz := hz.trans hs
   replace ha := ha.trans hs
   replace r_3s := r_3s.step hs
   replace r_3t := r_3t.step hs
   replace r_6h := r_6h.step hs
   replace r_6i := r_6i.step hs
   refine nxS hz (hp.kc 5 rfl (hp.kc 3 rfl (hp.kc 4 rfl kp_nil))) ?_
   have hz := Stp.refl I_16b w_16a
   refine ⟨SK.same (by kernel_rfl), ?_⟩
   refine ⟨SK.same (by kernel_rfl), ?_⟩
   refine ⟨SK.same (by kernel_rfl), ?_⟩
   refine ⟨?_, trivial⟩
   refine ev_storeA hp (i := 1) (off := 0) (vs := [(.bool x_167.Num.Neg), v_16c, (.bool x_167.Den.Neg), v_16d]) rfl rfl rfl rfl T31 rfl (lbe rfl) (on2 r_16g.one (on2 r_16h.one ones_nil)) ?_
   intro w_16k hp hs
   replace hz := hz.trans hs
   replace ha := ha.trans hs
   replace r_16i := r_16i.step hs
   replace r_16j := r_16j.step hs
   replace r_16g := r_16g.step hs
   replace r_16h := r_16h.step hs
   replace r_3s := r_3s.step hs
   replace r_3t := r_3t.step hs
   replace r_6h := r_6h.step hs
   replace r_6i := r_6i.step hs
   refine nxS hz (hp.kc 5 rfl (hp.kc 3 rfl (hp.kc 4 rfl kp_nil))) ?_
   have hz := Stp.refl I_16b w_16k
   refine ⟨?_, trivial⟩
   refine ev_storeA hp (i := 0) (off := 0) (vs := [(.bool x_168.Num.Neg), v_16e, (.bool x_168.Den.Neg), v_16f]) rfl rfl rfl rfl T31 rfl (lbe rfl) (on2 r_16i.one (on2 r_16j.one ones_nil)) ?_
   intro w_16l hp hs
   replace hz := hz.trans hs
   replace ha := ha.trans hs
   replace r_16i := r_16i.step hs
   replace r_16j := r_16j.step hs
   replace r_16g := r_16g.step hs
   replace r_16h := r_16h.step hs
   replace r_3s := r_3s.step hs
   replace r_3t := r_3t.step hs
   replace r_6h := r_6h.step hs
   replace r_6i := r_6i.step hs
   refine nxS hz (hp.kc 5 rfl (hp.kc 3 rfl (hp.kc 4 rfl kp_nil))) ?_
   have hz := Stp.refl I_16b w_16l
   obtain rfl := Option.some.inj q_113
   have hp := hp.perm [2, 3, 4, 6, 7, 8, 9, 10, 11, 12, 13, 1, 0] (by decide)
   replace r_pm := r_pm.step ha
   replace r_pn := r_pn.step ha
   replace r_po := r_po.step ha
   replace r_pp := r_pp.step ha
   replace r_sd := r_sd.step ha
   replace r_se := r_se.step ha
   replace r_sf := r_sf.step ha
   replace r_sg := r_sg.step ha
   replace r_tf := r_tf.step ha
   replace r_tg := r_tg.step ha
   replace r_th := r_th.step ha
   replace r_ti := r_ti.step ha
   replace r_10y := r_10y.step ha
   replace r_10z := r_10z.step ha
   replace r_110 := r_110.step ha
   replace r_111 := r_111.step ha
   replace tb := tb.step ha
   exact ⟨(x_167.Num.Neg, x_167.Num.Mag, x_167.Den.Neg, x_167.Den.Mag, x_168.Num.Neg, x_168.Num.Mag, x_168.Den.Neg, x_168.Den.Mag, g_149, v_16c, v_16d, g_15p, v_16e, v_16f, I_16b), (.c rfl (.c rfl (.c rfl (.c rfl (.c rfl (.c rfl (.c rfl (.c rfl (.c rfl (.c rfl (.c rfl (.c rfl (.c rfl .n))))))))))))), rfl, hp, r_3s, r_3t, r_6h, r_6i, r_sd, r_se, r_sf, r_sg, r_pm, r_pn, r_po, r_pp, r_tf, r_tg, r_th, r_ti, r_10y, r_10z, r_110, r_111, r_16g, r_16h, r_16i, r_16j, tb⟩
  refine ⟨?_, trivial⟩
  refine ev_alloc hp rfl T31 ?_
  intro g_16m w_16n hp hs
  replace hz := hz.trans hs
  replace ha := ha.trans hs
  refine nxS hz (hp.kc 4 rfl (hp.kc 2 rfl (hp.kc 3 rfl kp_nil))) ?_
  have hz := Stp.refl I_10w w_16n
  refine ⟨?_, ?_⟩
  ·
   obtain ⟨x_16o, q_16p, q_113⟩ := bind_some q_113
   replace r_bi := r_bi.step ha
   replace r_bj := r_bj.step ha
   replace r_bk := r_bk.step ha
   replace r_bl := r_bl.step ha
   replace r_bm := r_bm.step ha
   replace r_bn := r_bn.step ha
   refine ev_call rfl rfl C15 (((rotation_Back_ok n) _ _  (Transform.mk (Rot.mk (Int_2.mk x_ax x_ay) (Int_2.mk x_az x_b0)) (Rational.mk (Int_2.mk x_b1 x_b2) (Int_2.mk x_b3 x_b4)) (Rational.mk (Int_2.mk x_b5 x_b6) (Int_2.mk x_b7 x_b8))) v_ba r_bi v_bb r_bj v_bc r_bk v_bd r_bl v_be r_bm v_bf r_bn hp.imm _ q_16p).mono ?_)
   rintro _ w_16q ⟨I_16r, v_16s, v_16t, v_16u, v_16v, v_16w, v_16x, hv, hq, r_16y, r_16z, r_170, r_171, r_172, r_173⟩
   replace hv := hv.symm
   subst hv
   have hs := hq.st
   have hp := hp.join0 hq
   replace hz := hz.trans hs
   replace ha := ha.trans hs
   refine nxS hz (hp.kc 4 rfl (hp.kc 2 rfl (hp.kc 3 rfl kp_nil))) ?_
   have hz := Stp.refl I_16r w_16q
   refine ⟨?_, ?_⟩
   ·
    obtain ⟨⟨x_174, x_175⟩, q_176, q_113⟩ := bind_some q_113
    replace r_3s := r_3s.step ha
    replace r_3t := r_3t.step ha
    replace r_6h := r_6h.step ha
    replace r_6i := r_6i.step ha
    refine ev_call rfl rfl C13 (((rotation_Act_ok n) _ _  x_16o v_16s r_16y v_16t r_16z v_16u r_170 v_16v r_171 v_16w r_172 v_16x r_173 (Rational.mk (Int_2.mk x_3j x_3k) (Int_2.mk x_3l x_3m)) v_3o r_3s v_3p r_3t (Rational.mk (Int_2.mk x_68 x_69) (Int_2.mk x_6a x_6b)) v_6d r_6h v_6e r_6i hp.imm _ q_176).mono ?_)
    rintro _ w_177 ⟨I_178, v_179, v_17a, v_17b, v_17c, hv, hq, r_17d, r_17e, r_17f, r_17g⟩
    replace hv := hv.symm
    subst hv
    have hs := hq.st
    have hp := hp.join0 hq
    replace hz := hz.trans hs
    replace ha := ha.trans hs
    replace r_3s := r_3s.step hs
    replace r_3t := r_3t.step hs
    replace r_6h := r_6h.step hs
    replace r_6i := r_6i.step hs
    refine nxS hz (hp.kc 4 rfl (hp.kc 2 rfl (hp.kc 3 rfl kp_nil))) ?_
    have hz := Stp.refl I_178 w_177
    refine ⟨SK.same (by kernel_rfl), ?_⟩
    refine ⟨SK.same (by kernel_rfl), ?_⟩
    refine ⟨SK.same (by kernel_rfl), ?_⟩
    refine ⟨?_, trivial⟩
    refine ev_alloc hp rfl T31 ?_
    intro g_17h w_17i hp hs
    replace hz := hz.trans hs
    replace ha := ha.trans hs
    replace r_17d := r_17d.step hs
    replace r_17e := r_17e.step hs
    replace r_17f := r_17f.step hs
    replace r_17g := r_17g.step hs
    replace r_3s := r_3s.step hs
    replace r_3t := r_3t.step hs
    replace r_6h := r_6h.step hs
    replace r_6i := r_6i.step hs
    refine nxS hz (hp.kc 5 rfl (hp.kc 3 rfl (hp.kc 4 rfl kp_nil))) ?_
    have hz := Stp.refl I_178 w_17i
    refine ⟨?_, trivial⟩
    refine ev_storeA hp (i := 0) (off := 0) (vs := [(.bool x_174.Num.Neg), v_179, (.bool x_174.Den.Neg), v_17a]) rfl rfl rfl rfl T31 rfl (lbe rfl) (on2 r_17d.one (on2 r_17e.one ones_nil)) ?_
    intro w_17j hp hs
    replace hz := hz.trans hs
    replace ha := ha.trans hs
    replace r_17f := r_17f.step hs
    replace r_17g := r_17g.step hs
    replace r_17d := r_17d.step hs
    replace r_17e := r_17e.step hs
    replace r_3s := r_3s.step hs
    replace r_3t := r_3t.step hs
    replace r_6h := r_6h.step hs
    replace r_6i := r_6i.step hs
    refine nxS hz (hp.kc 5 rfl (hp.kc 3 rfl (hp.kc 4 rfl kp_nil))) ?_
    have hz := Stp.refl I_178 w_17j
    refine ⟨?_, trivial⟩
    refine ev_storeA hp (i := 1) (off := 0) (vs := [(.bool x_175.Num.Neg), v_17b, (.bool x_175.Den.Neg), v_17c]) rfl rfl rfl rfl T31 rfl (lbe rfl) (on2 r_17f.one (on2 r_17g.one ones_nil)) ?_
    intro w_17k hp hs
    replace hz := hz.trans hs
    replace ha := ha.trans hs
    replace r_17d := r_17d.step hs
    replace r_17e := r_17e.step hs
    replace r_17f := r_17f.step hs
    replace r_17g := r_17g.step hs
    replace r_3s := r_3s.step hs
    replace r_3t := r_3t.step hs
    replace r_6h := r_6h.step hs
    replace r_6i := r_6i.step hs
    refine nxS hz (hp.kc 5 rfl (hp.kc 3 rfl (hp.kc 4 rfl kp_nil))) ?_
    have hz := Stp.refl I_178 w_17k
    obtain rfl := Option.some.inj q_113
    have hp := hp.perm [2, 3, 4, 6, 7, 8, 9, 10, 11, 12, 13, 0, 1] (by decide)
    replace r_pm := r_pm.step ha
    replace r_pn := r_pn.step ha
    replace r_po := r_po.step ha
    replace r_pp := r_pp.step ha
    replace r_sd := r_sd.step ha
    replace r_se := r_se.step ha
    replace r_sf := r_sf.step ha
    replace r_sg := r_sg.step ha
    replace r_tf := r_tf.step ha
    replace r_tg := r_tg.step ha
    replace r_th := r_th.step ha
    replace r_ti := r_ti.step ha
    replace r_10y := r_10y.step ha
    replace r_10z := r_10z.step ha
    replace r_110 := r_110.step ha
    replace r_111 := r_111.step ha
    replace tb := tb.step ha
    exact ⟨(x_174.Num.Neg, x_174.Num.Mag, x_174.Den.Neg, x_174.Den.Mag, x_175.Num.Neg, x_175.Num.Mag, x_175.Den.Neg, x_175.Den.Mag, g_17h, v_179, v_17a, g_16m, v_17b, v_17c, I_178), (.c rfl (.c rfl (.c rfl (.c rfl (.c rfl (.c rfl (.c rfl (.c rfl (.c rfl (.c rfl (.c rfl (.c rfl (.c rfl .n))))))))))))), rfl, hp, r_3s, r_3t, r_6h, r_6i, r_sd, r_se, r_sf, r_sg, r_pm, r_pn, r_po, r_pp, r_tf, r_tg, r_th, r_ti, r_10y, r_10z, r_110, r_111, r_17d, r_17e, r_17f, r_17g, tb⟩
   refine ⟨?_, trivial⟩
   refine ev_alloc hp rfl T31 ?_
   intro g_17l w_17m hp hs
   replace hz := hz.trans hs
   replace ha := ha.trans hs
   replace r_16y := r_16y.step hs
   replace r_16z := r_16z.step hs
   replace r_170 := r_170.step hs
   replace r_171 := r_171.step hs
   replace r_172 := r_172.step hs
   replace r_173 := r_173.step hs
   refine nxS hz (hp.kc 5 rfl (hp.kc 3 rfl (hp.kc 4 rfl kp_nil))) ?_
   have hz := Stp.refl I_16r w_17m
   refine ⟨?_, trivial⟩
   obtain ⟨⟨x_17n, x_17o⟩, q_17p, q_113⟩ := bind_some q_113
   replace r_3s := r_3s.step ha
   replace r_3t := r_3t.step ha
   replace r_6h := r_6h.step ha
   replace r_6i := r_6i.step ha
   refine ev_call rfl rfl C13 (((rotation_Act_ok n) _ _  x_16o v_16s r_16y v_16t r_16z v_16u r_170 v_16v r_171 v_16w r_172 v_16x r_173 (Rational.mk (Int_2.mk x_3j x_3k) (Int_2.mk x_3l x_3m)) v_3o r_3s v_3p r_3t (Rational.mk (Int_2.mk x_68 x_69) (Int_2.mk x_6a x_6b)) v_6d r_6h v_6e r_6i hp.imm _ q_17p).mono ?_)
   rintro _ w_17q ⟨I_17r, v_17s, v_17t, v_17u, v_17v, hv, hq, r_17w, r_17x, r_17y, r_17z⟩
   replace hv := hv.symm
   subst hv
   have hs := hq.st
   have hp := hp.join0 hq
   replace hz := hz.trans hs
   replace ha := ha.trans hs
   replace r_3s := r_3s.step hs
   replace r_3t := r_3t.step hs
   replace r_6h := r_6h.step hs
   replace r_6i := r_6i.step hs
   refine nxS hz (hp.kc 5 rfl (hp.kc 3 rfl (hp.kc 4 rfl kp_nil))) ?_
   have hz := Stp.refl I_17r w_17q
   refine ⟨SK.same (by kernel_rfl), ?_⟩
   refine ⟨SK.same (by kernel_rfl), ?_⟩
   refine ⟨SK.same (by kernel_rfl), ?_⟩
   refine ⟨?_, trivial⟩
   refine ev_storeA hp (i := 0) (off := 0) (vs := [(.bool x_17n.Num.Neg), v_17s, (.bool x_17n.Den.Neg), v_17t]) rfl rfl rfl rfl T31 rfl (lbe rfl) (on2 r_17w.one (on2 r_17x.one ones_nil)) ?_
   intro w_180 hp hs
   replace hz := hz.trans hs
   replace ha := ha.trans hs
   replace r_17y := r_17y.step hs
   replace r_17z := r_17z.step hs
   replace r_17w := r_17w.step hs
   replace r_17x := r_17x.step hs
   replace r_3s := r_3s.step hs
   replace r_3t := r_3t.step hs
   replace r_6h := r_6h.step hs
   replace r_6i := r_6i.step hs
   refine nxS hz (hp.kc 5 rfl (hp.kc 3 rfl (hp.kc 4 rfl kp_nil))) ?_
   have hz := Stp.refl I_17r w_180
   refine ⟨?_, trivial⟩
   refine ev_storeA hp (i := 1) (off := 0) (vs := [(.bool x_17o.Num.Neg), v_17u, (.bool x_17o.Den.Neg), v_17v]) rfl rfl rfl rfl T31 rfl (lbe rfl) (on2 r_17y.one (on2 r_17z.one ones_nil)) ?_
   intro w_181 hp hs
   replace hz := hz.trans hs
   replace ha := ha.trans hs
   replace r_17w := r_17w.step hs
   replace r_17x := r_17x.step hs
   replace r_17y := r_17y.step hs
   replace r_17z := r_17z.step hs
   replace r_3s := r_3s.step hs
   replace r_3t := r_3t.step hs
   replace r_6h := r_6h.step hs
   replace r_6i := r_6i.step hs
   refine nxS hz (hp.kc 5 rfl (hp.kc 3 rfl (hp.kc 4 rfl kp_nil))) ?_
   have hz := Stp.refl I_17r w_181
   obtain rfl := Option.some.inj q_113
   have hp := hp.perm [2, 3, 4, 6, 7, 8, 9, 10, 11, 12, 13, 0, 1] (by decide)
   replace r_pm := r_pm.step ha
   replace r_pn := r_pn.step ha
   replace r_po := r_po.step ha
   replace r_pp := r_pp.step ha
   replace r_sd := r_sd.step ha
   replace r_se := r_se.step ha
   replace r_sf := r_sf.step ha
   replace r_sg := r_sg.step ha
   replace r_tf := r_tf.step ha
   replace r_tg := r_tg.step ha
   replace r_th := r_th.step ha
   replace r_ti := r_ti.step ha
   replace r_10y := r_10y.step ha
   replace r_10z := r_10z.step ha
   replace r_110 := r_110.step ha
   replace r_111 := r_111.step ha
   replace tb := tb.step ha
   exact ⟨(x_17n.Num.Neg, x_17n.Num.Mag, x_17n.Den.Neg, x_17n.Den.Mag, x_17o.Num.Neg, x_17o.Num.Mag, x_17o.Den.Neg, x_17o.Den.Mag, g_17l, v_17s, v_17t, g_16m, v_17u, v_17v, I_17r), (.c rfl (.c rfl (.c rfl (.c rfl (.c rfl (.c rfl (.c rfl (.c rfl (.c rfl (.c rfl (.c rfl (.c rfl (.c rfl .n))))))))))))), rfl, hp, r_3s, r_3t, r_6h, r_6i, r_sd, r_se, r_sf, r_sg, r_pm, r_pn, r_po, r_pp, r_tf, r_tg, r_th, r_ti, r_10y, r_10z, r_110, r_111, r_17w, r_17x, r_17y, r_17z, tb⟩
  refine ⟨?_, trivial⟩
  refine ev_alloc hp rfl T31 ?_
  intro g_182 w_183 hp hs
  replace hz := hz.trans hs
  replace ha := ha.trans hs
  refine nxS hz (hp.kc 5 rfl (hp.kc 3 rfl (hp.kc 4 rfl kp_nil))) ?_
  have hz := Stp.refl I_10w w_183
  refine ⟨?_, trivial⟩
  obtain ⟨x_184, q_185, q_113⟩ := bind_some q_113
  replace r_bi := r_bi.step ha
  replace r_bj := r_bj.step ha
  replace r_bk := r_bk.step ha
  replace r_bl := r_bl.step ha
  replace r_bm := r_bm.step ha
  replace r_bn := r_bn.step ha
  refine ev_call rfl rfl C15 (((rotation_Back_ok n) _ _  (Transform.mk (Rot.mk (Int_2.mk x_ax x_ay) (Int_2.mk x_az x_b0)) (Rational.mk (Int_2.mk x_b1 x_b2) (Int_2.mk x_b3 x_b4)) (Rational.mk (Int_2.mk x_b5 x_b6) (Int_2.mk x_b7 x_b8))) v_ba r_bi v_bb r_bj v_bc r_bk v_bd r_bl v_be r_bm v_bf r_bn hp.imm _ q_185).mono ?_)
  rintro _ w_186 ⟨I_187, v_188, v_189, v_18a, v_18b, v_18c, v_18d, hv, hq, r_18e, r_18f, r_18g, r_18h, r_18i, r_18j⟩
  replace hv := hv.symm
  subst hv
  have hs := hq.st
  have hp := hp.join0 hq
  replace hz := hz.trans hs
  replace ha := ha.trans hs
  refine nxS hz (hp.kc 5 rfl (hp.kc 3 rfl (hp.kc 4 rfl kp_nil))) ?_
  have hz := Stp.refl I_187 w_186
  refine ⟨?_, trivial⟩
  obtain ⟨⟨x_18k, x_18l⟩, q_18m, q_113⟩ := bind_some q_113
  replace r_3s := r_3s.step ha
  replace r_3t := r_3t.step ha
  replace r_6h := r_6h.step ha
  replace r_6i := r_6i.step ha
  refine ev_call rfl rfl C13 (((rotation_Act_ok n) _ _  x_184 v_188 r_18e v_189 r_18f v_18a r_18g v_18b r_18h v_18c r_18i v_18d r_18j (Rational.mk (Int_2.mk x_3j x_3k) (Int_2.mk x_3l x_3m)) v_3o r_3s v_3p r_3t (Rational.mk (Int_2.mk x_68 x_69) (Int_2.mk x_6a x_6b)) v_6d r_6h v_6e r_6i hp.imm _ q_18m).mono ?_)
  rintro _ w_18n ⟨I_18o, v_18p, v_18q, v_18r, v_18s, hv, hq, r_18t, r_18u, r_18v, r_18w⟩
  replace hv := hv.symm
  subst hv
  have hs := hq.st
  have hp := hp.join0 hq
  replace hz := hz.trans hs
  replace ha := ha.trans hs
  replace r_3s := r_3s.step hs
  replace r_3t := r_3t.step hs
  replace r_6h := r_6h.step hs
  replace r_6i := r_6i.step hs
  refine nxS hz (hp.kc 5 rfl (hp.kc 3 rfl (hp.kc 4 rfl kp_nil))) ?_
  have hz := Stp.refl I_18o w_18n
  refine ⟨SK.same (by kernel_rfl), ?_⟩
  refine ⟨SK.same (by kernel_rfl), ?_⟩
  refine ⟨SK.same (by kernel_rfl), ?_⟩
  refine ⟨?_, trivial⟩
  refine ev_storeA hp (i := 0) (off := 0) (vs := [(.bool x_18k.Num.Neg), v_18p, (.bool x_18k.Den.Neg), v_18q]) rfl rfl rfl rfl T31 rfl (lbe rfl) (on2 r_18t.one (on2 r_18u.one ones_nil)) ?_
  intro w_18x hp hs
  replace hz := hz.trans hs
  replace ha := ha.trans hs
  replace r_18v := r_18v.step hs
  replace r_18w := r_18w.step hs
  replace r_18t := r_18t.step hs
  replace r_18u := r_18u.step hs
  replace r_3s := r_3s.step hs
  replace r_3t := r_3t.step hs
  replace r_6h := r_6h.step hs
  replace r_6i := r_6i.step hs
  refine nxS hz (hp.kc 5 rfl (hp.kc 3 rfl (hp.kc 4 rfl kp_nil))) ?_
  have hz := Stp.refl I_18o w_18x
  refine ⟨?_, trivial⟩
  refine ev_storeA hp (i := 1) (off := 0) (vs := [(.bool x_18l.Num.Neg), v_18r, (.bool x_18l.Den.Neg), v_18s]) rfl rfl rfl rfl T31 rfl (lbe rfl) (on2 r_18v.one (on2 r_18w.one ones_nil)) ?_
  intro w_18y hp hs
  replace hz := hz.trans hs
  replace ha := ha.trans hs
  replace r_18t := r_18t.step hs
  replace r_18u := r_18u.step hs
  replace r_18v := r_18v.step hs
  replace r_18w := r_18w.step hs
  replace r_3s := r_3s.step hs
  replace r_3t := r_3t.step hs
  replace r_6h := r_6h.step hs
  replace r_6i := r_6i.step hs
  refine nxS hz (hp.kc 5 rfl (hp.kc 3 rfl (hp.kc 4 rfl kp_nil))) ?_
  have hz := Stp.refl I_18o w_18y
  obtain rfl := Option.some.inj q_113
  have hp := hp.perm [2, 3, 4, 6, 7, 8, 9, 10, 11, 12, 13, 0, 1] (by decide)
  replace r_pm := r_pm.step ha
  replace r_pn := r_pn.step ha
  replace r_po := r_po.step ha
  replace r_pp := r_pp.step ha
  replace r_sd := r_sd.step ha
  replace r_se := r_se.step ha
  replace r_sf := r_sf.step ha
  replace r_sg := r_sg.step ha
  replace r_tf := r_tf.step ha
  replace r_tg := r_tg.step ha
  replace r_th := r_th.step ha
  replace r_ti := r_ti.step ha
  replace r_10y := r_10y.step ha
  replace r_10z := r_10z.step ha
  replace r_110 := r_110.step ha
  replace r_111 := r_111.step ha
  replace tb := tb.step ha
  exact ⟨(x_18k.Num.Neg, x_18k.Num.Mag, x_18k.Den.Neg, x_18k.Den.Mag, x_18l.Num.Neg, x_18l.Num.Mag, x_18l.Den.Neg, x_18l.Den.Mag, g_182, v_18p, v_18q, g_16m, v_18r, v_18s, I_18o), (.c rfl (.c rfl (.c rfl (.c rfl (.c rfl (.c rfl (.c rfl (.c rfl (.c rfl (.c rfl (.c rfl (.c rfl (.c rfl .n))))))))))))), rfl, hp, r_3s, r_3t, r_6h, r_6i, r_sd, r_se, r_sf, r_sg, r_pm, r_pn, r_po, r_pp, r_tf, r_tg, r_th, r_ti, r_10y, r_10z, r_110, r_111, r_18t, r_18u, r_18v, r_18w, tb⟩
 rintro ⟨x_18z, x_190, x_191, x_192, x_193, x_194, x_195, x_196, g_197, v_198, v_199, g_19a, v_19b, v_19c, I_19d⟩ w_19e ⟨hy, hp, r_3s, r_3t, r_6h, r_6i, r_sd, r_se, r_sf, r_sg, r_pm, r_pn, r_po, r_pp, r_tf, r_tg, r_th, r_ti, r_10y, r_10z, r_110, r_111, r_19f, r_19g, r_19h, r_19i, tb⟩
 replace hy := hy.symm
 subst hy
 obtain ⟨y_19j, q_19k, h⟩ := bind_some h
 refine W.cut (γ := (Bool × (Nat → Prop))) (fun g => [(6, (.bool (g.1)))]) (fun g w' => y_19j = (g.1) ∧ Hp ⟨w0, I0, []⟩ (g.2) [] w' ∧ Tb w' (g.2) 2 .u64 pow10) ?_ ?_
 ·
  have hs := hp.stp (Ch.drew [] w_19e)
  have hp := hp.drew
  replace ha := hs
  refine W.heldT [(0, true), (1, true), (2, false), (3, true), (4, true), (5, true), (6, false), (7, true), (8, true), (9, true), (10, true), (11, false), (12, true), (13, true), (14, true), (15, true), (16, false), (17, true), (18, true), (19, true), (20, true), (21, true), (22, true), (23, true), (24, false), (25, false), (26, true), (27, true), (28, true), (29, true), (30, true), (31, true), (32, true), (33, false), (34, false), (35, true), (36, true), (37, true), (38, true), (39, false), (40, true), (41, true), (42, true), (43, true), (44, false), (45, true), (46, true)] (fun x => Stp I_19d w_19e.drew I_19d x ∧ OwnK [(g_pq, [(.bool x_pd.Num.Neg), v_pi, (.bool x_pd.Den.Neg), v_pj], 31), (g_3n, [(.bool x_3j), v_3o, (.bool x_3l), v_3p], 31), (g_ps, [(.bool x_pe.Num.Neg), v_pk, (.bool x_pe.Den.Neg), v_pl], 31), (g_6c, [(.bool x_68), v_6d, (.bool x_6a), v_6e], 31), (g_tj, [(.bool x_t6.Num.Neg), v_tb, (.bool x_t6.Den.Neg), v_tc], 31), (g_tl, [(.bool x_t7.Num.Neg), v_td, (.bool x_t7.Den.Neg), v_te], 31), (g_10q, [(.bool x_10i), v_10r, (.bool x_10k), v_10s], 31), (g_12, [(.int .i64 x_z.X), (.int .i64 x_z.Y), (.int .i64 x_z.D)], 34), (g_10t, [(.bool x_10m), v_10u, (.bool x_10o), v_10v], 31), (g_197, [(.bool x_18z), v_198, (.bool x_191), v_199], 31), (g_p1, [(.bool x_ot), v_s0, (.bool x_ov), v_s1], 31), (g_19a, [(.bool x_193), v_19b, (.bool x_195), v_19c], 31), (g_p4, [(.bool x_ox), v_s2, (.bool x_oz), v_s3], 31)] x) MX (by kernel_rfl) ⟨Stp.refl _ _, (OwnK.cons (hp.own 5 _ _ _ rfl).1 (OwnK.cons (hp.own 1 _ _ _ rfl).1 (OwnK.cons (hp.own 6 _ _ _ rfl).1 (OwnK.cons (hp.own 2 _ _ _ rfl).1 (OwnK.cons (hp.own 7 _ _ _ rfl).1 (OwnK.cons (hp.own 8 _ _ _ rfl).1 (OwnK.cons (hp.own 9 _ _ _ rfl).1 (OwnK.cons (hp.own 0 _ _ _ rfl).1 (OwnK.cons (hp.own 10 _ _ _ rfl).1 (OwnK.cons (hp.own 11 _ _ _ rfl).1 (OwnK.cons (hp.own 3 _ _ _ rfl).1 (OwnK.cons (hp.own 12 _ _ _ rfl).1 (OwnK.cons (hp.own 4 _ _ _ rfl).1 OwnK.nil)))))))))))))⟩ ?_
  have hz := Stp.refl I_19d w_19e.drew
  intro ops hops
  have e0 : nthO ops 0 = some _ := (hops 0).trans rfl
  have e1 : nthO ops 1 = some _ := (hops 1).trans rfl
  have e2 : nthO ops 2 = some _ := (hops 2).trans rfl
  have e3 : nthO ops 3 = some _ := (hops 3).trans rfl
  have e4 : nthO ops 4 = some _ := (hops 4).trans rfl
  have e5 : nthO ops 5 = some _ := (hops 5).trans rfl
  have e6 : nthO ops 6 = some _ := (hops 6).trans rfl
  have e7 : nthO ops 7 = some _ := (hops 7).trans rfl
  have e8 : nthO ops 8 = some _ := (hops 8).trans rfl
  have e9 : nthO ops 9 = some _ := (hops 9).trans rfl
  have e10 : nthO ops 10 = some _ := (hops 10).trans rfl
  have e11 : nthO ops 11 = some _ := (hops 11).trans rfl
  have e12 : nthO ops 12 = some _ := (hops 12).trans rfl
  have e13 : nthO ops 13 = some _ := (hops 13).trans rfl
  have e14 : nthO ops 14 = some _ := (hops 14).trans rfl
  have e15 : nthO ops 15 = some _ := (hops 15).trans rfl
  have e16 : nthO ops 16 = some _ := (hops 16).trans rfl
  have e17 : nthO ops 17 = some _ := (hops 17).trans rfl
  have e18 : nthO ops 18 = some _ := (hops 18).trans rfl
  have e19 : nthO ops 19 = some _ := (hops 19).trans rfl
  have e20 : nthO ops 20 = some _ := (hops 20).trans rfl
  have e21 : nthO ops 21 = some _ := (hops 21).trans rfl
  have e22 : nthO ops 22 = some _ := (hops 22).trans rfl
  have e23 : nthO ops 23 = some _ := (hops 23).trans rfl
  have e24 : nthO ops 24 = some _ := (hops 24).trans rfl
  have e25 : nthO ops 25 = some _ := (hops 25).trans rfl
  have e26 : nthO ops 26 = some _ := (hops 26).trans rfl
  have e27 : nthO ops 27 = some _ := (hops 27).trans rfl
  have e28 : nthO ops 28 = some _ := (hops 28).trans rfl
  have e29 : nthO ops 29 = some _ := (hops 29).trans rfl
  have e30 : nthO ops 30 = some _ := (hops 30).trans rfl
  have e31 : nthO ops 31 = some _ := (hops 31).trans rfl
  have e32 : nthO ops 32 = some _ := (hops 32).trans rfl
  have e33 : nthO ops 33 = some _ := (hops 33).trans rfl
  have e34 : nthO ops 34 = some _ := (hops 34).trans rfl
  have e35 : nthO ops 35 = some _ := (hops 35).trans rfl
  have e36 : nthO ops 36 = some _ := (hops 36).trans rfl
  have e37 : nthO ops 37 = some _ := (hops 37).trans rfl
  have e38 : nthO ops 38 = some _ := (hops 38).trans rfl
  have e39 : nthO ops 39 = some _ := (hops 39).trans rfl
  have e40 : nthO ops 40 = some _ := (hops 40).trans rfl
  have e41 : nthO ops 41 = some _ := (hops 41).trans rfl
  have e42 : nthO ops 42 = some _ := (hops 42).trans rfl
  have e43 : nthO ops 43 = some _ := (hops 43).trans rfl
  have e44 : nthO ops 44 = some _ := (hops 44).trans rfl
  have e45 : nthO ops 45 = some _ := (hops 45).trans rfl
  have e46 : nthO ops 46 = some _ := (hops 46).trans rfl
  clear hops
  refine vch_q e0 rfl ?_
  refine evh (fun w' hw => rn_load rfl rfl (run_loadVarA T31 rfl (hw.2.at_ (i := 0) rfl))) ?_
  refine vch_q e1 rfl ?_
  refine evh (fun w' hw => rn_load rfl rfl (run_loadVarA T31 rfl (hw.2.at_ (i := 1) rfl))) ?_
  refine vch_l e2 rfl ?_
  obtain ⟨x_19l, q_19m, q_19k⟩ := bind_some q_19k
  replace r_3s := r_3s.step ha
  replace r_3t := r_3t.step ha
  replace r_pm := r_pm.step ha
  replace r_pn := r_pn.step ha
  refine ev_call rfl rfl C16 (((base_Rational_ok n) _ _  (Rational.mk (Int_2.mk x_pd.Num.Neg x_pd.Num.Mag) (Int_2.mk x_pd.Den.Neg x_pd.Den.Mag)) v_pi r_pm v_pj r_pn (Rational.mk (Int_2.mk x_3j x_3k) (Int_2.mk x_3l x_3m)) v_3o r_3s v_3p r_3t hp.imm _ q_19m).mono ?_)
  rintro _ w_19n ⟨rfl, hc⟩
  have hs := hp.stp hc
  replace hp := hp.ext hc
  replace hz := hz.trans hs
  replace ha := ha.trans hs
  replace r_3s := r_3s.step hs
  replace r_3t := r_3t.step hs
  refine nxT hz (hp.ks [5, 1, 6, 2, 7, 8, 9, 0, 10, 11, 3, 12, 4] rfl) ?_
  have hz := Stp.refl I_19d w_19n
  refine vch_q e3 rfl ?_
  rcases Bool.eq_false_or_eq_true x_19l with hc | hc
  ·
   have q_19k := cond_t q_19k hc
   refine vch_qt e4 rfl e3 rfl rfl hc ?_
   refine evh (fun w' hw => rn_load rfl rfl (run_loadVarA T31 rfl (hw.2.at_ (i := 2) rfl))) ?_
   refine vch_qt e5 rfl e3 rfl rfl rfl ?_
   refine evh (fun w' hw => rn_load rfl rfl (run_loadVarA T31 rfl (hw.2.at_ (i := 3) rfl))) ?_
   refine vch_lt e6 rfl e3 rfl rfl rfl ?_
   obtain ⟨x_19o, q_19p, q_19k⟩ := bind_some q_19k
   replace r_6h := r_6h.step ha
   replace r_6i := r_6i.step ha
   replace r_po := r_po.step ha
   replace r_pp := r_pp.step ha
   refine ev_call rfl rfl C16 (((base_Rational_ok n) _ _  (Rational.mk (Int_2.mk x_pe.Num.Neg x_pe.Num.Mag) (Int_2.mk x_pe.Den.Neg x_pe.Den.Mag)) v_pk r_po v_pl r_pp (Rational.mk (Int_2.mk x_68 x_69) (Int_2.mk x_6a x_6b)) v_6d r_6h v_6e r_6i hp.imm _ q_19p).mono ?_)
   rintro _ w_19q ⟨rfl, hc⟩
   have hs := hp.stp hc
   replace hp := hp.ext hc
   replace hz := hz.trans hs
   replace ha := ha.trans hs
   replace r_3s := r_3s.step hs
   replace r_3t := r_3t.step hs
   replace r_6h := r_6h.step hs
   replace r_6i := r_6i.step hs
   refine nxT hz (hp.ks [5, 1, 6, 2, 7, 8, 9, 0, 10, 11, 3, 12, 4] rfl) ?_
   have hz := Stp.refl I_19d w_19q
   refine vch_q e7 rfl ?_
   refine vch_q e8 rfl ?_
   rcases Bool.eq_false_or_eq_true x_19o with hc | hc
   ·
    have q_19k := cond_t q_19k hc
    refine vch_qt e9 rfl e8 rfl rfl hc ?_
    refine evh (fun w' hw => rn_load rfl rfl (run_loadVarA T31 rfl (hw.2.at_ (i := 4) rfl))) ?_
    refine vch_qt e10 rfl e8 rfl rfl rfl ?_
    refine evh (fun w' hw => rn_load rfl rfl (run_loadVarA T31 rfl (hw.2.at_ (i := 1) rfl))) ?_
    refine vch_lt e11 rfl e8 rfl rfl rfl ?_
    obtain ⟨x_19r, q_19s, q_19k⟩ := bind_some q_19k
    replace r_tf := r_tf.step ha
    replace r_tg := r_tg.step ha
    refine ev_call rfl rfl C16 (((base_Rational_ok n) _ _  (Rational.mk (Int_2.mk x_t6.Num.Neg x_t6.Num.Mag) (Int_2.mk x_t6.Den.Neg x_t6.Den.Mag)) v_tb r_tf v_tc r_tg (Rational.mk (Int_2.mk x_3j x_3k) (Int_2.mk x_3l x_3m)) v_3o r_3s v_3p r_3t hp.imm _ q_19s).mono ?_)
    rintro _ w_19t ⟨rfl, hc⟩
    have hs := hp.stp hc
    replace hp := hp.ext hc
    replace hz := hz.trans hs
    replace ha := ha.trans hs
    replace r_6h := r_6h.step hs
    replace r_6i := r_6i.step hs
    refine nxT hz (hp.ks [5, 1, 6, 2, 7, 8, 9, 0, 10, 11, 3, 12, 4] rfl) ?_
    have hz := Stp.refl I_19d w_19t
    refine vch_q e12 rfl ?_
    refine vch_q e13 rfl ?_
    rcases Bool.eq_false_or_eq_true x_19r with hc | hc
    ·
     have q_19k := cond_t q_19k hc
     refine vch_qt e14 rfl e13 rfl rfl hc ?_
     refine evh (fun w' hw => rn_load rfl rfl (run_loadVarA T31 rfl (hw.2.at_ (i := 5) rfl))) ?_
     refine vch_qt e15 rfl e13 rfl rfl rfl ?_
     refine evh (fun w' hw => rn_load rfl rfl (run_loadVarA T31 rfl (hw.2.at_ (i := 3) rfl))) ?_
     refine vch_lt e16 rfl e13 rfl rfl rfl ?_
     obtain ⟨x_19u, q_19v, q_19k⟩ := bind_some q_19k
     replace r_th := r_th.step ha
     replace r_ti := r_ti.step ha
     refine ev_call rfl rfl C16 (((base_Rational_ok n) _ _  (Rational.mk (Int_2.mk x_t7.Num.Neg x_t7.Num.Mag) (Int_2.mk x_t7.Den.Neg x_t7.Den.Mag)) v_td r_th v_te r_ti (Rational.mk (Int_2.mk x_68 x_69) (Int_2.mk x_6a x_6b)) v_6d r_6h v_6e r_6i hp.imm _ q_19v).mono ?_)
     rintro _ w_19w ⟨rfl, hc⟩
     have hs := hp.stp hc
     replace hp := hp.ext hc
     replace hz := hz.trans hs
     replace ha := ha.trans hs
     refine nxT hz (hp.ks [5, 1, 6, 2, 7, 8, 9, 0, 10, 11, 3, 12, 4] rfl) ?_
     have hz := Stp.refl I_19d w_19w
     refine vch_q e17 rfl ?_
     refine vch_q e18 rfl ?_
     rcases Bool.eq_false_or_eq_true x_19u with hc | hc
     ·
      have q_19k := cond_t q_19k hc
      refine vch_qt e19 rfl e18 rfl rfl hc ?_
      refine evh (fun w' hw => rn_load rfl rfl (run_loadVarA T31 rfl (hw.2.at_ (i := 6) rfl))) ?_
      refine vch_qt e20 rfl e18 rfl rfl rfl ?_
      refine evh0 (rn_field rfl rfl FO34_0) ?_
      refine vch_qt e21 rfl e18 rfl rfl rfl ?_
      refine evh (fun w' hw => rn_load rfl rfl (run_loadVar1 T3 (hw.2.cell (i := 7) (off := 0) rfl rfl))) ?_
      refine vch_qt e22 rfl e18 rfl rfl rfl ?_
      refine evh0 (rn_field rfl rfl FO34_2) ?_
      refine vch_qt e23 rfl e18 rfl rfl rfl ?_
      refine evh (fun w' hw => rn_load rfl rfl (run_loadVar1 T3 (hw.2.cell (i := 7) (off := 2) rfl rfl))) ?_
      refine vch_lt e24 rfl e18 rfl rfl rfl ?_
      obtain ⟨x_19x, q_19y, q_19k⟩ := bind_some q_19k
      refine ev_call rfl rfl C8 (((rational_Of_ok n) _ _  x_z.X x_z.D hp.imm _ q_19y).mono ?_)
      rintro _ w_19z ⟨I_1a0, v_1a1, v_1a2, hv, hq, r_1a3, r_1a4⟩
      replace hv := hv.symm
      subst hv
      have hs := hq.st
      have hp := hp.join0 hq
      replace hz := hz.trans hs
      replace ha := ha.trans hs
      refine nxT hz (hp.ks [5, 1, 6, 2, 7, 8, 9, 0, 10, 11, 3, 12, 4] rfl) ?_
      have hz := Stp.refl I_1a0 w_19z
      refine vch_lt e25 rfl e18 rfl rfl rfl ?_
      obtain ⟨x_1a5, q_1a6, q_19k⟩ := bind_some q_19k
      replace r_10y := r_10y.step ha
      replace r_10z := r_10z.step ha
      refine ev_call rfl rfl C16 (((base_Rational_ok n) _ _  (Rational.mk (Int_2.mk x_10i x_10j) (Int_2.mk x_10k x_10l)) v_10r r_10y v_10s r_10z x_19x v_1a1 r_1a3 v_1a2 r_1a4 hp.imm _ q_1a6).mono ?_)
      rintro _ w_1a7 ⟨rfl, hc⟩
      have hs := hp.stp hc
      replace hp := hp.ext hc
      replace hz := hz.trans hs
      replace ha := ha.trans hs
      refine nxT hz (hp.ks [5, 1, 6, 2, 7, 8, 9, 0, 10, 11, 3, 12, 4] rfl) ?_
      have hz := Stp.refl I_1a0 w_1a7
      refine vch_q e26 rfl ?_
      refine vch_q e27 rfl ?_
      rcases Bool.eq_false_or_eq_true x_1a5 with hc | hc
      ·
       have q_19k := cond_t q_19k hc
       refine vch_qt e28 rfl e27 rfl rfl hc ?_
       refine evh (fun w' hw => rn_load rfl rfl (run_loadVarA T31 rfl (hw.2.at_ (i := 8) rfl))) ?_
       refine vch_qt e29 rfl e27 rfl rfl rfl ?_
       refine evh0 (rn_field rfl rfl FO34_1) ?_
       refine vch_qt e30 rfl e27 rfl rfl rfl ?_
       refine evh (fun w' hw => rn_load rfl rfl (run_loadVar1 T3 (hw.2.cell (i := 7) (off := 1) rfl rfl))) ?_
       refine vch_qt e31 rfl e27 rfl rfl rfl ?_
       refine evh0 (rn_field rfl rfl FO34_2) ?_
       refine vch_qt e32 rfl e27 rfl rfl rfl ?_
       refine evh (fun w' hw => rn_load rfl rfl (run_loadVar1 T3 (hw.2.cell (i := 7) (off := 2) rfl rfl))) ?_
       refine vch_lt e33 rfl e27 rfl rfl rfl ?_
       obtain ⟨x_1a8, q_1a9, q_19k⟩ := bind_some q_19k
       refine ev_call rfl rfl C8 (((rational_Of_ok n) _ _  x_z.Y x_z.D hp.imm _ q_1a9).mono ?_)
       rintro _ w_1aa ⟨I_1ab, v_1ac, v_1ad, hv, hq, r_1ae, r_1af⟩
       replace hv := hv.symm
       subst hv
       have hs := hq.st
       have hp := hp.join0 hq
       replace hz := hz.trans hs
       replace ha := ha.trans hs
       refine nxT hz (hp.ks [5, 1, 6, 2, 7, 8, 9, 0, 10, 11, 3, 12, 4] rfl) ?_
       have hz := Stp.refl I_1ab w_1aa
       refine vch_lt e34 rfl e27 rfl rfl rfl ?_
       obtain ⟨x_1ag, q_1ah, q_19k⟩ := bind_some q_19k
       replace r_110 := r_110.step ha
       replace r_111 := r_111.step ha
       refine ev_call rfl rfl C16 (((base_Rational_ok n) _ _  (Rational.mk (Int_2.mk x_10m x_10n) (Int_2.mk x_10o x_10p)) v_10u r_110 v_10v r_111 x_1a8 v_1ac r_1ae v_1ad r_1af hp.imm _ q_1ah).mono ?_)
       rintro _ w_1ai ⟨rfl, hc⟩
       have hs := hp.stp hc
       replace hp := hp.ext hc
       replace hz := hz.trans hs
       replace ha := ha.trans hs
       refine nxT hz (hp.ks [5, 1, 6, 2, 7, 8, 9, 0, 10, 11, 3, 12, 4] rfl) ?_
       have hz := Stp.refl I_1ab w_1ai
       refine vch_q e35 rfl ?_
       refine vch_q e36 rfl ?_
       rcases Bool.eq_false_or_eq_true x_1ag with hc | hc
       ·
        have q_19k := cond_t q_19k hc
        refine vch_qt e37 rfl e36 rfl rfl hc ?_
        refine evh (fun w' hw => rn_load rfl rfl (run_loadVarA T31 rfl (hw.2.at_ (i := 9) rfl))) ?_
        refine vch_qt e38 rfl e36 rfl rfl rfl ?_
        refine evh (fun w' hw => rn_load rfl rfl (run_loadVarA T31 rfl (hw.2.at_ (i := 10) rfl))) ?_
        refine vch_lt e39 rfl e36 rfl rfl rfl ?_
        obtain ⟨x_1aj, q_1ak, q_19k⟩ := bind_some q_19k
        replace r_sd := r_sd.step ha
        replace r_se := r_se.step ha
        replace r_19f := r_19f.step ha
        replace r_19g := r_19g.step ha
        refine ev_call rfl rfl C16 (((base_Rational_ok n) _ _  (Rational.mk (Int_2.mk x_18z x_190) (Int_2.mk x_191 x_192)) v_198 r_19f v_199 r_19g (Rational.mk (Int_2.mk x_ot x_rk) (Int_2.mk x_ov x_rl)) v_s0 r_sd v_s1 r_se hp.imm _ q_1ak).mono ?_)
        rintro _ w_1al ⟨rfl, hc⟩
        have hs := hp.stp hc
        replace hp := hp.ext hc
        replace hz := hz.trans hs
        replace ha := ha.trans hs
        refine nxT hz (hp.ks [5, 1, 6, 2, 7, 8, 9, 0, 10, 11, 3, 12, 4] rfl) ?_
        have hz := Stp.refl I_1ab w_1al
        refine vch_q e40 rfl ?_
        refine vch_q e41 rfl ?_
        rcases Bool.eq_false_or_eq_true x_1aj with hc | hc
        ·
         have q_19k := cond_t q_19k hc
         refine vch_qt e42 rfl e41 rfl rfl hc ?_
         refine evh (fun w' hw => rn_load rfl rfl (run_loadVarA T31 rfl (hw.2.at_ (i := 11) rfl))) ?_
         refine vch_qt e43 rfl e41 rfl rfl rfl ?_
         refine evh (fun w' hw => rn_load rfl rfl (run_loadVarA T31 rfl (hw.2.at_ (i := 12) rfl))) ?_
         refine vch_lt e44 rfl e41 rfl rfl rfl ?_
         obtain ⟨x_1am, q_1an, q_19k⟩ := bind_some q_19k
         replace r_sf := r_sf.step ha
         replace r_sg := r_sg.step ha
         replace r_19h := r_19h.step ha
         replace r_19i := r_19i.step ha
         refine ev_call rfl rfl C16 (((base_Rational_ok n) _ _  (Rational.mk (Int_2.mk x_193 x_194) (Int_2.mk x_195 x_196)) v_19b r_19h v_19c r_19i (Rational.mk (Int_2.mk x_ox x_rm) (Int_2.mk x_oz x_rn)) v_s2 r_sf v_s3 r_sg hp.imm _ q_1an).mono ?_)
         rintro _ w_1ao ⟨rfl, hc⟩
         have hs := hp.stp hc
         replace hp := hp.ext hc
         replace hz := hz.trans hs
         replace tb := tb.step ha
         replace ha := hs
         refine nxT hz (hp.ks [5, 1, 6, 2, 7, 8, 9, 0, 10, 11, 3, 12, 4] rfl) ?_
         have hz := Stp.refl I_1ab w_1ao
         refine vch_q e45 rfl ?_
         refine vch_q e46 rfl ?_
         refine vch_end ?_
         obtain rfl := Option.some.inj q_19k
         have hp := hp.sel [] (by decide)
         replace tb := tb.step ha
         exact ⟨(x_1am, I_1ab), (.c rfl .n), rfl, hp, tb⟩
        have q_19k := cond_f q_19k hc
        refine vch_qf e42 rfl e41 rfl rfl hc ?_
        refine vch_qf e43 rfl e41 rfl rfl rfl ?_
        refine vch_lf e44 rfl e41 rfl rfl rfl ?_
        refine nxT hz (hp.ks [5, 1, 6, 2, 7, 8, 9, 0, 10, 11, 3, 12, 4] rfl) ?_
        have hz := Stp.refl I_1ab w_1al
        refine vch_q e45 rfl ?_
        refine vch_q e46 rfl ?_
        refine vch_end ?_
        obtain rfl := Option.some.inj q_19k
        have hp := hp.sel [] (by decide)
        replace tb := tb.step ha
        exact ⟨(false, I_1ab), (.c rfl .n), rfl, hp, tb⟩
       have q_19k := cond_f q_19k hc
       refine vch_qf e37 rfl e36 rfl rfl hc ?_
       refine vch_qf e38 rfl e36 rfl rfl rfl ?_
       refine vch_lf e39 rfl e36 rfl rfl rfl ?_
       refine nxT hz (hp.ks [5, 1, 6, 2, 7, 8, 9, 0, 10, 11, 3, 12, 4] rfl) ?_
       have hz := Stp.refl I_1ab w_1ai
       refine vch_q e40 rfl ?_
       refine vch_q e41 rfl ?_
       refine vch_qf e42 rfl e41 rfl rfl rfl ?_
       refine vch_qf e43 rfl e41 rfl rfl rfl ?_
       refine vch_lf e44 rfl e41 rfl rfl rfl ?_
       refine nxT hz (hp.ks [5, 1, 6, 2, 7, 8, 9, 0, 10, 11, 3, 12, 4] rfl) ?_
       have hz := Stp.refl I_1ab w_1ai
       refine vch_q e45 rfl ?_
       refine vch_q e46 rfl ?_
       refine vch_end ?_
       obtain rfl := Option.some.inj q_19k
       have hp := hp.sel [] (by decide)
       replace tb := tb.step ha
       exact ⟨(false, I_1ab), (.c rfl .n), rfl, hp, tb⟩
      have q_19k := cond_f q_19k hc
      refine vch_qf e28 rfl e27 rfl rfl hc ?_
      refine vch_qf e29 rfl e27 rfl rfl rfl ?_
      refine vch_qf e30 rfl e27 rfl rfl rfl ?_
      refine vch_qf e31 rfl e27 rfl rfl rfl ?_
      refine vch_qf e32 rfl e27 rfl rfl rfl ?_
      refine vch_lf e33 rfl e27 rfl rfl rfl ?_
      refine nxT hz (hp.ks [5, 1, 6, 2, 7, 8, 9, 0, 10, 11, 3, 12, 4] rfl) ?_
      have hz := Stp.refl I_1a0 w_1a7
      refine vch_lf e34 rfl e27 rfl rfl rfl ?_
      refine nxT hz (hp.ks [5, 1, 6, 2, 7, 8, 9, 0, 10, 11, 3, 12, 4] rfl) ?_
      have hz := Stp.refl I_1a0 w_1a7
      refine vch_q e35 rfl ?_
      refine vch_q e36 rfl ?_
      refine vch_qf e37 rfl e36 rfl rfl rfl ?_
      refine vch_qf e38 rfl e36 rfl rfl rfl ?_
      refine vch_lf e39 rfl e36 rfl rfl rfl ?_
      refine nxT hz (hp.ks [5, 1, 6, 2, 7, 8, 9, 0, 10, 11, 3, 12, 4] rfl) ?_
      have hz := Stp.refl I_1a0 w_1a7
      refine vch_q e40 rfl ?_
      refine vch_q e41 rfl ?_
      refine vch_qf e42 rfl e41 rfl rfl rfl ?_
      refine vch_qf e43 rfl e41 rfl rfl rfl ?_
      refine vch_lf e44 rfl e41 rfl rfl rfl ?_
      refine nxT hz (hp.ks [5, 1, 6, 2, 7, 8, 9, 0, 10, 11, 3, 12, 4] rfl) ?_
      have hz := Stp.refl I_1a0 w_1a7
      refine vch_q e45 rfl ?_
      refine vch_q e46 rfl ?_
      refine vch_end ?_
      obtain rfl := Option.some.inj q_19k
      have hp := hp.sel [] (by decide)
      replace tb := tb.step ha
      exact ⟨(false, I_1a0), (.c rfl .n), rfl, hp, tb⟩
     have q_19k := cond_f q_19k hc
     refine vch_qf e19 rfl e18 rfl rfl hc ?_
     refine vch_qf e20 rfl e18 rfl rfl rfl ?_
     refine vch_qf e21 rfl e18 rfl rfl rfl ?_
     refine vch_qf e22 rfl e18 rfl rfl rfl ?_
     refine vch_qf e23 rfl e18 rfl rfl rfl ?_
     refine vch_lf e24 rfl e18 rfl rfl rfl ?_
     refine nxT hz (hp.ks [5, 1, 6, 2, 7, 8, 9, 0, 10, 11, 3, 12, 4] rfl) ?_
     have hz := Stp.refl I_19d w_19w
     refine vch_lf e25 rfl e18 rfl rfl rfl ?_
     refine nxT hz (hp.ks [5, 1, 6, 2, 7, 8, 9, 0, 10, 11, 3, 12, 4] rfl) ?_
     have hz := Stp.refl I_19d w_19w
     refine vch_q e26 rfl ?_
     refine vch_q e27 rfl ?_
     refine vch_qf e28 rfl e27 rfl rfl rfl ?_
     refine vch_qf e29 rfl e27 rfl rfl rfl ?_
     refine vch_qf e30 rfl e27 rfl rfl rfl ?_
     refine vch_qf e31 rfl e27 rfl rfl rfl ?_
     refine vch_qf e32 rfl e27 rfl rfl rfl ?_
     refine vch_lf e33 rfl e27 rfl rfl rfl ?_
     refine nxT hz (hp.ks [5, 1, 6, 2, 7, 8, 9, 0, 10, 11, 3, 12, 4] rfl) ?_
     have hz := Stp.refl I_19d w_19w
     refine vch_lf e34 rfl e27 rfl rfl rfl ?_
     refine nxT hz (hp.ks [5, 1, 6, 2, 7, 8, 9, 0, 10, 11, 3, 12, 4] rfl) ?_
     have hz := Stp.refl I_19d w_19w
     refine vch_q e35 rfl ?_
     refine vch_q e36 rfl ?_
     refine vch_qf e37 rfl e36 rfl rfl rfl ?_
     refine vch_qf e38 rfl e36 rfl rfl rfl ?_
     refine vch_lf e39 rfl e36 rfl rfl rfl ?_
     refine nxT hz (hp.ks [5, 1, 6, 2, 7, 8, 9, 0, 10, 11, 3, 12, 4] rfl) ?_
     have hz := Stp.refl I_19d w_19w
     refine vch_q e40 rfl ?_
     refine vch_q e41 rfl ?_
     refine vch_qf e42 rfl e41 rfl rfl rfl ?_
     refine vch_qf e43 rfl e41 rfl rfl rfl ?_
     refine vch_lf e44 rfl e41 rfl rfl rfl ?_
     refine nxT hz (hp.ks [5, 1, 6, 2, 7, 8, 9, 0, 10, 11, 3, 12, 4] rfl) ?_
     have hz := Stp.refl I_19d w_19w
     refine vch_q e45 rfl ?_
     refine vch_q e46 rfl ?_
     refine vch_end ?_
     obtain rfl := Option.some.inj q_19k
     have hp := hp.sel [] (by decide)
     replace tb := tb.step ha
     exact ⟨(false, I_19d), (.c rfl .n), rfl, hp, tb⟩
    have q_19k := cond_f q_19k hc
    refine vch_qf e14 rfl e13 rfl rfl hc ?_
    refine vch_qf e15 rfl e13 rfl rfl rfl ?_
    refine vch_lf e16 rfl e13 rfl rfl rfl ?_
    refine nxT hz (hp.ks [5, 1, 6, 2, 7, 8, 9, 0, 10, 11, 3, 12, 4] rfl) ?_
    have hz := Stp.refl I_19d w_19t
    refine vch_q e17 rfl ?_
    refine vch_q e18 rfl ?_
    refine vch_qf e19 rfl e18 rfl rfl rfl ?_
    refine vch_qf e20 rfl e18 rfl rfl rfl ?_
    refine vch_qf e21 rfl e18 rfl rfl rfl ?_
    refine vch_qf e22 rfl e18 rfl rfl rfl ?_
    refine vch_qf e23 rfl e18 rfl rfl rfl ?_
    refine vch_lf e24 rfl e18 rfl rfl rfl ?_
    refine nxT hz (hp.ks [5, 1, 6, 2, 7, 8, 9, 0, 10, 11, 3, 12, 4] rfl) ?_
    have hz := Stp.refl I_19d w_19t
    refine vch_lf e25 rfl e18 rfl rfl rfl ?_
    refine nxT hz (hp.ks [5, 1, 6, 2, 7, 8, 9, 0, 10, 11, 3, 12, 4] rfl) ?_
    have hz := Stp.refl I_19d w_19t
    refine vch_q e26 rfl ?_
    refine vch_q e27 rfl ?_
    refine vch_qf e28 rfl e27 rfl rfl rfl ?_
    refine vch_qf e29 rfl e27 rfl rfl rfl ?_
    refine vch_qf e30 rfl e27 rfl rfl rfl ?_
    refine vch_qf e31 rfl e27 rfl rfl rfl ?_
    refine vch_qf e32 rfl e27 rfl rfl rfl ?_
    refine vch_lf e33 rfl e27 rfl rfl rfl ?_
    refine nxT hz (hp.ks [5, 1, 6, 2, 7, 8, 9, 0, 10, 11, 3, 12, 4] rfl) ?_
    have hz := Stp.refl I_19d w_19t
    refine vch_lf e34 rfl e27 rfl rfl rfl ?_
    refine nxT hz (hp.ks [5, 1, 6, 2, 7, 8, 9, 0, 10, 11, 3, 12, 4] rfl) ?_
    have hz := Stp.refl I_19d w_19t
    refine vch_q e35 rfl ?_
    refine vch_q e36 rfl ?_
    refine vch_qf e37 rfl e36 rfl rfl rfl ?_
    refine vch_qf e38 rfl e36 rfl rfl rfl ?_
    refine vch_lf e39 rfl e36 rfl rfl rfl ?_
    refine nxT hz (hp.ks [5, 1, 6, 2, 7, 8, 9, 0, 10, 11, 3, 12, 4] rfl) ?_
    have hz := Stp.refl I_19d w_19t
    refine vch_q e40 rfl ?_
    refine vch_q e41 rfl ?_
    refine vch_qf e42 rfl e41 rfl rfl rfl ?_
    refine vch_qf e43 rfl e41 rfl rfl rfl ?_
    refine vch_lf e44 rfl e41 rfl rfl rfl ?_
    refine nxT hz (hp.ks [5, 1, 6, 2, 7, 8, 9, 0, 10, 11, 3, 12, 4] rfl) ?_
    have hz := Stp.refl I_19d w_19t
    refine vch_q e45 rfl ?_
    refine vch_q e46 rfl ?_
    refine vch_end ?_
    obtain rfl := Option.some.inj q_19k
    have hp := hp.sel [] (by decide)
    replace tb := tb.step ha
    exact ⟨(false, I_19d), (.c rfl .n), rfl, hp, tb⟩
   have q_19k := cond_f q_19k hc
   refine vch_qf e9 rfl e8 rfl rfl hc ?_
   refine vch_qf e10 rfl e8 rfl rfl rfl ?_
   refine vch_lf e11 rfl e8 rfl rfl rfl ?_
   refine nxT hz (hp.ks [5, 1, 6, 2, 7, 8, 9, 0, 10, 11, 3, 12, 4] rfl) ?_
   have hz := Stp.refl I_19d w_19q
   refine vch_q e12 rfl ?_
   refine vch_q e13 rfl ?_
   refine vch_qf e14 rfl e13 rfl rfl rfl ?_
   refine vch_qf e15 rfl e13 rfl rfl rfl ?_
   refine vch_lf e16 rfl e13 rfl rfl rfl ?_
   refine nxT hz (hp.ks [5, 1, 6, 2, 7, 8, 9, 0, 10, 11, 3, 12, 4] rfl) ?_
   have hz := Stp.refl I_19d w_19q
   refine vch_q e17 rfl ?_
   refine vch_q e18 rfl ?_
   refine vch_qf e19 rfl e18 rfl rfl rfl ?_
   refine vch_qf e20 rfl e18 rfl rfl rfl ?_
   refine vch_qf e21 rfl e18 rfl rfl rfl ?_
   refine vch_qf e22 rfl e18 rfl rfl rfl ?_
   refine vch_qf e23 rfl e18 rfl rfl rfl ?_
   refine vch_lf e24 rfl e18 rfl rfl rfl ?_
   refine nxT hz (hp.ks [5, 1, 6, 2, 7, 8, 9, 0, 10, 11, 3, 12, 4] rfl) ?_
   have hz := Stp.refl I_19d w_19q
   refine vch_lf e25 rfl e18 rfl rfl rfl ?_
   refine nxT hz (hp.ks [5, 1, 6, 2, 7, 8, 9, 0, 10, 11, 3, 12, 4] rfl) ?_
   have hz := Stp.refl I_19d w_19q
   refine vch_q e26 rfl ?_
   refine vch_q e27 rfl ?_
   refine vch_qf e28 rfl e27 rfl rfl rfl ?_
   refine vch_qf e29 rfl e27 rfl rfl rfl ?_
   refine vch_qf e30 rfl e27 rfl rfl rfl ?_
   refine vch_qf e31 rfl e27 rfl rfl rfl ?_
   refine vch_qf e32 rfl e27 rfl rfl rfl ?_
   refine vch_lf e33 rfl e27 rfl rfl rfl ?_
   refine nxT hz (hp.ks [5, 1, 6, 2, 7, 8, 9, 0, 10, 11, 3, 12, 4] rfl) ?_
   have hz := Stp.refl I_19d w_19q
   refine vch_lf e34 rfl e27 rfl rfl rfl ?_
   refine nxT hz (hp.ks [5, 1, 6, 2, 7, 8, 9, 0, 10, 11, 3, 12, 4] rfl) ?_
   have hz := Stp.refl I_19d w_19q
   refine vch_q e35 rfl ?_
   refine vch_q e36 rfl ?_
   refine vch_qf e37 rfl e36 rfl rfl rfl ?_
   refine vch_qf e38 rfl e36 rfl rfl rfl ?_
   refine vch_lf e39 rfl e36 rfl rfl rfl ?_
   refine nxT hz (hp.ks [5, 1, 6, 2, 7, 8, 9, 0, 10, 11, 3, 12, 4] rfl) ?_
   have hz := Stp.refl I_19d w_19q
   refine vch_q e40 rfl ?_
   refine vch_q e41 rfl ?_
   refine vch_qf e42 rfl e41 rfl rfl rfl ?_
   refine vch_qf e43 rfl e41 rfl rfl rfl ?_
   refine vch_lf e44 rfl e41 rfl rfl rfl ?_
   refine nxT hz (hp.ks [5, 1, 6, 2, 7, 8, 9, 0, 10, 11, 3, 12, 4] rfl) ?_
   have hz := Stp.refl I_19d w_19q
   refine vch_q e45 rfl ?_
   refine vch_q e46 rfl ?_
   refine vch_end ?_
   obtain rfl := Option.some.inj q_19k
   have hp := hp.sel [] (by decide)
   replace tb := tb.step ha
   exact ⟨(false, I_19d), (.c rfl .n), rfl, hp, tb⟩
  have q_19k := cond_f q_19k hc
  refine vch_qf e4 rfl e3 rfl rfl hc ?_
  refine vch_qf e5 rfl e3 rfl rfl rfl ?_
  refine vch_lf e6 rfl e3 rfl rfl rfl ?_
  refine nxT hz (hp.ks [5, 1, 6, 2, 7, 8, 9, 0, 10, 11, 3, 12, 4] rfl) ?_
  have hz := Stp.refl I_19d w_19n
  refine vch_q e7 rfl ?_
  refine vch_q e8 rfl ?_
  refine vch_qf e9 rfl e8 rfl rfl rfl ?_
  refine vch_qf e10 rfl e8 rfl rfl rfl ?_
  refine vch_lf e11 rfl e8 rfl rfl rfl ?_
  refine nxT hz (hp.ks [5, 1, 6, 2, 7, 8, 9, 0, 10, 11, 3, 12, 4] rfl) ?_
  have hz := Stp.refl I_19d w_19n
  refine vch_q e12 rfl ?_
  refine vch_q e13 rfl ?_
  refine vch_qf e14 rfl e13 rfl rfl rfl ?_
  refine vch_qf e15 rfl e13 rfl rfl rfl ?_
  refine vch_lf e16 rfl e13 rfl rfl rfl ?_
  refine nxT hz (hp.ks [5, 1, 6, 2, 7, 8, 9, 0, 10, 11, 3, 12, 4] rfl) ?_
  have hz := Stp.refl I_19d w_19n
  refine vch_q e17 rfl ?_
  refine vch_q e18 rfl ?_
  refine vch_qf e19 rfl e18 rfl rfl rfl ?_
  refine vch_qf e20 rfl e18 rfl rfl rfl ?_
  refine vch_qf e21 rfl e18 rfl rfl rfl ?_
  refine vch_qf e22 rfl e18 rfl rfl rfl ?_
  refine vch_qf e23 rfl e18 rfl rfl rfl ?_
  refine vch_lf e24 rfl e18 rfl rfl rfl ?_
  refine nxT hz (hp.ks [5, 1, 6, 2, 7, 8, 9, 0, 10, 11, 3, 12, 4] rfl) ?_
  have hz := Stp.refl I_19d w_19n
  refine vch_lf e25 rfl e18 rfl rfl rfl ?_
  refine nxT hz (hp.ks [5, 1, 6, 2, 7, 8, 9, 0, 10, 11, 3, 12, 4] rfl) ?_
  have hz := Stp.refl I_19d w_19n
  refine vch_q e26 rfl ?_
  refine vch_q e27 rfl ?_
  refine vch_qf e28 rfl e27 rfl rfl rfl ?_
  refine vch_qf e29 rfl e27 rfl rfl rfl ?_
  refine vch_qf e30 rfl e27 rfl rfl rfl ?_
  refine vch_qf e31 rfl e27 rfl rfl rfl ?_
  refine vch_qf e32 rfl e27 rfl rfl rfl ?_
  refine vch_lf e33 rfl e27 rfl rfl rfl ?_
  refine nxT hz (hp.ks [5, 1, 6, 2, 7, 8, 9, 0, 10, 11, 3, 12, 4] rfl) ?_
  have hz := Stp.refl I_19d w_19n
  refine vch_lf e34 rfl e27 rfl rfl rfl ?_
  refine nxT hz (hp.ks [5, 1, 6, 2, 7, 8, 9, 0, 10, 11, 3, 12, 4] rfl) ?_
  have hz := Stp.refl I_19d w_19n
  refine vch_q e35 rfl ?_
  refine vch_q e36 rfl ?_
  refine vch_qf e37 rfl e36 rfl rfl rfl ?_
  refine vch_qf e38 rfl e36 rfl rfl rfl ?_
  refine vch_lf e39 rfl e36 rfl rfl rfl ?_
  refine nxT hz (hp.ks [5, 1, 6, 2, 7, 8, 9, 0, 10, 11, 3, 12, 4] rfl) ?_
  have hz := Stp.refl I_19d w_19n
  refine vch_q e40 rfl ?_
  refine vch_q e41 rfl ?_
  refine vch_qf e42 rfl e41 rfl rfl rfl ?_
  refine vch_qf e43 rfl e41 rfl rfl rfl ?_
  refine vch_lf e44 rfl e41 rfl rfl rfl ?_
  refine nxT hz (hp.ks [5, 1, 6, 2, 7, 8, 9, 0, 10, 11, 3, 12, 4] rfl) ?_
  have hz := Stp.refl I_19d w_19n
  refine vch_q e45 rfl ?_
  refine vch_q e46 rfl ?_
  refine vch_end ?_
  obtain rfl := Option.some.inj q_19k
  have hp := hp.sel [] (by decide)
  replace tb := tb.step ha
  exact ⟨(false, I_19d), (.c rfl .n), rfl, hp, tb⟩
 rintro ⟨x_1ap, I_1aq⟩ w_1ar ⟨hy, hp, tb⟩
 replace hy := hy.symm
 subst hy
 apply go
 obtain rfl := Option.some.inj h
 exact ⟨rfl, hp.ch⟩
end Go.Proofs.YtcdboppghnchpaaDoor
