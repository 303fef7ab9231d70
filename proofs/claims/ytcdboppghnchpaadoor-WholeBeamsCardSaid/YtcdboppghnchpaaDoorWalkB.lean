/-
  Each function of the program computes the plain function of its name.
-/
import Derived.Test.YtcdboppghnchpaaDoorFactsA
import Derived.Test.YtcdboppghnchpaaDoorWalkA
import Derived.Test.YtcdboppghnchpaaDoorCoreA
import Derived.Lib.Walk
import Derived.BigCall
import Derived.BigGuard
namespace Go.Proofs.YtcdboppghnchpaaDoor
open Go Go.Proofs.YtcdboppghnchpaaDoor.Gw Go.RowKit
set_option linter.unusedVariables false
attribute [local irreducible] Ev EvQ EvS EvH
def integer_times_S (f : (List Int) → (List Int) → Option (List Int)) : Prop := ∀ (w0 : World) (I0 : Nat → Prop) (x_0 : (List Int)) (v_1 : Value) (r_2 : RepS (dI .u32) w0 I0 v_1 x_0) (x_3 : (List Int)) (v_4 : Value) (r_5 : RepS (dI .u32) w0 I0 v_4 x_3) (hI : ∀ g, I0 g → g < w0.heap.size) (r : (List Int)), f x_0 x_3 = some r →
    Ret Tryd.prog 71 #[v_1, v_4] w0 fun v w1 => ∃ (I1 : Nat → Prop) (u_6 : Value), v = u_6 ∧ Hp ⟨w0, I0, []⟩ I1 [] w1 ∧ RepS (dI .u32) w1 I1 u_6 r
theorem integer_times_ok (n : Nat) : integer_times_S (integer_times n) := by
  intro w0 I0 x_0 v_1 r_2 x_3 v_4 r_5 hI r h
  unfold integer_times at h
  refine enter Tryd.func71 rfl (Nat.le_of_ble_eq_true rfl) ?_
  have hp : Hp ⟨w0, I0, []⟩ I0 [] w0 := Hp.start hI
  apply go
  apply go
  apply go
  apply go
  refine ev0 (rn_len rfl rfl Tryd.underlying27 r_2) ?_
  refine ev0 (rn_len rfl rfl Tryd.underlying27 r_5) ?_
  obtain ⟨x_6, q_7, h⟩ := bind_some h
  refine ev_make (d := (dI .u32)) (x0 := 0) hp rfl rfl rfl Tryd.underlying27 T131 (fun _ _ => rfl) (Nat.le_of_ble_eq_true rfl) q_7 ?_
  intro v_8 e_9 w_a hp hs o_b
  replace r_2 := r_2.step hs
  replace r_5 := r_5.step hs
  obtain ⟨y_c, q_d, h⟩ := bind_some h
  refine W.cut (γ := ((List Int) × Ent)) (fun g => [(5, v_8)]) (fun g w' => y_c = (g.1) ∧ Hp ⟨w0, I0, []⟩ I0 [(g.2)] w' ∧ OwnS (dI .u32) 131 w' I0 v_8 (g.2) (g.1)) ?_ ?_
  ·
    apply go
    apply go
    refine ev0 (rn_len rfl rfl Tryd.underlying27 r_2) ?_
    apply go
    refine W.loop q_d (γ := Ent) (fun s g => [(1, v_4), (5, v_8), (18, v_1), (19, (.int .i64 (x_0.length : Int))), (20, (.int .i64 (s.2)))]) (fun s g w' => Hp ⟨w0, I0, []⟩ I0 [(g)] w' ∧ RepS (dI .u32) w' I0 v_4 x_3 ∧ OwnS (dI .u32) 131 w' I0 v_8 (g) (s.1) ∧ RepS (dI .u32) w' I0 v_1 x_0) e_9 (.c rfl (.c rfl (.c rfl (.c rfl (.c rfl .n))))) ⟨hp, r_5, o_b, r_2⟩ ?_
    rintro ⟨x_e, x_f⟩ e_g w_h y_i ⟨hp, r_5, o_j, r_2⟩ q_k q_l
    unfold integer_times_L21 at q_k
    apply go
    apply go
    apply go
    apply go
    refine sel_of (fun hc => ?_) (fun hc => ?_)
    ·
      have q_k := cond_t q_k hc
      apply go
      obtain ⟨y_m, q_n, q_k⟩ := bind_some q_k
      refine W.cut (γ := ((List Int) × Ent)) (fun g => [(1, v_4), (5, v_8), (18, v_1), (19, (.int .i64 (x_0.length : Int))), (20, (.int .i64 x_f))]) (fun g w' => y_m = (g.1) ∧ Hp ⟨w0, I0, []⟩ I0 [(g.2)] w' ∧ RepS (dI .u32) w' I0 v_4 x_3 ∧ OwnS (dI .u32) 131 w' I0 v_8 (g.2) (g.1) ∧ RepS (dI .u32) w' I0 v_1 x_0) ?_ ?_
      ·
        apply go
        apply go
        apply go
        obtain ⟨x_o, q_p, q_n⟩ := bind_some q_n
        refine ev_index rfl rfl rfl Tryd.underlying27 T131 r_2 q_p ?_
        intro p_q c_r d_s a_t
        obtain rfl : c_r = [(.int .u32 x_o)] := d_s
        refine ev (rn_load rfl rfl (run_loadVar1 T131 (a_t.2 0 _ rfl))) ?_
        apply go
        apply go
        obtain ⟨y_u, q_v, q_n⟩ := bind_some q_n
        refine W.cut (γ := ((List Int) × Int × Ent)) (fun g => [(1, v_4), (5, v_8), (6, (.int .i64 x_f)), (8, (.int .u64 (g.2.1))), (18, v_1), (19, (.int .i64 (x_0.length : Int))), (20, (.int .i64 x_f))]) (fun g w' => y_u = ((g.1), (g.2.1)) ∧ Hp ⟨w0, I0, []⟩ I0 [(g.2.2)] w' ∧ RepS (dI .u32) w' I0 v_4 x_3 ∧ OwnS (dI .u32) 131 w' I0 v_8 (g.2.2) (g.1) ∧ RepS (dI .u32) w' I0 v_1 x_0) ?_ ?_
        ·
          apply go
          apply go
          refine ev0 (rn_len rfl rfl Tryd.underlying27 r_5) ?_
          apply go
          refine W.loop q_v (γ := Ent) (fun s g => [(1, v_4), (5, v_8), (6, (.int .i64 x_f)), (7, (.int .u32 x_o)), (8, (.int .u64 (s.2.1))), (18, v_1), (19, (.int .i64 (x_0.length : Int))), (20, (.int .i64 x_f)), (25, v_4), (26, (.int .i64 (x_3.length : Int))), (27, (.int .i64 (s.2.2)))]) (fun s g w' => Hp ⟨w0, I0, []⟩ I0 [(g)] w' ∧ RepS (dI .u32) w' I0 v_4 x_3 ∧ OwnS (dI .u32) 131 w' I0 v_8 (g) (s.1) ∧ RepS (dI .u32) w' I0 v_1 x_0) e_g (.c rfl (.c rfl (.c rfl (.c rfl (.c rfl (.c rfl (.c rfl (.c rfl (.c rfl (.c rfl (.c rfl .n))))))))))) ⟨hp, r_5, o_j, r_2⟩ ?_
          rintro ⟨x_w, x_x, x_y⟩ e_z w_10 y_11 ⟨hp, r_5, o_12, r_2⟩ q_13 q_14
          unfold integer_times_L25 at q_13
          apply go
          apply go
          apply go
          apply go
          refine sel_of (fun hc => ?_) (fun hc => ?_)
          ·
            have q_13 := cond_t q_13 hc
            apply go
            apply go
            apply go
            apply go
            apply go
            obtain ⟨x_15, q_16, q_13⟩ := bind_some q_13
            refine ev_index rfl rfl rfl Tryd.underlying27 T131 r_5 q_16 ?_
            intro p_17 c_18 d_19 a_1a
            obtain rfl : c_18 = [(.int .u32 x_15)] := d_19
            refine ev (rn_load rfl rfl (run_loadVar1 T131 (a_1a.2 0 _ rfl))) ?_
            apply go
            apply go
            refine ev0 (rn_conv rfl rfl U131 Tryd.underlying129) ?_
            refine ev0 (rn_conv rfl rfl U131 Tryd.underlying129) ?_
            obtain ⟨x_1b, q_1c, q_13⟩ := bind_some q_13
            refine ev_indexO rfl rfl rfl Tryd.underlying27 T131 o_12 q_1c ?_
            intro g_1d c_1e h_1f d_1g l_1h
            refine ev (rn_load rfl rfl (run_loadVar1 T131 (hp.cellE (i := 0) rfl h_1f d_1g (j := 0) rfl))) ?_
            refine ev0 (rn_conv rfl rfl U131 Tryd.underlying129) ?_
            apply go
            apply go
            refine ev0 (rn_conv rfl rfl U129 Tryd.underlying131) ?_
            obtain ⟨x_1i, q_1j, q_13⟩ := bind_some q_13
            refine ev_indexO rfl rfl rfl Tryd.underlying27 T131 o_12 q_1j ?_
            intro g_1k c_1l h_1m d_1n l_1o
            refine ev_storeE hp (i := 0) rfl h_1m rfl rfl rfl T131 o_12 q_1j (x0 := (IntKind.u32.wrap (IntKind.u64.wrap ((IntKind.u64.wrap ((IntKind.u64.wrap ((IntKind.u64.wrap x_o) * (IntKind.u64.wrap x_15))) + (IntKind.u64.wrap x_1b))) + x_x)))) rfl ?_
            intro e_1p w_1q hp hs o_1r
            replace r_5 := r_5.step hs
            replace r_2 := r_2.step hs
            apply go
            refine ⟨by decide, ?_⟩
            apply go
            exact ⟨_, (Option.some.inj q_13).symm, e_1p, (.c rfl (.c rfl (.c rfl (.c rfl (.c rfl (.c rfl (.c rfl (.c rfl (.c rfl (.c rfl (.c rfl .n))))))))))), ⟨hp, r_5, o_1r, r_2⟩⟩
          ·
            have q_13 := cond_f q_13 hc
            apply go
            have q_1s := congrArg some (q_14 _ (Option.some.inj q_13).symm)
            obtain rfl := Option.some.inj q_1s
            exact ⟨(x_w, x_x, e_z), (.c rfl (.c rfl (.c rfl (.c rfl (.c rfl (.c rfl (.c rfl .n))))))), rfl, hp, r_5, o_12, r_2⟩
        ·
          rintro ⟨x_1t, x_1u, e_1v⟩ w_1w ⟨hy, hp, r_5, o_1x, r_2⟩
          replace hy := hy.symm
          subst hy
          apply go
          refine ev0 (rn_len rfl rfl Tryd.underlying27 r_5) ?_
          refine ev0 (rn_conv rfl rfl U129 Tryd.underlying131) ?_
          obtain ⟨x_1y, q_1z, q_n⟩ := bind_some q_n
          refine ev_indexO rfl rfl rfl Tryd.underlying27 T131 o_1x q_1z ?_
          intro g_20 c_21 h_22 d_23 l_24
          refine ev_storeE hp (i := 0) rfl h_22 rfl rfl rfl T131 o_1x q_1z (x0 := (IntKind.u32.wrap x_1u)) rfl ?_
          intro e_25 w_26 hp hs o_27
          replace r_5 := r_5.step hs
          replace r_2 := r_2.step hs
          obtain rfl := Option.some.inj q_n
          exact ⟨((upd x_1t (IntKind.i64.wrap (x_f + (x_3.length : Int))) (IntKind.u32.wrap x_1u)), e_25), (.c rfl (.c rfl (.c rfl (.c rfl (.c rfl .n))))), rfl, hp, r_5, o_27, r_2⟩
      ·
        rintro ⟨x_28, e_29⟩ w_2a ⟨hy, hp, r_5, o_2b, r_2⟩
        replace hy := hy.symm
        subst hy
        apply go
        exact ⟨_, (Option.some.inj q_k).symm, e_29, (.c rfl (.c rfl (.c rfl (.c rfl (.c rfl .n))))), ⟨hp, r_5, o_2b, r_2⟩⟩
    ·
      have q_k := cond_f q_k hc
      apply go
      have q_2c := congrArg some (q_l _ (Option.some.inj q_k).symm)
      obtain rfl := Option.some.inj q_2c
      exact ⟨(x_e, e_g), (.c rfl .n), rfl, hp, o_j⟩
  ·
    rintro ⟨x_2d, e_2e⟩ w_2f ⟨hy, hp, o_2g⟩
    replace hy := hy.symm
    subst hy
    apply go
    apply go
    apply go
    obtain rfl := Option.some.inj h
    have r_2h := o_2g.frz hp (i := 0) rfl
    obtain ⟨hp, hs⟩ := freeze_hp hp (i := 0) rfl
    have hp := hp.sel [] (by decide)
    exact ⟨(Ad I0 e_2e), v_8, rfl, hp, r_2h⟩

end Go.Proofs.YtcdboppghnchpaaDoor

namespace Go.Proofs.YtcdboppghnchpaaDoor
open Go Go.Proofs.YtcdboppghnchpaaDoor.Gw Go.RowKit
set_option linter.unusedVariables false
attribute [local irreducible] Ev EvQ EvS EvH
def integer_Mul_S (f : Int_2 → Int_2 → Option Int_2) : Prop := ∀ (w0 : World) (I0 : Nat → Prop) (x_0 : Int_2) (v_1 : Value) (r_2 : RepS (dI .u32) w0 I0 v_1 x_0.Mag) (x_3 : Int_2) (v_4 : Value) (r_5 : RepS (dI .u32) w0 I0 v_4 x_3.Mag) (hI : ∀ g, I0 g → g < w0.heap.size) (r : Int_2), f x_0 x_3 = some r →
    Ret Tryd.prog 34 #[(.agg #[(.bool x_0.Neg), v_1]), (.agg #[(.bool x_3.Neg), v_4])] w0 fun v w1 => ∃ (I1 : Nat → Prop) (u_6 : Value), v = (.agg #[(.bool r.Neg), u_6]) ∧ Hp ⟨w0, I0, []⟩ I1 [] w1 ∧ RepS (dI .u32) w1 I1 u_6 r.Mag
theorem integer_Mul_ok (n : Nat) : integer_Mul_S (integer_Mul n) := by
  intro w0 I0 x_0 v_1 r_2 x_3 v_4 r_5 hI r h
  unfold integer_Mul at h
  refine enter Tryd.func34 rfl (Nat.le_of_ble_eq_true rfl) ?_
  have hp : Hp ⟨w0, I0, []⟩ I0 [] w0 := Hp.start hI
  apply go
  apply go
  refine ev_boxI hp rfl rfl ?_
  intro p_6 I_7 w_8 hp hs a_9
  replace r_5 := r_5.step hs
  replace r_2 := r_2.step hs
  refine ev_boxI hp rfl rfl ?_
  intro p_a I_b w_c hp hs a_d
  replace a_9 := a_9.step hs
  replace r_2 := r_2.step hs
  replace r_5 := r_5.step hs
  refine ev_alloc hp rfl T29 ?_
  intro g_e w_f hp hs
  replace a_9 := a_9.step hs
  replace r_2 := r_2.step hs
  replace a_d := a_d.step hs
  replace r_5 := r_5.step hs
  apply go
  have hs := hp.stp (Ch.drew [] w_f)
  have hp := hp.drew
  replace a_9 := a_9.step hs
  replace r_2 := r_2.step hs
  replace a_d := a_d.step hs
  replace r_5 := r_5.step hs
  refine W.held [(0, true), (1, true), (2, true), (3, true), (4, true), (5, true), (6, true), (8, true), (9, true), (7, false), (10, false), (11, false), (12, false), (13, false)] (Stp I_b w_f.drew I_b) MX (by kernel_rfl) (Stp.refl _ _) ?_
  have hz := Stp.refl I_b w_f.drew
  refine evh0 (rn_field rfl rfl FO29_0) ?_
  refine evh (fun w' hw => rn_load rfl rfl (run_loadVar1 T4 ((a_9.step hw).2 0 _ rfl))) ?_
  refine evh0 (rn_field rfl rfl FO29_0) ?_
  refine evh (fun w' hw => rn_load rfl rfl (run_loadVar1 T4 ((a_d.step hw).2 0 _ rfl))) ?_
  refine evh0 (rn_neB rfl rfl rfl Tryd.underlying4) ?_
  refine evh0 (rn_field rfl rfl FO29_1) ?_
  refine evh (fun w' hw => rn_load rfl rfl (run_loadVar1 T27 ((a_9.step hw).2 1 _ rfl))) ?_
  refine evh0 (rn_field rfl rfl FO29_1) ?_
  refine evh (fun w' hw => rn_load rfl rfl (run_loadVar1 T27 ((a_d.step hw).2 1 _ rfl))) ?_
  obtain ⟨x_g, q_h, h⟩ := bind_some h
  refine ev_call rfl rfl C67 (((integer_trim_ok n) _ _  x_0.Mag v_1 r_2 hp.imm _ q_h).mono ?_)
  rintro _ w_i ⟨I_j, v_k, hv, hq, r_l⟩
  replace hv := hv.symm
  subst hv
  have hs := hq.st
  have hp := hp.join0 hq
  replace hz := hz.trans hs
  replace r_5 := r_5.step hs
  refine ⟨Stp I_j w_i I_j, Stp.refl _ _, fun x hx => hz.held hx, ?_⟩
  have hz := Stp.refl I_j w_i
  obtain ⟨x_m, q_n, h⟩ := bind_some h
  refine ev_call rfl rfl C67 (((integer_trim_ok n) _ _  x_3.Mag v_4 r_5 hp.imm _ q_n).mono ?_)
  rintro _ w_o ⟨I_p, v_q, hv, hq, r_r⟩
  replace hv := hv.symm
  subst hv
  have hs := hq.st
  have hp := hp.join0 hq
  replace hz := hz.trans hs
  replace r_l := r_l.step hs
  refine ⟨Stp I_p w_o I_p, Stp.refl _ _, fun x hx => hz.held hx, ?_⟩
  have hz := Stp.refl I_p w_o
  obtain ⟨x_s, q_t, h⟩ := bind_some h
  refine ev_call rfl rfl C71 (((integer_times_ok n) _ _  x_g v_k r_l x_m v_q r_r hp.imm _ q_t).mono ?_)
  rintro _ w_u ⟨I_v, v_w, hv, hq, r_x⟩
  replace hv := hv.symm
  subst hv
  have hs := hq.st
  have hp := hp.join0 hq
  replace hz := hz.trans hs
  refine ⟨Stp I_v w_u I_v, Stp.refl _ _, fun x hx => hz.held hx, ?_⟩
  have hz := Stp.refl I_v w_u
  obtain ⟨x_y, q_z, h⟩ := bind_some h
  refine ev_call rfl rfl C63 (((integer_made_ok n) _ _  (!(x_0.Neg == x_3.Neg)) x_s v_w r_x hp.imm _ q_z).mono ?_)
  rintro _ w_10 ⟨I_11, v_12, hv, hq, r_13⟩
  replace hv := hv.symm
  subst hv
  have hs := hq.st
  have hp := hp.join0 hq
  replace hz := hz.trans hs
  refine ⟨Stp I_11 w_10 I_11, Stp.refl _ _, fun x hx => hz.held hx, ?_⟩
  have hz := Stp.refl I_11 w_10
  refine ev_storeA hp (i := 0) (off := 0) (vs := [(.bool x_y.Neg), v_12]) rfl rfl rfl rfl T29 rfl (Nat.le_of_ble_eq_true rfl) (ones_cons rfl (ones_cons r_13.one ones_nil)) ?_
  intro w_14 hp hs
  replace hz := hz.trans hs
  replace r_13 := r_13.step hs
  refine ⟨Stp I_11 w_14 I_11, Stp.refl _ _, fun x hx => hz.held hx, ?_⟩
  have hz := Stp.refl I_11 w_14
  apply go
  obtain rfl := Option.some.inj h
  refine ⟨_, run_loadVarA T29 rfl (hp.at_ (i := 0) rfl), ?_⟩
  have hp := hp.sel [] (by decide)
  exact ⟨I_11, v_12, rfl, hp, r_13⟩

end Go.Proofs.YtcdboppghnchpaaDoor

namespace Go.Proofs.YtcdboppghnchpaaDoor
open Go Go.Proofs.YtcdboppghnchpaaDoor.Gw Go.RowKit
set_option linter.unusedVariables false
attribute [local irreducible] Ev EvQ EvS EvH
def integer_Sub_S (f : Int_2 → Int_2 → Option Int_2) : Prop := ∀ (w0 : World) (I0 : Nat → Prop) (x_0 : Int_2) (v_1 : Value) (r_2 : RepS (dI .u32) w0 I0 v_1 x_0.Mag) (x_3 : Int_2) (v_4 : Value) (r_5 : RepS (dI .u32) w0 I0 v_4 x_3.Mag) (hI : ∀ g, I0 g → g < w0.heap.size) (r : Int_2), f x_0 x_3 = some r →
    Ret Tryd.prog 93 #[(.agg #[(.bool x_0.Neg), v_1]), (.agg #[(.bool x_3.Neg), v_4])] w0 fun v w1 => ∃ (I1 : Nat → Prop) (u_6 : Value), v = (.agg #[(.bool r.Neg), u_6]) ∧ Hp ⟨w0, I0, []⟩ I1 [] w1 ∧ RepS (dI .u32) w1 I1 u_6 r.Mag
theorem integer_Sub_ok (n : Nat) : integer_Sub_S (integer_Sub n) := by
  intro w0 I0 x_0 v_1 r_2 x_3 v_4 r_5 hI r h
  unfold integer_Sub at h
  refine enter Tryd.func93 rfl (Nat.le_of_ble_eq_true rfl) ?_
  have hp : Hp ⟨w0, I0, []⟩ I0 [] w0 := Hp.start hI
  apply go
  apply go
  refine ev_boxI hp rfl rfl ?_
  intro p_6 I_7 w_8 hp hs a_9
  replace r_5 := r_5.step hs
  replace r_2 := r_2.step hs
  refine ev_boxI hp rfl rfl ?_
  intro p_a I_b w_c hp hs a_d
  replace a_9 := a_9.step hs
  replace r_2 := r_2.step hs
  replace r_5 := r_5.step hs
  refine ev_alloc hp rfl T29 ?_
  intro g_e w_f hp hs
  replace a_9 := a_9.step hs
  replace r_2 := r_2.step hs
  replace a_d := a_d.step hs
  replace r_5 := r_5.step hs
  apply go
  apply go
  refine ev (rn_load rfl rfl (run_loadVarA T29 rfl a_9)) ?_
  refine ev0 (rn_field rfl rfl FO29_0) ?_
  refine ev (rn_load rfl rfl (run_loadVar1 T4 (a_d.2 0 _ rfl))) ?_
  refine ev0 (rn_field rfl rfl FO29_1) ?_
  refine ev (rn_load rfl rfl (run_loadVar1 T27 (a_d.2 1 _ rfl))) ?_
  obtain ⟨A_g, m_h, m_i, rfl⟩ := r_5.isSl
  refine ev0 (fun w => rn_build (cs := [(.bool (!x_3.Neg)), (.slice A_g m_h m_i)]) rfl rfl T29 PL29 rfl) ?_
  obtain ⟨x_j, q_k, h⟩ := bind_some h
  refine ev_call rfl rfl C33 (((integer_Add_ok n) _ _  (Int_2.mk x_0.Neg x_0.Mag) v_1 r_2 (Int_2.mk (!x_3.Neg) x_3.Mag) (.slice A_g m_h m_i) r_5 hp.imm _ q_k).mono ?_)
  rintro _ w_l ⟨I_m, v_n, hv, hq, r_o⟩
  replace hv := hv.symm
  subst hv
  have hs := hq.st
  have hp := hp.join0 hq
  refine ev_storeA hp (i := 0) (off := 0) (vs := [(.bool x_j.Neg), v_n]) rfl rfl rfl rfl T29 rfl (Nat.le_of_ble_eq_true rfl) (ones_cons rfl (ones_cons r_o.one ones_nil)) ?_
  intro w_p hp hs
  replace r_o := r_o.step hs
  apply go
  obtain rfl := Option.some.inj h
  refine ⟨_, run_loadVarA T29 rfl (hp.at_ (i := 0) rfl), ?_⟩
  have hp := hp.sel [] (by decide)
  exact ⟨I_m, v_n, rfl, hp, r_o⟩

end Go.Proofs.YtcdboppghnchpaaDoor

namespace Go.Proofs.YtcdboppghnchpaaDoor
open Go Go.Proofs.YtcdboppghnchpaaDoor.Gw Go.RowKit
set_option linter.unusedVariables false
attribute [local irreducible] Ev EvQ EvS EvH vch
def rotation_gauss_times_S (f : Gauss → Gauss → Option Gauss) : Prop := ∀ (w0 : World) (I0 : Nat → Prop) (x_0 : Gauss) (v_1 : Value) (r_2 : RepS (dI .u32) w0 I0 v_1 x_0.re.Mag) (v_3 : Value) (r_4 : RepS (dI .u32) w0 I0 v_3 x_0.im.Mag) (x_5 : Gauss) (v_6 : Value) (r_7 : RepS (dI .u32) w0 I0 v_6 x_5.re.Mag) (v_8 : Value) (r_9 : RepS (dI .u32) w0 I0 v_8 x_5.im.Mag) (hI : ∀ g, I0 g → g < w0.heap.size) (r : Gauss), f x_0 x_5 = some r →
    Ret Tryd.prog 57 #[(.agg #[(.bool x_0.re.Neg), v_1, (.bool x_0.im.Neg), v_3]), (.agg #[(.bool x_5.re.Neg), v_6, (.bool x_5.im.Neg), v_8])] w0 fun v w1 => ∃ (I1 : Nat → Prop) (u_a : Value) (u_b : Value), v = (.agg #[(.bool r.re.Neg), u_a, (.bool r.im.Neg), u_b]) ∧ Hp ⟨w0, I0, []⟩ I1 [] w1 ∧ RepS (dI .u32) w1 I1 u_a r.re.Mag ∧ RepS (dI .u32) w1 I1 u_b r.im.Mag
theorem rotation_gauss_times_ok (n : Nat) : rotation_gauss_times_S (rotation_gauss_times n) := by
  intro w0 I0 x_0 v_1 r_2 v_3 r_4 x_5 v_6 r_7 v_8 r_9 hI r h
  unfold rotation_gauss_times at h
  refine enter Tryd.func57 rfl (Nat.le_of_ble_eq_true rfl) ?_
  have hp : Hp ⟨w0, I0, []⟩ I0 [] w0 := Hp.start hI
  apply go
  apply go
  refine ev_boxI hp rfl rfl ?_
  intro p_a I_b w_c hp hs a_d
  replace r_7 := r_7.step hs
  replace r_9 := r_9.step hs
  replace r_2 := r_2.step hs
  replace r_4 := r_4.step hs
  refine ev_boxI hp rfl rfl ?_
  intro p_e I_f w_g hp hs a_h
  replace a_d := a_d.step hs
  replace r_2 := r_2.step hs
  replace r_4 := r_4.step hs
  replace r_7 := r_7.step hs
  replace r_9 := r_9.step hs
  refine ev_alloc hp rfl T121 ?_
  intro g_i w_j hp hs
  replace a_d := a_d.step hs
  replace r_2 := r_2.step hs
  replace r_4 := r_4.step hs
  replace a_h := a_h.step hs
  replace r_7 := r_7.step hs
  replace r_9 := r_9.step hs
  apply go
  have hs := hp.stp (Ch.drew [] w_j)
  have hp := hp.drew
  replace a_d := a_d.step hs
  replace r_2 := r_2.step hs
  replace r_4 := r_4.step hs
  replace a_h := a_h.step hs
  replace r_7 := r_7.step hs
  replace r_9 := r_9.step hs
  refine W.heldT [(0, true), (1, true), (2, true), (3, true), (5, true), (6, true), (7, true), (8, true), (11, true), (12, true), (13, true), (14, true), (16, true), (17, true), (18, true), (19, true), (4, false), (9, false), (10, false), (15, false), (20, false), (21, false), (22, true), (23, false)] (Stp I_f w_j.drew I_f) MX (by kernel_rfl) (Stp.refl _ _) ?_
  have hz := Stp.refl I_f w_j.drew
  intro ops hops
  have e0 : nthO ops 0 = some _ := (hops 0).trans rfl
  have e1 : nthO ops 1 = some _ := (hops 1).trans rfl
  have e2 : nthO ops 2 = some _ := (hops 2).trans rfl
  have e3 : nthO ops 3 = some _ := (hops 3).trans rfl
  have e4 : nthO ops 4 = some _ := (hops 4).trans rfl
  have e5 : nthO ops 5 = some _ := (hops 5).trans rfl
  have e6 : nthO ops 6 = some _ := (hops 6).trans rfl
  have e7 : nthO ops 7 = some _ := (hops 7).trans rfl
  have e8 : nthO ops 8 = some _ := (hops 8).trans rfl
  have e9 : nthO ops 9 = some _ := (hops 9).trans rfl
  have e10 : nthO ops 10 = some _ := (hops 10).trans rfl
  have e11 : nthO ops 11 = some _ := (hops 11).trans rfl
  have e12 : nthO ops 12 = some _ := (hops 12).trans rfl
  have e13 : nthO ops 13 = some _ := (hops 13).trans rfl
  have e14 : nthO ops 14 = some _ := (hops 14).trans rfl
  have e15 : nthO ops 15 = some _ := (hops 15).trans rfl
  have e16 : nthO ops 16 = some _ := (hops 16).trans rfl
  have e17 : nthO ops 17 = some _ := (hops 17).trans rfl
  have e18 : nthO ops 18 = some _ := (hops 18).trans rfl
  have e19 : nthO ops 19 = some _ := (hops 19).trans rfl
  have e20 : nthO ops 20 = some _ := (hops 20).trans rfl
  have e21 : nthO ops 21 = some _ := (hops 21).trans rfl
  have e22 : nthO ops 22 = some _ := (hops 22).trans rfl
  have e23 : nthO ops 23 = some _ := (hops 23).trans rfl
  clear hops
  refine vch_q e0 rfl ?_
  refine evh0 (rn_field rfl rfl FO121_0) ?_
  refine vch_q e1 rfl ?_
  refine evh (fun w' hw => rn_load rfl rfl (run_loadVarA T29 rfl (((a_d.step hw).drop 0).take 2))) ?_
  refine vch_q e2 rfl ?_
  refine evh0 (rn_field rfl rfl FO121_0) ?_
  refine vch_q e3 rfl ?_
  refine evh (fun w' hw => rn_load rfl rfl (run_loadVarA T29 rfl (((a_h.step hw).drop 0).take 2))) ?_
  refine vch_q e5 rfl ?_
  refine evh0 (rn_field rfl rfl FO121_1) ?_
  refine vch_q e6 rfl ?_
  refine evh (fun w' hw => rn_load rfl rfl (run_loadVarA T29 rfl (((a_d.step hw).drop 2).take 2))) ?_
  refine vch_q e7 rfl ?_
  refine evh0 (rn_field rfl rfl FO121_1) ?_
  refine vch_q e8 rfl ?_
  refine evh (fun w' hw => rn_load rfl rfl (run_loadVarA T29 rfl (((a_h.step hw).drop 2).take 2))) ?_
  refine vch_q e11 rfl ?_
  refine evh0 (rn_field rfl rfl FO121_0) ?_
  refine vch_q e12 rfl ?_
  refine evh (fun w' hw => rn_load rfl rfl (run_loadVarA T29 rfl (((a_d.step hw).drop 0).take 2))) ?_
  refine vch_q e13 rfl ?_
  refine evh0 (rn_field rfl rfl FO121_1) ?_
  refine vch_q e14 rfl ?_
  refine evh (fun w' hw => rn_load rfl rfl (run_loadVarA T29 rfl (((a_h.step hw).drop 2).take 2))) ?_
  refine vch_q e16 rfl ?_
  refine evh0 (rn_field rfl rfl FO121_1) ?_
  refine vch_q e17 rfl ?_
  refine evh (fun w' hw => rn_load rfl rfl (run_loadVarA T29 rfl (((a_d.step hw).drop 2).take 2))) ?_
  refine vch_q e18 rfl ?_
  refine evh0 (rn_field rfl rfl FO121_0) ?_
  refine vch_q e19 rfl ?_
  refine evh (fun w' hw => rn_load rfl rfl (run_loadVarA T29 rfl (((a_h.step hw).drop 0).take 2))) ?_
  refine vch_l e4 rfl ?_
  obtain ⟨x_k, q_l, h⟩ := bind_some h
  refine ev_call rfl rfl C34 (((integer_Mul_ok n) _ _  (Int_2.mk x_0.re.Neg x_0.re.Mag) v_1 r_2 (Int_2.mk x_5.re.Neg x_5.re.Mag) v_6 r_7 hp.imm _ q_l).mono ?_)
  rintro _ w_m ⟨I_n, v_o, hv, hq, r_p⟩
  replace hv := hv.symm
  subst hv
  have hs := hq.st
  have hp := hp.join0 hq
  replace hz := hz.trans hs
  replace r_4 := r_4.step hs
  replace r_9 := r_9.step hs
  replace r_2 := r_2.step hs
  replace r_7 := r_7.step hs
  refine ⟨Stp I_n w_m I_n, Stp.refl _ _, fun x hx => hz.held hx, ?_⟩
  have hz := Stp.refl I_n w_m
  refine vch_l e9 rfl ?_
  obtain ⟨x_q, q_r, h⟩ := bind_some h
  refine ev_call rfl rfl C34 (((integer_Mul_ok n) _ _  (Int_2.mk x_0.im.Neg x_0.im.Mag) v_3 r_4 (Int_2.mk x_5.im.Neg x_5.im.Mag) v_8 r_9 hp.imm _ q_r).mono ?_)
  rintro _ w_s ⟨I_t, v_u, hv, hq, r_v⟩
  replace hv := hv.symm
  subst hv
  have hs := hq.st
  have hp := hp.join0 hq
  replace hz := hz.trans hs
  replace r_2 := r_2.step hs
  replace r_9 := r_9.step hs
  replace r_4 := r_4.step hs
  replace r_7 := r_7.step hs
  replace r_p := r_p.step hs
  refine ⟨Stp I_t w_s I_t, Stp.refl _ _, fun x hx => hz.held hx, ?_⟩
  have hz := Stp.refl I_t w_s
  refine vch_l e10 rfl ?_
  obtain ⟨x_w, q_x, h⟩ := bind_some h
  refine ev_call rfl rfl C93 (((integer_Sub_ok n) _ _  x_k v_o r_p x_q v_u r_v hp.imm _ q_x).mono ?_)
  rintro _ w_y ⟨I_z, v_10, hv, hq, r_11⟩
  replace hv := hv.symm
  subst hv
  have hs := hq.st
  have hp := hp.join0 hq
  replace hz := hz.trans hs
  replace r_2 := r_2.step hs
  replace r_9 := r_9.step hs
  replace r_4 := r_4.step hs
  replace r_7 := r_7.step hs
  refine ⟨Stp I_z w_y I_z, Stp.refl _ _, fun x hx => hz.held hx, ?_⟩
  have hz := Stp.refl I_z w_y
  refine vch_l e15 rfl ?_
  obtain ⟨x_12, q_13, h⟩ := bind_some h
  refine ev_call rfl rfl C34 (((integer_Mul_ok n) _ _  (Int_2.mk x_0.re.Neg x_0.re.Mag) v_1 r_2 (Int_2.mk x_5.im.Neg x_5.im.Mag) v_8 r_9 hp.imm _ q_13).mono ?_)
  rintro _ w_14 ⟨I_15, v_16, hv, hq, r_17⟩
  replace hv := hv.symm
  subst hv
  have hs := hq.st
  have hp := hp.join0 hq
  replace hz := hz.trans hs
  replace r_4 := r_4.step hs
  replace r_7 := r_7.step hs
  replace r_11 := r_11.step hs
  refine ⟨Stp I_15 w_14 I_15, Stp.refl _ _, fun x hx => hz.held hx, ?_⟩
  have hz := Stp.refl I_15 w_14
  refine vch_l e20 rfl ?_
  obtain ⟨x_18, q_19, h⟩ := bind_some h
  refine ev_call rfl rfl C34 (((integer_Mul_ok n) _ _  (Int_2.mk x_0.im.Neg x_0.im.Mag) v_3 r_4 (Int_2.mk x_5.re.Neg x_5.re.Mag) v_6 r_7 hp.imm _ q_19).mono ?_)
  rintro _ w_1a ⟨I_1b, v_1c, hv, hq, r_1d⟩
  replace hv := hv.symm
  subst hv
  have hs := hq.st
  have hp := hp.join0 hq
  replace hz := hz.trans hs
  replace r_11 := r_11.step hs
  replace r_17 := r_17.step hs
  refine ⟨Stp I_1b w_1a I_1b, Stp.refl _ _, fun x hx => hz.held hx, ?_⟩
  have hz := Stp.refl I_1b w_1a
  refine vch_l e21 rfl ?_
  obtain ⟨x_1e, q_1f, h⟩ := bind_some h
  refine ev_call rfl rfl C33 (((integer_Add_ok n) _ _  x_12 v_16 r_17 x_18 v_1c r_1d hp.imm _ q_1f).mono ?_)
  rintro _ w_1g ⟨I_1h, v_1i, hv, hq, r_1j⟩
  replace hv := hv.symm
  subst hv
  have hs := hq.st
  have hp := hp.join0 hq
  replace hz := hz.trans hs
  replace r_11 := r_11.step hs
  refine ⟨Stp I_1h w_1g I_1h, Stp.refl _ _, fun x hx => hz.held hx, ?_⟩
  have hz := Stp.refl I_1h w_1g
  refine vch_q e22 rfl ?_
  obtain ⟨A_1k, m_1l, m_1m, rfl⟩ := r_11.isSl
  obtain ⟨A_1n, m_1o, m_1p, rfl⟩ := r_1j.isSl
  refine evh0 (fun w => rn_build (cs := [(.bool x_w.Neg), (.slice A_1k m_1l m_1m), (.bool x_1e.Neg), (.slice A_1n m_1o m_1p)]) rfl rfl T121 PL121 rfl) ?_
  refine vch_l e23 rfl ?_
  refine ev_storeA hp (i := 0) (off := 0) (vs := [(.bool x_w.Neg), (.slice A_1k m_1l m_1m), (.bool x_1e.Neg), (.slice A_1n m_1o m_1p)]) rfl rfl rfl rfl T121 rfl (Nat.le_of_ble_eq_true rfl) (ones_cons rfl (ones_cons r_11.one (ones_cons rfl (ones_cons r_1j.one ones_nil)))) ?_
  intro w_1q hp hs
  replace hz := hz.trans hs
  replace r_11 := r_11.step hs
  replace r_1j := r_1j.step hs
  refine ⟨Stp I_1h w_1q I_1h, Stp.refl _ _, fun x hx => hz.held hx, ?_⟩
  have hz := Stp.refl I_1h w_1q
  refine vch_end ?_
  apply go
  obtain rfl := Option.some.inj h
  refine ⟨_, run_loadVarA T121 rfl (hp.at_ (i := 0) rfl), ?_⟩
  have hp := hp.sel [] (by decide)
  exact ⟨I_1h, (.slice A_1k m_1l m_1m), (.slice A_1n m_1o m_1p), rfl, hp, r_11, r_1j⟩

end Go.Proofs.YtcdboppghnchpaaDoor

namespace Go.Proofs.YtcdboppghnchpaaDoor
open Go Go.Proofs.YtcdboppghnchpaaDoor.Gw Go.RowKit
set_option linter.unusedVariables false
attribute [local irreducible] Ev EvQ EvS EvH
def rotation_Then_S (f : Rot → Rot → Option Rot) : Prop := ∀ (w0 : World) (I0 : Nat → Prop) (x_0 : Rot) (v_1 : Value) (r_2 : RepS (dI .u32) w0 I0 v_1 x_0.P.Mag) (v_3 : Value) (r_4 : RepS (dI .u32) w0 I0 v_3 x_0.Q.Mag) (x_5 : Rot) (v_6 : Value) (r_7 : RepS (dI .u32) w0 I0 v_6 x_5.P.Mag) (v_8 : Value) (r_9 : RepS (dI .u32) w0 I0 v_8 x_5.Q.Mag) (hI : ∀ g, I0 g → g < w0.heap.size) (r : Rot), f x_0 x_5 = some r →
    Ret Tryd.prog 36 #[(.agg #[(.bool x_0.P.Neg), v_1, (.bool x_0.Q.Neg), v_3]), (.agg #[(.bool x_5.P.Neg), v_6, (.bool x_5.Q.Neg), v_8])] w0 fun v w1 => ∃ (I1 : Nat → Prop) (u_a : Value) (u_b : Value), v = (.agg #[(.bool r.P.Neg), u_a, (.bool r.Q.Neg), u_b]) ∧ Hp ⟨w0, I0, []⟩ I1 [] w1 ∧ RepS (dI .u32) w1 I1 u_a r.P.Mag ∧ RepS (dI .u32) w1 I1 u_b r.Q.Mag
theorem rotation_Then_ok (n : Nat) : rotation_Then_S (rotation_Then n) := by
  intro w0 I0 x_0 v_1 r_2 v_3 r_4 x_5 v_6 r_7 v_8 r_9 hI r h
  unfold rotation_Then at h
  refine enter Tryd.func36 rfl (Nat.le_of_ble_eq_true rfl) ?_
  have hp : Hp ⟨w0, I0, []⟩ I0 [] w0 := Hp.start hI
  apply go
  apply go
  refine ev_boxI hp rfl rfl ?_
  intro p_a I_b w_c hp hs a_d
  replace r_7 := r_7.step hs
  replace r_9 := r_9.step hs
  replace r_2 := r_2.step hs
  replace r_4 := r_4.step hs
  refine ev_boxI hp rfl rfl ?_
  intro p_e I_f w_g hp hs a_h
  replace a_d := a_d.step hs
  replace r_2 := r_2.step hs
  replace r_4 := r_4.step hs
  replace r_7 := r_7.step hs
  replace r_9 := r_9.step hs
  refine ev_alloc hp rfl T38 ?_
  intro g_i w_j hp hs
  replace a_d := a_d.step hs
  replace r_2 := r_2.step hs
  replace r_4 := r_4.step hs
  replace a_h := a_h.step hs
  replace r_7 := r_7.step hs
  replace r_9 := r_9.step hs
  apply go
  have hs := hp.stp (Ch.drew [] w_j)
  have hp := hp.drew
  replace a_d := a_d.step hs
  replace r_2 := r_2.step hs
  replace r_4 := r_4.step hs
  replace a_h := a_h.step hs
  replace r_7 := r_7.step hs
  replace r_9 := r_9.step hs
  refine W.held [(0, true), (3, true), (1, false), (2, false), (4, false), (5, false), (6, false), (7, false), (8, false)] (Stp I_f w_j.drew I_f) MX (by kernel_rfl) (Stp.refl _ _) ?_
  have hz := Stp.refl I_f w_j.drew
  refine evh (fun w' hw => rn_load rfl rfl (run_loadVarA T38 rfl (a_d.step hw))) ?_
  refine evh (fun w' hw => rn_load rfl rfl (run_loadVarA T38 rfl (a_h.step hw))) ?_
  obtain ⟨x_k, q_l, h⟩ := bind_some h
  refine ev_call rfl rfl C56 (((rotation_Norm_ok n) _ _  (Rot.mk (Int_2.mk x_0.P.Neg x_0.P.Mag) (Int_2.mk x_0.Q.Neg x_0.Q.Mag)) v_1 r_2 v_3 r_4 hp.imm _ q_l).mono ?_)
  rintro _ w_m ⟨I_n, v_o, v_p, hv, hq, r_q, r_r⟩
  replace hv := hv.symm
  subst hv
  have hs := hq.st
  have hp := hp.join0 hq
  replace hz := hz.trans hs
  replace r_7 := r_7.step hs
  replace r_9 := r_9.step hs
  refine ⟨Stp I_n w_m I_n, Stp.refl _ _, fun x hx => hz.held hx, ?_⟩
  have hz := Stp.refl I_n w_m
  obtain ⟨x_s, q_t, h⟩ := bind_some h
  refine ev_call rfl rfl C55 (((rotation_of_ok n) _ _  x_k v_o r_q v_p r_r hp.imm _ q_t).mono ?_)
  rintro _ w_u ⟨I_v, v_w, v_x, hv, hq, r_y, r_z⟩
  replace hv := hv.symm
  subst hv
  have hs := hq.st
  have hp := hp.join0 hq
  replace hz := hz.trans hs
  replace r_7 := r_7.step hs
  replace r_9 := r_9.step hs
  refine ⟨Stp I_v w_u I_v, Stp.refl _ _, fun x hx => hz.held hx, ?_⟩
  have hz := Stp.refl I_v w_u
  obtain ⟨x_10, q_11, h⟩ := bind_some h
  refine ev_call rfl rfl C56 (((rotation_Norm_ok n) _ _  (Rot.mk (Int_2.mk x_5.P.Neg x_5.P.Mag) (Int_2.mk x_5.Q.Neg x_5.Q.Mag)) v_6 r_7 v_8 r_9 hp.imm _ q_11).mono ?_)
  rintro _ w_12 ⟨I_13, v_14, v_15, hv, hq, r_16, r_17⟩
  replace hv := hv.symm
  subst hv
  have hs := hq.st
  have hp := hp.join0 hq
  replace hz := hz.trans hs
  replace r_y := r_y.step hs
  replace r_z := r_z.step hs
  refine ⟨Stp I_13 w_12 I_13, Stp.refl _ _, fun x hx => hz.held hx, ?_⟩
  have hz := Stp.refl I_13 w_12
  obtain ⟨x_18, q_19, h⟩ := bind_some h
  refine ev_call rfl rfl C55 (((rotation_of_ok n) _ _  x_10 v_14 r_16 v_15 r_17 hp.imm _ q_19).mono ?_)
  rintro _ w_1a ⟨I_1b, v_1c, v_1d, hv, hq, r_1e, r_1f⟩
  replace hv := hv.symm
  subst hv
  have hs := hq.st
  have hp := hp.join0 hq
  replace hz := hz.trans hs
  replace r_y := r_y.step hs
  replace r_z := r_z.step hs
  refine ⟨Stp I_1b w_1a I_1b, Stp.refl _ _, fun x hx => hz.held hx, ?_⟩
  have hz := Stp.refl I_1b w_1a
  obtain ⟨x_1g, q_1h, h⟩ := bind_some h
  refine ev_call rfl rfl C57 (((rotation_gauss_times_ok n) _ _  x_s v_w r_y v_x r_z x_18 v_1c r_1e v_1d r_1f hp.imm _ q_1h).mono ?_)
  rintro _ w_1i ⟨I_1j, v_1k, v_1l, hv, hq, r_1m, r_1n⟩
  replace hv := hv.symm
  subst hv
  have hs := hq.st
  have hp := hp.join0 hq
  replace hz := hz.trans hs
  refine ⟨Stp I_1j w_1i I_1j, Stp.refl _ _, fun x hx => hz.held hx, ?_⟩
  have hz := Stp.refl I_1j w_1i
  obtain ⟨x_1o, q_1p, h⟩ := bind_some h
  refine ev_call rfl rfl C72 (((rotation_gauss_rot_ok n) _ _  x_1g v_1k r_1m v_1l r_1n hp.imm _ q_1p).mono ?_)
  rintro _ w_1q ⟨I_1r, v_1s, v_1t, hv, hq, r_1u, r_1v⟩
  replace hv := hv.symm
  subst hv
  have hs := hq.st
  have hp := hp.join0 hq
  replace hz := hz.trans hs
  refine ⟨Stp I_1r w_1q I_1r, Stp.refl _ _, fun x hx => hz.held hx, ?_⟩
  have hz := Stp.refl I_1r w_1q
  refine ev_storeA hp (i := 0) (off := 0) (vs := [(.bool x_1o.P.Neg), v_1s, (.bool x_1o.Q.Neg), v_1t]) rfl rfl rfl rfl T38 rfl (Nat.le_of_ble_eq_true rfl) (ones_cons rfl (ones_cons r_1u.one (ones_cons rfl (ones_cons r_1v.one ones_nil)))) ?_
  intro w_1w hp hs
  replace hz := hz.trans hs
  replace r_1u := r_1u.step hs
  replace r_1v := r_1v.step hs
  refine ⟨Stp I_1r w_1w I_1r, Stp.refl _ _, fun x hx => hz.held hx, ?_⟩
  have hz := Stp.refl I_1r w_1w
  apply go
  obtain rfl := Option.some.inj h
  refine ⟨_, run_loadVarA T38 rfl (hp.at_ (i := 0) rfl), ?_⟩
  have hp := hp.sel [] (by decide)
  exact ⟨I_1r, v_1s, v_1t, rfl, hp, r_1u, r_1v⟩

end Go.Proofs.YtcdboppghnchpaaDoor

namespace Go.Proofs.YtcdboppghnchpaaDoor
open Go Go.Proofs.YtcdboppghnchpaaDoor.Gw Go.RowKit
set_option linter.unusedVariables false
attribute [local irreducible] Ev EvQ EvS EvH
def rotation_Mark_S (f : Int → Option Rot) : Prop := ∀ (w0 : World) (I0 : Nat → Prop) (x_0 : Int) (hI : ∀ g, I0 g → g < w0.heap.size) (r : Rot), f x_0 = some r →
    Ret Tryd.prog 11 #[(.int .i64 x_0)] w0 fun v w1 => ∃ (I1 : Nat → Prop) (u_1 : Value) (u_2 : Value), v = (.agg #[(.bool r.P.Neg), u_1, (.bool r.Q.Neg), u_2]) ∧ Hp ⟨w0, I0, []⟩ I1 [] w1 ∧ RepS (dI .u32) w1 I1 u_1 r.P.Mag ∧ RepS (dI .u32) w1 I1 u_2 r.Q.Mag
theorem rotation_Mark_ok (n : Nat) : rotation_Mark_S (rotation_Mark n) := by
  intro w0 I0 x_0 hI r h
  unfold rotation_Mark at h
  refine enter Tryd.func11 rfl (Nat.le_of_ble_eq_true rfl) ?_
  have hp : Hp ⟨w0, I0, []⟩ I0 [] w0 := Hp.start hI
  apply go
  apply go
  refine ev_alloc hp rfl T38 ?_
  intro g_1 w_2 hp hs
  apply go
  apply go
  apply go
  apply go
  refine ⟨by decide, ?_⟩
  obtain ⟨x_3, q_4, h⟩ := bind_some h
  refine ev_call rfl rfl C35 (((rotation_Of_ok n) _ _  ((ib .and .i64 x_0 255).tmod 64) 64 hp.imm _ q_4).mono ?_)
  rintro _ w_5 ⟨I_6, v_7, v_8, hv, hq, r_9, r_a⟩
  replace hv := hv.symm
  subst hv
  have hs := hq.st
  have hp := hp.join0 hq
  refine ev_alloc hp rfl T38 ?_
  intro g_b w_c hp hs
  replace r_9 := r_9.step hs
  replace r_a := r_a.step hs
  refine ev_storeA hp (i := 0) (off := 0) (vs := [(.bool x_3.P.Neg), v_7, (.bool x_3.Q.Neg), v_8]) rfl rfl rfl rfl T38 rfl (Nat.le_of_ble_eq_true rfl) (ones_cons rfl (ones_cons r_9.one (ones_cons rfl (ones_cons r_a.one ones_nil)))) ?_
  intro w_d hp hs
  replace r_9 := r_9.step hs
  replace r_a := r_a.step hs
  obtain ⟨y_e, q_f, h⟩ := bind_some h
  refine W.cut (γ := (Bool × (List Int) × Bool × (List Int) × Value × Value × (Nat → Prop))) (fun g => [(2, (.pointer (some ⟨g_1, 0, none⟩))), (3, (.pointer (some ⟨g_b, 0, none⟩)))]) (fun g w' => y_e = ((g.1), (g.2.1), (g.2.2.1), (g.2.2.2.1)) ∧ Hp ⟨w0, I0, []⟩ (g.2.2.2.2.2.2) [some (g_1, [(.bool false), (.slice none 0 0), (.bool false), (.slice none 0 0)], 38), some (g_b, [(.bool (g.1)), (g.2.2.2.2.1), (.bool (g.2.2.1)), (g.2.2.2.2.2.1)], 38)] w' ∧ RepS (dI .u32) w' (g.2.2.2.2.2.2) (g.2.2.2.2.1) (g.2.1) ∧ RepS (dI .u32) w' (g.2.2.2.2.2.2) (g.2.2.2.2.2.1) (g.2.2.2.1)) ?_ ?_
  ·
    apply go
    apply go
    refine ⟨by decide, ?_⟩
    apply go
    have hp := hp.perm [1, 0] (by decide)
    refine W.loop q_f (γ := (Value × Value × (Nat → Prop))) (fun s g => [(2, (.pointer (some ⟨g_1, 0, none⟩))), (3, (.pointer (some ⟨g_b, 0, none⟩))), (10, (.int .i64 (IntKind.i64.wrap ((ib .and .i64 x_0 255).tdiv 64)))), (11, (.int .i64 (s.2.2.2.2)))]) (fun s g w' => Hp ⟨w0, I0, []⟩ (g.2.2) [some (g_1, [(.bool false), (.slice none 0 0), (.bool false), (.slice none 0 0)], 38), some (g_b, [(.bool (s.1)), (g.1), (.bool (s.2.2.1)), (g.2.1)], 38)] w' ∧ RepS (dI .u32) w' (g.2.2) (g.1) (s.2.1) ∧ RepS (dI .u32) w' (g.2.2) (g.2.1) (s.2.2.2.1)) (v_7, v_8, I_6) (.c rfl (.c rfl (.c rfl (.c rfl .n)))) ⟨hp, r_9, r_a⟩ ?_
    rintro ⟨x_g, x_h, x_i, x_j, x_k⟩ ⟨v_l, v_m, I_n⟩ w_o y_p ⟨hp, r_q, r_r⟩ q_s q_t
    unfold rotation_Mark_L1 at q_s
    apply go
    apply go
    apply go
    apply go
    refine sel_of (fun hc => ?_) (fun hc => ?_)
    ·
      have q_s := cond_t q_s hc
      apply go
      apply go
      apply go
      have hs := hp.stp (Ch.drew [] w_o)
      have hp := hp.drew
      replace r_q := r_q.step hs
      replace r_r := r_r.step hs
      refine W.heldG (.q 0 (.l 1 (.l 2 (.l 3 .done .no) .no) .no)) (SK (Stp I_n w_o.drew I_n) [(g_b, [(.bool x_g), v_l, (.bool x_i), v_m], 38)] [[3]]) MX (by kernel_rfl) ⟨Stp.refl _ _, (kp_cons (fun _ => (hp.own 1 _ _ _ rfl).1) kp_nil)⟩ ?_
      have hz := Stp.refl I_n w_o.drew
      refine ⟨SK.same (by kernel_rfl), ?_⟩
      refine evh (fun w' hw => rn_load rfl rfl (run_loadVarA T38 rfl ((S0.keep (p := 0) hw rfl rfl (by kernel_rfl)).at_ (i := 0) rfl))) ?_
      refine ⟨?_, trivial⟩
      obtain ⟨x_u, q_v, q_s⟩ := bind_some q_s
      refine ev_call rfl rfl C35 (((rotation_Of_ok n) _ _  1 1 hp.imm _ q_v).mono ?_)
      rintro _ w_w ⟨I_x, v_y, v_z, hv, hq, r_10, r_11⟩
      replace hv := hv.symm
      subst hv
      have hs := hq.st
      have hp := hp.join0 hq
      replace hz := hz.trans hs
      replace r_q := r_q.step hs
      replace r_r := r_r.step hs
      refine ⟨SK (Stp I_x w_w I_x) [(g_b, [(.bool x_g), v_l, (.bool x_i), v_m], 38)] [[3]], ⟨Stp.refl _ _, (kp_cons (fun _ => (hp.own 1 _ _ _ rfl).1) kp_nil)⟩, fun L x h => ⟨hz.held h.1, h.2⟩, ?_⟩
      have hz := Stp.refl I_x w_w
      refine ⟨?_, trivial⟩
      obtain ⟨x_12, q_13, q_s⟩ := bind_some q_s
      refine ev_call rfl rfl C36 (((rotation_Then_ok n) _ _  (Rot.mk (Int_2.mk x_g x_h) (Int_2.mk x_i x_j)) v_l r_q v_m r_r x_u v_y r_10 v_z r_11 hp.imm _ q_13).mono ?_)
      rintro _ w_14 ⟨I_15, v_16, v_17, hv, hq, r_18, r_19⟩
      replace hv := hv.symm
      subst hv
      have hs := hq.st
      have hp := hp.join0 hq
      replace hz := hz.trans hs
      replace r_q := r_q.step hs
      replace r_r := r_r.step hs
      refine ⟨SK (Stp I_15 w_14 I_15) [(g_b, [(.bool x_g), v_l, (.bool x_i), v_m], 38)] [[3]], ⟨Stp.refl _ _, (kp_cons (fun _ => (hp.own 1 _ _ _ rfl).1) kp_nil)⟩, fun L x h => ⟨hz.held h.1, h.2⟩, ?_⟩
      have hz := Stp.refl I_15 w_14
      refine ⟨?_, trivial⟩
      refine ev_storeA hp (i := 1) (off := 0) (vs := [(.bool x_12.P.Neg), v_16, (.bool x_12.Q.Neg), v_17]) rfl rfl rfl rfl T38 rfl (Nat.le_of_ble_eq_true rfl) (ones_cons rfl (ones_cons r_18.one (ones_cons rfl (ones_cons r_19.one ones_nil)))) ?_
      intro w_1a hp hs
      replace hz := hz.trans hs
      replace r_18 := r_18.step hs
      replace r_19 := r_19.step hs
      refine ⟨SK (Stp I_15 w_1a I_15) [(g_b, [(.bool x_g), v_l, (.bool x_i), v_m], 38)] [[3]], ⟨Stp.refl _ _, (kp_cons (kp_off (by kernel_rfl)) kp_nil)⟩, fun L x h => ⟨hz.held h.1, h.2⟩, ?_⟩
      have hz := Stp.refl I_15 w_1a
      apply go
      exact ⟨_, (Option.some.inj q_s).symm, (v_16, v_17, I_15), (.c rfl (.c rfl (.c rfl (.c rfl .n)))), ⟨hp, r_18, r_19⟩⟩
    ·
      have q_s := cond_f q_s hc
      apply go
      have q_1b := congrArg some (q_t _ (Option.some.inj q_s).symm)
      obtain rfl := Option.some.inj q_1b
      exact ⟨(x_g, x_h, x_i, x_j, v_l, v_m, I_n), (.c rfl (.c rfl .n)), rfl, hp, r_q, r_r⟩
  ·
    rintro ⟨x_1c, x_1d, x_1e, x_1f, v_1g, v_1h, I_1i⟩ w_1j ⟨hy, hp, r_1k, r_1l⟩
    replace hy := hy.symm
    subst hy
    apply go
    apply go
    refine ev (rn_load rfl rfl (run_loadVarA T38 rfl (hp.at_ (i := 1) rfl))) ?_
    refine ev_storeA hp (i := 0) (off := 0) (vs := [(.bool x_1c), v_1g, (.bool x_1e), v_1h]) rfl rfl rfl rfl T38 rfl (Nat.le_of_ble_eq_true rfl) (ones_cons rfl (ones_cons r_1k.one (ones_cons rfl (ones_cons r_1l.one ones_nil)))) ?_
    intro w_1m hp hs
    replace r_1k := r_1k.step hs
    replace r_1l := r_1l.step hs
    apply go
    obtain rfl := Option.some.inj h
    refine ⟨_, run_loadVarA T38 rfl (hp.at_ (i := 0) rfl), ?_⟩
    have hp := hp.sel [] (by decide)
    exact ⟨I_1i, v_1g, v_1h, rfl, hp, r_1k, r_1l⟩

end Go.Proofs.YtcdboppghnchpaaDoor

namespace Go.Proofs.YtcdboppghnchpaaDoor
open Go Go.Proofs.YtcdboppghnchpaaDoor.Gw Go.RowKit
set_option linter.unusedVariables false
attribute [local irreducible] Ev EvQ EvS EvH
def rational_New_S (f : Int_2 → Int_2 → Option Rational) : Prop := ∀ (w0 : World) (I0 : Nat → Prop) (x_0 : Int_2) (v_1 : Value) (r_2 : RepS (dI .u32) w0 I0 v_1 x_0.Mag) (x_3 : Int_2) (v_4 : Value) (r_5 : RepS (dI .u32) w0 I0 v_4 x_3.Mag) (hI : ∀ g, I0 g → g < w0.heap.size) (r : Rational), f x_0 x_3 = some r →
    Ret Tryd.prog 28 #[(.agg #[(.bool x_0.Neg), v_1]), (.agg #[(.bool x_3.Neg), v_4])] w0 fun v w1 => ∃ (I1 : Nat → Prop) (u_6 : Value) (u_7 : Value), v = (.agg #[(.bool r.Num.Neg), u_6, (.bool r.Den.Neg), u_7]) ∧ Hp ⟨w0, I0, []⟩ I1 [] w1 ∧ RepS (dI .u32) w1 I1 u_6 r.Num.Mag ∧ RepS (dI .u32) w1 I1 u_7 r.Den.Mag
theorem rational_New_ok (n : Nat) : rational_New_S (rational_New n) := by
  intro w0 I0 x_0 v_1 r_2 x_3 v_4 r_5 hI r h
  unfold rational_New at h
  refine enter Tryd.func28 rfl (Nat.le_of_ble_eq_true rfl) ?_
  have hp : Hp ⟨w0, I0, []⟩ I0 [] w0 := Hp.start hI
  apply go
  apply go
  refine ev_box hp rfl rfl ?_
  intro g_6 w_7 hp hs
  replace r_5 := r_5.step hs
  replace r_2 := r_2.step hs
  refine ev_box hp rfl rfl ?_
  intro g_8 w_9 hp hs
  replace r_5 := r_5.step hs
  replace r_2 := r_2.step hs
  refine ev_alloc hp rfl T31 ?_
  intro g_a w_b hp hs
  replace r_5 := r_5.step hs
  replace r_2 := r_2.step hs
  apply go
  apply go
  apply go
  refine ev (rn_load rfl rfl (run_loadVarA T29 rfl (hp.at_ (i := 1) rfl))) ?_
  obtain ⟨x_c, q_d, h⟩ := bind_some h
  refine ev_call rfl rfl C59 (((integer_Sign_ok n) _ _  (Int_2.mk x_3.Neg x_3.Mag) v_4 r_5 hp.imm _ q_d).mono ?_)
  rintro _ w_e ⟨rfl, hc⟩
  have hs := hp.stp hc
  replace hp := hp.ext hc
  replace r_5 := r_5.step hs
  replace r_2 := r_2.step hs
  apply go
  refine sel_of (fun hc => ?_) (fun hc => ?_)
  ·
    have h := cond_t h hc
    apply go
    apply go
    obtain ⟨x_f, q_g, h⟩ := bind_some h
    refine ev_call rfl rfl C29 (((integer_Of_ok n) _ _  0 hp.imm _ q_g).mono ?_)
    rintro _ w_h ⟨I_i, v_j, hv, hq, r_k⟩
    replace hv := hv.symm
    subst hv
    have hs := hq.st
    have hp := hp.join0 hq
    replace r_5 := r_5.step hs
    replace r_2 := r_2.step hs
    obtain ⟨x_l, q_m, h⟩ := bind_some h
    refine ev_call rfl rfl C29 (((integer_Of_ok n) _ _  1 hp.imm _ q_m).mono ?_)
    rintro _ w_n ⟨I_o, v_p, hv, hq, r_q⟩
    replace hv := hv.symm
    subst hv
    have hs := hq.st
    have hp := hp.join0 hq
    replace r_k := r_k.step hs
    replace r_5 := r_5.step hs
    replace r_2 := r_2.step hs
    obtain ⟨A_r, m_s, m_t, rfl⟩ := r_k.isSl
    obtain ⟨A_u, m_v, m_w, rfl⟩ := r_q.isSl
    refine ev0 (fun w => rn_build (cs := [(.bool x_f.Neg), (.slice A_r m_s m_t), (.bool x_l.Neg), (.slice A_u m_v m_w)]) rfl rfl T31 PL31 rfl) ?_
    refine ev_storeA hp (i := 0) (off := 0) (vs := [(.bool x_f.Neg), (.slice A_r m_s m_t), (.bool x_l.Neg), (.slice A_u m_v m_w)]) rfl rfl rfl rfl T31 rfl (Nat.le_of_ble_eq_true rfl) (ones_cons rfl (ones_cons r_k.one (ones_cons rfl (ones_cons r_q.one ones_nil)))) ?_
    intro w_x hp hs
    replace r_k := r_k.step hs
    replace r_q := r_q.step hs
    replace r_5 := r_5.step hs
    replace r_2 := r_2.step hs
    apply go
    obtain rfl := Option.some.inj h
    refine ⟨_, run_loadVarA T31 rfl (hp.at_ (i := 0) rfl), ?_⟩
    have hp := hp.sel [] (by decide)
    exact ⟨I_o, (.slice A_r m_s m_t), (.slice A_u m_v m_w), rfl, hp, r_k, r_q⟩
  ·
    have h := cond_f h hc
    apply go
    obtain ⟨y_y, q_z, h⟩ := bind_some h
    refine W.cut (γ := (Bool × (List Int) × Bool × (List Int) × Value × Value × (Nat → Prop))) (fun g => [(2, (.pointer (some ⟨g_6, 0, none⟩))), (3, (.pointer (some ⟨g_8, 0, none⟩))), (4, (.pointer (some ⟨g_a, 0, none⟩)))]) (fun g w' => y_y = ((g.1), (g.2.1), (g.2.2.1), (g.2.2.2.1)) ∧ Hp ⟨w0, I0, []⟩ (g.2.2.2.2.2.2) [some (g_6, [(.bool (g.1)), (g.2.2.2.2.1)], 29), some (g_8, [(.bool (g.2.2.1)), (g.2.2.2.2.2.1)], 29), some (g_a, [(.bool false), (.slice none 0 0), (.bool false), (.slice none 0 0)], 31)] w' ∧ RepS (dI .u32) w' (g.2.2.2.2.2.2) (g.2.2.2.2.1) (g.2.1) ∧ RepS (dI .u32) w' (g.2.2.2.2.2.2) (g.2.2.2.2.2.1) (g.2.2.2.1)) ?_ ?_
    ·
      apply go
      apply go
      refine ev (rn_load rfl rfl (run_loadVarA T29 rfl (hp.at_ (i := 1) rfl))) ?_
      obtain ⟨x_10, q_11, q_z⟩ := bind_some q_z
      refine ev_call rfl rfl C59 (((integer_Sign_ok n) _ _  (Int_2.mk x_3.Neg x_3.Mag) v_4 r_5 hp.imm _ q_11).mono ?_)
      rintro _ w_12 ⟨rfl, hc⟩
      have hs := hp.stp hc
      replace hp := hp.ext hc
      replace r_5 := r_5.step hs
      replace r_2 := r_2.step hs
      apply go
      refine sel_of (fun hc => ?_) (fun hc => ?_)
      ·
        have q_z := cond_t q_z hc
        have hs := hp.stp (Ch.drew [] w_12)
        have hp := hp.drew
        replace r_5 := r_5.step hs
        replace r_2 := r_2.step hs
        refine W.heldG (.q 0 (.q 2 (.l 1 (.l 3 (.l 4 (.l 5 .done .no) .no) .no) .no))) (SK (Stp I0 w_12.drew I0) [(g_6, [(.bool x_0.Neg), v_1], 29), (g_8, [(.bool x_3.Neg), v_4], 29)] [[4], [5]]) MX (by kernel_rfl) ⟨Stp.refl _ _, (kp_cons (fun _ => (hp.own 2 _ _ _ rfl).1) (kp_cons (fun _ => (hp.own 1 _ _ _ rfl).1) kp_nil))⟩ ?_
        have hz := Stp.refl I0 w_12.drew
        refine ⟨SK.same (by kernel_rfl), ?_⟩
        refine evh (fun w' hw => rn_load rfl rfl (run_loadVarA T29 rfl ((S0.keep (p := 0) hw rfl rfl (by kernel_rfl)).at_ (i := 0) rfl))) ?_
        refine ⟨SK.same (by kernel_rfl), ?_⟩
        refine evh (fun w' hw => rn_load rfl rfl (run_loadVarA T29 rfl ((S0.keep (p := 1) hw rfl rfl (by kernel_rfl)).at_ (i := 0) rfl))) ?_
        refine ⟨?_, trivial⟩
        obtain ⟨x_13, q_14, q_z⟩ := bind_some q_z
        refine ev_call rfl rfl C60 (((integer_Neg_ok n) _ _  (Int_2.mk x_0.Neg x_0.Mag) v_1 r_2 hp.imm _ q_14).mono ?_)
        rintro _ w_15 ⟨I_16, v_17, hv, hq, r_18⟩
        replace hv := hv.symm
        subst hv
        have hs := hq.st
        have hp := hp.join0 hq
        replace hz := hz.trans hs
        replace r_5 := r_5.step hs
        replace r_2 := r_2.step hs
        refine ⟨SK (Stp I_16 w_15 I_16) [(g_6, [(.bool x_0.Neg), v_1], 29), (g_8, [(.bool x_3.Neg), v_4], 29)] [[4], [5]], ⟨Stp.refl _ _, (kp_cons (fun _ => (hp.own 2 _ _ _ rfl).1) (kp_cons (fun _ => (hp.own 1 _ _ _ rfl).1) kp_nil))⟩, fun L x h => ⟨hz.held h.1, h.2⟩, ?_⟩
        have hz := Stp.refl I_16 w_15
        refine ⟨?_, trivial⟩
        obtain ⟨x_19, q_1a, q_z⟩ := bind_some q_z
        refine ev_call rfl rfl C60 (((integer_Neg_ok n) _ _  (Int_2.mk x_3.Neg x_3.Mag) v_4 r_5 hp.imm _ q_1a).mono ?_)
        rintro _ w_1b ⟨I_1c, v_1d, hv, hq, r_1e⟩
        replace hv := hv.symm
        subst hv
        have hs := hq.st
        have hp := hp.join0 hq
        replace hz := hz.trans hs
        replace r_18 := r_18.step hs
        replace r_5 := r_5.step hs
        replace r_2 := r_2.step hs
        refine ⟨SK (Stp I_1c w_1b I_1c) [(g_6, [(.bool x_0.Neg), v_1], 29), (g_8, [(.bool x_3.Neg), v_4], 29)] [[4], [5]], ⟨Stp.refl _ _, (kp_cons (fun _ => (hp.own 2 _ _ _ rfl).1) (kp_cons (fun _ => (hp.own 1 _ _ _ rfl).1) kp_nil))⟩, fun L x h => ⟨hz.held h.1, h.2⟩, ?_⟩
        have hz := Stp.refl I_1c w_1b
        refine ⟨?_, trivial⟩
        refine ev_storeA hp (i := 2) (off := 0) (vs := [(.bool x_13.Neg), v_17]) rfl rfl rfl rfl T29 rfl (Nat.le_of_ble_eq_true rfl) (ones_cons rfl (ones_cons r_18.one ones_nil)) ?_
        intro w_1f hp hs
        replace hz := hz.trans hs
        replace r_1e := r_1e.step hs
        replace r_5 := r_5.step hs
        replace r_18 := r_18.step hs
        refine ⟨SK (Stp I_1c w_1f I_1c) [(g_6, [(.bool x_0.Neg), v_1], 29), (g_8, [(.bool x_3.Neg), v_4], 29)] [[4], [5]], ⟨Stp.refl _ _, (kp_cons (kp_off (by kernel_rfl)) (kp_cons (fun _ => (hp.own 1 _ _ _ rfl).1) kp_nil))⟩, fun L x h => ⟨hz.held h.1, h.2⟩, ?_⟩
        have hz := Stp.refl I_1c w_1f
        refine ⟨?_, trivial⟩
        refine ev_storeA hp (i := 1) (off := 0) (vs := [(.bool x_19.Neg), v_1d]) rfl rfl rfl rfl T29 rfl (Nat.le_of_ble_eq_true rfl) (ones_cons rfl (ones_cons r_1e.one ones_nil)) ?_
        intro w_1g hp hs
        replace hz := hz.trans hs
        replace r_1e := r_1e.step hs
        replace r_18 := r_18.step hs
        refine ⟨SK (Stp I_1c w_1g I_1c) [(g_6, [(.bool x_0.Neg), v_1], 29), (g_8, [(.bool x_3.Neg), v_4], 29)] [[4], [5]], ⟨Stp.refl _ _, (kp_cons (kp_off (by kernel_rfl)) (kp_cons (kp_off (by kernel_rfl)) kp_nil))⟩, fun L x h => ⟨hz.held h.1, h.2⟩, ?_⟩
        have hz := Stp.refl I_1c w_1g
        obtain rfl := Option.some.inj q_z
        have hp := hp.perm [2, 1, 0] (by decide)
        exact ⟨(x_13.Neg, x_13.Mag, x_19.Neg, x_19.Mag, v_17, v_1d, I_1c), (.c rfl (.c rfl (.c rfl .n))), rfl, hp, r_18, r_1e⟩
      ·
        have q_z := cond_f q_z hc
        apply go
        obtain rfl := Option.some.inj q_z
        have hp := hp.perm [2, 1, 0] (by decide)
        exact ⟨(x_0.Neg, x_0.Mag, x_3.Neg, x_3.Mag, v_1, v_4, I0), (.c rfl (.c rfl (.c rfl .n))), rfl, hp, r_2, r_5⟩
    ·
      rintro ⟨x_1h, x_1i, x_1j, x_1k, v_1l, v_1m, I_1n⟩ w_1o ⟨hy, hp, r_1p, r_1q⟩
      replace hy := hy.symm
      subst hy
      apply go
      apply go
      refine ev (rn_load rfl rfl (run_loadVarA T29 rfl (hp.at_ (i := 0) rfl))) ?_
      refine ev (rn_load rfl rfl (run_loadVarA T29 rfl (hp.at_ (i := 1) rfl))) ?_
      obtain ⟨x_1r, q_1s, h⟩ := bind_some h
      refine ev_call rfl rfl C61 (((integer_Gcd_ok n) _ _  (Int_2.mk x_1h x_1i) v_1l r_1p (Int_2.mk x_1j x_1k) v_1m r_1q hp.imm _ q_1s).mono ?_)
      rintro _ w_1t ⟨I_1u, v_1v, hv, hq, r_1w⟩
      replace hv := hv.symm
      subst hv
      have hs := hq.st
      have hp := hp.join0 hq
      replace r_1p := r_1p.step hs
      replace r_1q := r_1q.step hs
      refine ev_alloc hp rfl T29 ?_
      intro g_1x w_1y hp hs
      replace r_1w := r_1w.step hs
      replace r_1p := r_1p.step hs
      replace r_1q := r_1q.step hs
      refine ev_storeA hp (i := 0) (off := 0) (vs := [(.bool x_1r.Neg), v_1v]) rfl rfl rfl rfl T29 rfl (Nat.le_of_ble_eq_true rfl) (ones_cons rfl (ones_cons r_1w.one ones_nil)) ?_
      intro w_1z hp hs
      replace r_1w := r_1w.step hs
      replace r_1p := r_1p.step hs
      replace r_1q := r_1q.step hs
      apply go
      apply go
      refine ev (rn_load rfl rfl (run_loadVarA T29 rfl (hp.at_ (i := 1) rfl))) ?_
      refine ev (rn_load rfl rfl (run_loadVarA T29 rfl (hp.at_ (i := 0) rfl))) ?_
      obtain ⟨⟨x_20, x_21, x_22⟩, q_23, h⟩ := bind_some h
      refine ev_call rfl rfl C62 (((integer_DivMod_ok n) _ _  (Int_2.mk x_1h x_1i) v_1l r_1p (Int_2.mk x_1r.Neg x_1r.Mag) v_1v r_1w hp.imm _ q_23).mono ?_)
      rintro _ w_24 ⟨I_25, v_26, v_27, hv, hq, r_28, r_29⟩
      replace hv := hv.symm
      subst hv
      have hs := hq.st
      have hp := hp.join0 hq
      replace r_1w := r_1w.step hs
      replace r_1p := r_1p.step hs
      replace r_1q := r_1q.step hs
      refine ev_alloc hp rfl T29 ?_
      intro g_2a w_2b hp hs
      replace r_28 := r_28.step hs
      replace r_29 := r_29.step hs
      replace r_1w := r_1w.step hs
      replace r_1p := r_1p.step hs
      replace r_1q := r_1q.step hs
      refine ev_alloc hp rfl T29 ?_
      intro g_2c w_2d hp hs
      replace r_28 := r_28.step hs
      replace r_29 := r_29.step hs
      replace r_1w := r_1w.step hs
      replace r_1p := r_1p.step hs
      replace r_1q := r_1q.step hs
      refine ev_storeA hp (i := 1) (off := 0) (vs := [(.bool x_20.Neg), v_26]) rfl rfl rfl rfl T29 rfl (Nat.le_of_ble_eq_true rfl) (ones_cons rfl (ones_cons r_28.one ones_nil)) ?_
      intro w_2e hp hs
      replace r_29 := r_29.step hs
      replace r_28 := r_28.step hs
      replace r_1w := r_1w.step hs
      replace r_1p := r_1p.step hs
      replace r_1q := r_1q.step hs
      refine ev_storeA hp (i := 0) (off := 0) (vs := [(.bool x_21.Neg), v_27]) rfl rfl rfl rfl T29 rfl (Nat.le_of_ble_eq_true rfl) (ones_cons rfl (ones_cons r_29.one ones_nil)) ?_
      intro w_2f hp hs
      replace r_29 := r_29.step hs
      replace r_28 := r_28.step hs
      replace r_1w := r_1w.step hs
      replace r_1p := r_1p.step hs
      replace r_1q := r_1q.step hs
      apply go
      apply go
      refine ev (rn_load rfl rfl (run_loadVarA T29 rfl (hp.at_ (i := 4) rfl))) ?_
      refine ev (rn_load rfl rfl (run_loadVarA T29 rfl (hp.at_ (i := 2) rfl))) ?_
      obtain ⟨⟨x_2g, x_2h, x_2i⟩, q_2j, h⟩ := bind_some h
      refine ev_call rfl rfl C62 (((integer_DivMod_ok n) _ _  (Int_2.mk x_1j x_1k) v_1m r_1q (Int_2.mk x_1r.Neg x_1r.Mag) v_1v r_1w hp.imm _ q_2j).mono ?_)
      rintro _ w_2k ⟨I_2l, v_2m, v_2n, hv, hq, r_2o, r_2p⟩
      replace hv := hv.symm
      subst hv
      have hs := hq.st
      have hp := hp.join0 hq
      replace r_29 := r_29.step hs
      replace r_28 := r_28.step hs
      replace r_1w := r_1w.step hs
      replace r_1p := r_1p.step hs
      replace r_1q := r_1q.step hs
      refine ev_alloc hp rfl T29 ?_
      intro g_2q w_2r hp hs
      replace r_2o := r_2o.step hs
      replace r_2p := r_2p.step hs
      replace r_29 := r_29.step hs
      replace r_28 := r_28.step hs
      replace r_1w := r_1w.step hs
      replace r_1p := r_1p.step hs
      replace r_1q := r_1q.step hs
      refine ev_alloc hp rfl T29 ?_
      intro g_2s w_2t hp hs
      replace r_2o := r_2o.step hs
      replace r_2p := r_2p.step hs
      replace r_29 := r_29.step hs
      replace r_28 := r_28.step hs
      replace r_1w := r_1w.step hs
      replace r_1p := r_1p.step hs
      replace r_1q := r_1q.step hs
      refine ev_storeA hp (i := 1) (off := 0) (vs := [(.bool x_2g.Neg), v_2m]) rfl rfl rfl rfl T29 rfl (Nat.le_of_ble_eq_true rfl) (ones_cons rfl (ones_cons r_2o.one ones_nil)) ?_
      intro w_2u hp hs
      replace r_2p := r_2p.step hs
      replace r_2o := r_2o.step hs
      replace r_29 := r_29.step hs
      replace r_28 := r_28.step hs
      replace r_1w := r_1w.step hs
      replace r_1p := r_1p.step hs
      replace r_1q := r_1q.step hs
      refine ev_storeA hp (i := 0) (off := 0) (vs := [(.bool x_2h.Neg), v_2n]) rfl rfl rfl rfl T29 rfl (Nat.le_of_ble_eq_true rfl) (ones_cons rfl (ones_cons r_2p.one ones_nil)) ?_
      intro w_2v hp hs
      replace r_2p := r_2p.step hs
      replace r_2o := r_2o.step hs
      replace r_29 := r_29.step hs
      replace r_28 := r_28.step hs
      replace r_1w := r_1w.step hs
      replace r_1p := r_1p.step hs
      replace r_1q := r_1q.step hs
      apply go
      apply go
      refine ev (rn_load rfl rfl (run_loadVarA T29 rfl (hp.at_ (i := 3) rfl))) ?_
      refine ev (rn_load rfl rfl (run_loadVarA T29 rfl (hp.at_ (i := 1) rfl))) ?_
      obtain ⟨A_2w, m_2x, m_2y, rfl⟩ := r_28.isSl
      obtain ⟨A_2z, m_30, m_31, rfl⟩ := r_2o.isSl
      refine ev0 (fun w => rn_build (cs := [(.bool x_20.Neg), (.slice A_2w m_2x m_2y), (.bool x_2g.Neg), (.slice A_2z m_30 m_31)]) rfl rfl T31 PL31 rfl) ?_
      refine ev_storeA hp (i := 7) (off := 0) (vs := [(.bool x_20.Neg), (.slice A_2w m_2x m_2y), (.bool x_2g.Neg), (.slice A_2z m_30 m_31)]) rfl rfl rfl rfl T31 rfl (Nat.le_of_ble_eq_true rfl) (ones_cons rfl (ones_cons r_28.one (ones_cons rfl (ones_cons r_2o.one ones_nil)))) ?_
      intro w_32 hp hs
      replace r_2p := r_2p.step hs
      replace r_2o := r_2o.step hs
      replace r_29 := r_29.step hs
      replace r_28 := r_28.step hs
      replace r_1w := r_1w.step hs
      replace r_1p := r_1p.step hs
      replace r_1q := r_1q.step hs
      apply go
      obtain rfl := Option.some.inj h
      refine ⟨_, run_loadVarA T31 rfl (hp.at_ (i := 7) rfl), ?_⟩
      have hp := hp.sel [] (by decide)
      exact ⟨I_2l, (.slice A_2w m_2x m_2y), (.slice A_2z m_30 m_31), rfl, hp, r_28, r_2o⟩

end Go.Proofs.YtcdboppghnchpaaDoor

namespace Go.Proofs.YtcdboppghnchpaaDoor
open Go Go.Proofs.YtcdboppghnchpaaDoor.Gw Go.RowKit
set_option linter.unusedVariables false
attribute [local irreducible] Ev EvQ EvS EvH
def rational_Norm_S (f : Rational → Option Rational) : Prop := ∀ (w0 : World) (I0 : Nat → Prop) (x_0 : Rational) (v_1 : Value) (r_2 : RepS (dI .u32) w0 I0 v_1 x_0.Num.Mag) (v_3 : Value) (r_4 : RepS (dI .u32) w0 I0 v_3 x_0.Den.Mag) (hI : ∀ g, I0 g → g < w0.heap.size) (r : Rational), f x_0 = some r →
    Ret Tryd.prog 32 #[(.agg #[(.bool x_0.Num.Neg), v_1, (.bool x_0.Den.Neg), v_3])] w0 fun v w1 => ∃ (I1 : Nat → Prop) (u_5 : Value) (u_6 : Value), v = (.agg #[(.bool r.Num.Neg), u_5, (.bool r.Den.Neg), u_6]) ∧ Hp ⟨w0, I0, []⟩ I1 [] w1 ∧ RepS (dI .u32) w1 I1 u_5 r.Num.Mag ∧ RepS (dI .u32) w1 I1 u_6 r.Den.Mag
theorem rational_Norm_ok (n : Nat) : rational_Norm_S (rational_Norm n) := by
  intro w0 I0 x_0 v_1 r_2 v_3 r_4 hI r h
  unfold rational_Norm at h
  refine enter Tryd.func32 rfl (Nat.le_of_ble_eq_true rfl) ?_
  have hp : Hp ⟨w0, I0, []⟩ I0 [] w0 := Hp.start hI
  apply go
  apply go
  refine ev_boxI hp rfl rfl ?_
  intro p_5 I_6 w_7 hp hs a_8
  replace r_2 := r_2.step hs
  replace r_4 := r_4.step hs
  refine ev_alloc hp rfl T31 ?_
  intro g_9 w_a hp hs
  replace a_8 := a_8.step hs
  replace r_2 := r_2.step hs
  replace r_4 := r_4.step hs
  apply go
  apply go
  refine ev0 (rn_field rfl rfl FO31_0) ?_
  refine ev (rn_load rfl rfl (run_loadVarA T29 rfl ((a_8.drop 0).take 2))) ?_
  refine ev0 (rn_field rfl rfl FO31_1) ?_
  refine ev (rn_load rfl rfl (run_loadVarA T29 rfl ((a_8.drop 2).take 2))) ?_
  obtain ⟨x_b, q_c, h⟩ := bind_some h
  refine ev_call rfl rfl C28 (((rational_New_ok n) _ _  (Int_2.mk x_0.Num.Neg x_0.Num.Mag) v_1 r_2 (Int_2.mk x_0.Den.Neg x_0.Den.Mag) v_3 r_4 hp.imm _ q_c).mono ?_)
  rintro _ w_d ⟨I_e, v_f, v_g, hv, hq, r_h, r_i⟩
  replace hv := hv.symm
  subst hv
  have hs := hq.st
  have hp := hp.join0 hq
  refine ev_storeA hp (i := 0) (off := 0) (vs := [(.bool x_b.Num.Neg), v_f, (.bool x_b.Den.Neg), v_g]) rfl rfl rfl rfl T31 rfl (Nat.le_of_ble_eq_true rfl) (ones_cons rfl (ones_cons r_h.one (ones_cons rfl (ones_cons r_i.one ones_nil)))) ?_
  intro w_j hp hs
  replace r_h := r_h.step hs
  replace r_i := r_i.step hs
  apply go
  obtain rfl := Option.some.inj h
  refine ⟨_, run_loadVarA T31 rfl (hp.at_ (i := 0) rfl), ?_⟩
  have hp := hp.sel [] (by decide)
  exact ⟨I_e, v_f, v_g, rfl, hp, r_h, r_i⟩

end Go.Proofs.YtcdboppghnchpaaDoor

namespace Go.Proofs.YtcdboppghnchpaaDoor
open Go Go.Proofs.YtcdboppghnchpaaDoor.Gw Go.RowKit
set_option linter.unusedVariables false
attribute [local irreducible] Ev EvQ EvS EvH
def integer_Cmp_S (f : Int_2 → Int_2 → Option Int) : Prop := ∀ (w0 : World) (I0 : Nat → Prop) (x_0 : Int_2) (v_1 : Value) (r_2 : RepS (dI .u32) w0 I0 v_1 x_0.Mag) (x_3 : Int_2) (v_4 : Value) (r_5 : RepS (dI .u32) w0 I0 v_4 x_3.Mag) (hI : ∀ g, I0 g → g < w0.heap.size) (r : Int), f x_0 x_3 = some r →
    Ret Tryd.prog 86 #[(.agg #[(.bool x_0.Neg), v_1]), (.agg #[(.bool x_3.Neg), v_4])] w0 fun v w1 => v = (.int .i64 r) ∧ Ch [] w0 w1
theorem integer_Cmp_ok (n : Nat) : integer_Cmp_S (integer_Cmp n) := by
  intro w0 I0 x_0 v_1 r_2 x_3 v_4 r_5 hI r h
  unfold integer_Cmp at h
  refine enter Tryd.func86 rfl (Nat.le_of_ble_eq_true rfl) ?_
  have hp : Hp ⟨w0, I0, []⟩ I0 [] w0 := Hp.start hI
  apply go
  apply go
  refine ev_boxI hp rfl rfl ?_
  intro p_6 I_7 w_8 hp hs a_9
  replace r_5 := r_5.step hs
  replace r_2 := r_2.step hs
  refine ev_boxI hp rfl rfl ?_
  intro p_a I_b w_c hp hs a_d
  replace a_9 := a_9.step hs
  replace r_2 := r_2.step hs
  replace r_5 := r_5.step hs
  apply go
  refine W.quiet (fun w' => Ch [] w_c w') MX (by kernel_rfl) (Ch.drew [] w_c) ?_
  refine evq (fun w' hw => rn_load rfl rfl (run_loadVarA T29 rfl (a_9.step (hp.stp hw)))) ?_
  obtain ⟨x_e, q_f, h⟩ := bind_some h
  refine evq_call rfl rfl C59 (fun w' hw => ((integer_Sign_ok n) _ _  (Int_2.mk x_0.Neg x_0.Mag) v_1 (r_2.step (hp.stp hw)) (hp.ext hw).imm _ q_f).mono fun _ _ ⟨e, hc⟩ => ⟨e, hw.trans hc⟩) ?_
  refine evq (fun w' hw => rn_load rfl rfl (run_loadVarA T29 rfl (a_d.step (hp.stp hw)))) ?_
  obtain ⟨x_g, q_h, h⟩ := bind_some h
  refine evq_call rfl rfl C59 (fun w' hw => ((integer_Sign_ok n) _ _  (Int_2.mk x_3.Neg x_3.Mag) v_4 (r_5.step (hp.stp hw)) (hp.ext hw).imm _ q_h).mono fun _ _ ⟨e, hc⟩ => ⟨e, hw.trans hc⟩) ?_
  intro w_i hc
  have hs := hp.stp hc
  replace hp := hp.ext hc
  replace a_9 := a_9.step hs
  replace r_2 := r_2.step hs
  replace a_d := a_d.step hs
  replace r_5 := r_5.step hs
  apply go
  apply go
  apply go
  apply go
  apply go
  refine sel_of (fun hc => ?_) (fun hc => ?_)
  ·
    have h := cond_t h hc
    apply go
    apply go
    apply go
    obtain rfl := Option.some.inj h
    exact ⟨rfl, hp.ch⟩
  ·
    have h := cond_f h hc
    apply go
    apply go
    apply go
    refine sel_of (fun hc => ?_) (fun hc => ?_)
    ·
      have h := cond_t h hc
      apply go
      apply go
      apply go
      obtain rfl := Option.some.inj h
      exact ⟨rfl, hp.ch⟩
    ·
      have h := cond_f h hc
      apply go
      apply go
      have hs := hp.stp (Ch.drew [] w_i)
      have hp := hp.drew
      replace a_9 := a_9.step hs
      replace r_2 := r_2.step hs
      replace a_d := a_d.step hs
      replace r_5 := r_5.step hs
      refine W.held [(0, true), (1, true), (2, true), (4, true), (5, true), (3, false), (6, false), (7, false), (8, true), (9, true)] (Stp I_b w_i.drew I_b) MX (by kernel_rfl) (Stp.refl _ _) ?_
      have hz := Stp.refl I_b w_i.drew
      refine evh0 (rn_field rfl rfl FO29_1) ?_
      refine evh (fun w' hw => rn_load rfl rfl (run_loadVar1 T27 ((a_9.step hw).2 1 _ rfl))) ?_
      refine evh0 (rn_field rfl rfl FO29_1) ?_
      refine evh (fun w' hw => rn_load rfl rfl (run_loadVar1 T27 ((a_d.step hw).2 1 _ rfl))) ?_
      obtain ⟨x_j, q_k, h⟩ := bind_some h
      refine ev_call rfl rfl C67 (((integer_trim_ok n) _ _  x_0.Mag v_1 r_2 hp.imm _ q_k).mono ?_)
      rintro _ w_l ⟨I_m, v_n, hv, hq, r_o⟩
      replace hv := hv.symm
      subst hv
      have hs := hq.st
      have hp := hp.join0 hq
      replace hz := hz.trans hs
      replace r_5 := r_5.step hs
      refine ⟨Stp I_m w_l I_m, Stp.refl _ _, fun x hx => hz.held hx, ?_⟩
      have hz := Stp.refl I_m w_l
      obtain ⟨x_p, q_q, h⟩ := bind_some h
      refine ev_call rfl rfl C67 (((integer_trim_ok n) _ _  x_3.Mag v_4 r_5 hp.imm _ q_q).mono ?_)
      rintro _ w_r ⟨I_s, v_t, hv, hq, r_u⟩
      replace hv := hv.symm
      subst hv
      have hs := hq.st
      have hp := hp.join0 hq
      replace hz := hz.trans hs
      replace r_o := r_o.step hs
      refine ⟨Stp I_s w_r I_s, Stp.refl _ _, fun x hx => hz.held hx, ?_⟩
      have hz := Stp.refl I_s w_r
      obtain ⟨x_v, q_w, h⟩ := bind_some h
      refine ev_call rfl rfl C69 (((integer_compare_ok n) _ _  x_j v_n r_o x_p v_t r_u hp.imm _ q_w).mono ?_)
      rintro _ w_x ⟨rfl, hc⟩
      have hs := hp.stp hc
      replace hp := hp.ext hc
      replace hz := hz.trans hs
      refine ⟨Stp I_s w_x I_s, Stp.refl _ _, fun x hx => hz.held hx, ?_⟩
      have hz := Stp.refl I_s w_x
      apply go
      obtain rfl := Option.some.inj h
      exact ⟨rfl, hp.ch⟩

end Go.Proofs.YtcdboppghnchpaaDoor

namespace Go.Proofs.YtcdboppghnchpaaDoor
open Go Go.Proofs.YtcdboppghnchpaaDoor.Gw Go.RowKit
set_option linter.unusedVariables false
attribute [local irreducible] Ev EvQ EvS EvH
def rational_one_S (f : Int_2 → Option Bool) : Prop := ∀ (w0 : World) (I0 : Nat → Prop) (x_0 : Int_2) (v_1 : Value) (r_2 : RepS (dI .u32) w0 I0 v_1 x_0.Mag) (hI : ∀ g, I0 g → g < w0.heap.size) (r : Bool), f x_0 = some r →
    Ret Tryd.prog 53 #[(.agg #[(.bool x_0.Neg), v_1])] w0 fun v w1 => v = (.bool r) ∧ Ch [] w0 w1
theorem rational_one_ok (n : Nat) : rational_one_S (rational_one n) := by
  intro w0 I0 x_0 v_1 r_2 hI r h
  unfold rational_one at h
  refine enter Tryd.func53 rfl (Nat.le_of_ble_eq_true rfl) ?_
  have hp : Hp ⟨w0, I0, []⟩ I0 [] w0 := Hp.start hI
  apply go
  apply go
  refine ev_boxI hp rfl rfl ?_
  intro p_3 I_4 w_5 hp hs a_6
  replace r_2 := r_2.step hs
  apply go
  have hs := hp.stp (Ch.drew [] w_5)
  have hp := hp.drew
  replace a_6 := a_6.step hs
  replace r_2 := r_2.step hs
  refine W.held [(0, true), (1, false), (2, false), (3, true), (4, true)] (Stp I_4 w_5.drew I_4) MX (by kernel_rfl) (Stp.refl _ _) ?_
  have hz := Stp.refl I_4 w_5.drew
  refine evh (fun w' hw => rn_load rfl rfl (run_loadVarA T29 rfl (a_6.step hw))) ?_
  obtain ⟨x_7, q_8, h⟩ := bind_some h
  refine ev_call rfl rfl C29 (((integer_Of_ok n) _ _  1 hp.imm _ q_8).mono ?_)
  rintro _ w_9 ⟨I_a, v_b, hv, hq, r_c⟩
  replace hv := hv.symm
  subst hv
  have hs := hq.st
  have hp := hp.join0 hq
  replace hz := hz.trans hs
  replace r_2 := r_2.step hs
  refine ⟨Stp I_a w_9 I_a, Stp.refl _ _, fun x hx => hz.held hx, ?_⟩
  have hz := Stp.refl I_a w_9
  obtain ⟨x_d, q_e, h⟩ := bind_some h
  refine ev_call rfl rfl C86 (((integer_Cmp_ok n) _ _  (Int_2.mk x_0.Neg x_0.Mag) v_1 r_2 x_7 v_b r_c hp.imm _ q_e).mono ?_)
  rintro _ w_f ⟨rfl, hc⟩
  have hs := hp.stp hc
  replace hp := hp.ext hc
  replace hz := hz.trans hs
  refine ⟨Stp I_a w_f I_a, Stp.refl _ _, fun x hx => hz.held hx, ?_⟩
  have hz := Stp.refl I_a w_f
  apply go
  obtain rfl := Option.some.inj h
  exact ⟨rfl, hp.ch⟩

end Go.Proofs.YtcdboppghnchpaaDoor

namespace Go.Proofs.YtcdboppghnchpaaDoor
open Go Go.Proofs.YtcdboppghnchpaaDoor.Gw Go.RowKit
set_option linter.unusedVariables false
attribute [local irreducible] Ev EvQ EvS EvH
def strconv_FormatUint_S (f : Int → Int → Option ByteArray) : Prop := ∀ (w0 : World) (I0 : Nat → Prop) (tb : Tb w0 I0 2 .u64 pow10) (x_0 : Int) (x_1 : Int) (hI : ∀ g, I0 g → g < w0.heap.size) (r : ByteArray), f x_0 x_1 = some r →
    Ret Tryd.prog 89 #[(.int .u64 x_0), (.int .i64 x_1)] w0 fun v w1 => v = (.string r) ∧ Ch [] w0 w1

open Go.Sort in
theorem fmt_zero (w : World) (nd : Nat) (hs : nd ≤ 24) : Holds (fun (b : UInt8) => Value.int .u8 (b.toNat : Int)) (w.alloc (.cells Lib.zeros24 181)) w.heap.size 0 (Array.replicate nd (0 : UInt8)) := fun j hj => by
  have hj' : j < nd := by simpa using hj
  refine ⟨?_, World.frozen?_alloc_new _ _ _ _⟩
  rw [World.cell?_alloc_new, Lib.zeros24_at _ (by omega), getElem!_pos _ j hj]
  simp
open Go.Sort in
theorem fmt_below (w : World) (o : Obj) (dk : Array UInt8) (k : Nat) : Below w.heap.size w ((putRow (fun (b : UInt8) => Value.int .u8 (b.toNat : Int)) (w.alloc o) w.heap.size 0 dk).drewN k) := by
  have h1 : Below w.heap.size w (putRow (fun (b : UInt8) => Value.int .u8 (b.toNat : Int)) (w.alloc o) w.heap.size 0 dk) := by
    refine ⟨rfl, rfl, rfl, by rw [size_putRow]; exact (Below.alloc (Below.refl w.heap.size w) (Nat.le_refl _) o).size, fun g hg => ?_⟩
    rw [← Below.heap_alloc w o g hg]
    unfold putRow mapBlock
    dsimp only
    rw [Array.getElem?_modify, if_neg (by omega)]
  refine ⟨?_, ?_, ?_, ?_, ?_⟩
  · exact h1.os
  · exact h1.tape
  · exact h1.output
  · exact h1.size
  · exact h1.block
set_option maxHeartbeats 6400000 in
set_option maxRecDepth 100000 in
theorem fmt_big (u : Nat) (h100 : 100 ≤ u) (hu64 : u < 18446744073709551616) (w : World) (htab : Lib.TabIs Tryd.prog w "internal/strconv.uint64pow10" .u64 Lib.pow10Tab) :
    Calls Tryd.prog 105 #[.int .u64 u, .int .i64 10] w fun e w' => e = .returned (.string ⟨(Lib.decDigits u).toArray⟩) ∧ Below w.heap.size w w' := by
  have hu1 : 1 ≤ u := by omega
  have hnd20 : Lib.nDigits u ≤ 20 := by have := Lib.numDigits_eq u hu1 hu64; split at this <;> omega
  have hb3 : Lib.nDigits u ≤ 24 := by omega
  have hal : Tryd.prog.arrayLen 181 = 24 := by simp [Program.arrayLen, Tryd.underlying181]
  have hsl : ∀ W, (Instr.sliceAt 181 (.pointer (some ⟨w.heap.size, 0, none⟩)) none (some (.int .i64 (Lib.nDigits u : Int))) none).run Tryd.prog W = .ok (.slice (some ⟨w.heap.size, 0, none⟩) (Lib.nDigits u) 24) W := fun W => by
    rw [run_sliceAt_array_h W 181 ⟨w.heap.size, 0, none⟩ (by simp [Program.arrayLen, Program.elem, Tryd.underlying181]) .i64 (Lib.nDigits u : Int) (by omega) (by rw [hal]; omega)]
    go_simp
  have hH0 := fmt_zero w (Lib.nDigits u) (by omega)
  have hfmt := sh_internal_strconv_formatBase10 w.heap.size 0 24 u (Array.replicate (Lib.nDigits u) 0) (w.alloc (.cells Lib.zeros24 181)) hH0 (by rw [Array.size_replicate]; exact Lib.lt_pow_nDigits u) hu64 (by rw [Array.size_replicate]; omega)
  rw [Array.size_replicate] at hfmt
  have HH0 := Lib.hid hH0
  clear hH0 hal
  go_enter Tryd.func105, Tryd.ntmps105
  go_wp2_with (first
    | (go_at_call 118; refine (sh_internal_strconv_numDigits u hu1 hu64 _ (Lib.tabIs_alloc htab _)).mono ?_; rintro e w' ⟨rfl, rfl⟩))
  go_at_call 119
  refine hfmt.mono ?_
  rintro e w' ⟨rfl, k, v', dk, rfl, hF⟩
  have hcv : (convert 101 9 (.slice (some ⟨w.heap.size, 0, none⟩) (Lib.nDigits u) 24)).run Tryd.prog ((Go.Sort.putRow (fun (b : UInt8) => Value.int .u8 (b.toNat : Int)) (w.alloc (.cells Lib.zeros24 181)) w.heap.size 0 dk).drewN k) = .ok (.string ⟨(Lib.decDigits u).toArray⟩) ((Go.Sort.putRow (fun (b : UInt8) => Value.int .u8 (b.toNat : Int)) (w.alloc (.cells Lib.zeros24 181)) w.heap.size 0 dk).drewN k) := by
    have h := run_convert_bytes_back (P := Tryd.prog) ((Go.Sort.putRow (fun (b : UInt8) => Value.int .u8 (b.toNat : Int)) (w.alloc (.cells Lib.zeros24 181)) w.heap.size 0 dk).drewN k) 101 9 5 ⟨w.heap.size, 0, none⟩ 24 (Lib.decDigits u) Tryd.underlying101 Tryd.underlying5 Tryd.underlying9 (fun j hj => by
      rw [Lib.row_is_numeral hF j hj, Lib.add_plain, World.cell?_drewN]
      exact Go.Sort.cell?_putRow (fun (b : UInt8) => Value.int .u8 (b.toNat : Int)) _ w.heap.size 0 _ dk HH0.out (by rw [hF.size, Array.size_replicate]) j (by rw [hF.size]; rw [Lib.decDigits_length] at hj; exact hj))
    rw [Lib.decDigits_length] at h
    exact h
  go_wp2
  go_ret
  exact ⟨rfl, fmt_below w _ dk k⟩
theorem fmt_inner (u : Nat) (hu64 : u < 18446744073709551616) (w : World) (htab : Lib.TabIs Tryd.prog w "internal/strconv.uint64pow10" .u64 Lib.pow10Tab) :
    Calls Tryd.prog 105 #[.int .u64 u, .int .i64 10] w fun e w' => e = .returned (.string ⟨(Lib.decDigits u).toArray⟩) ∧ Below w.heap.size w w' := by
  by_cases h100 : u < 100
  · go_enter Tryd.func105, Tryd.ntmps105
    go_wp2_with (first
      | (go_at_call 117; refine (sh_internal_strconv_small u h100 _).mono ?_; rintro e w' ⟨rfl, rfl⟩))
    go_ret
    exact ⟨rfl, Below.refl _ _⟩
  · exact fmt_big u (by omega) hu64 w htab
theorem strconv_FormatUint_ok (n : Nat) : strconv_FormatUint_S (strconv_FormatUint n) := by
  intro w0 I0 tb x b hI r h
  obtain ⟨rfl, ⟨u, rfl, hu⟩, rfl⟩ := fmtU_some h
  have htab : Lib.TabIs Tryd.prog w0 "internal/strconv.uint64pow10" .u64 Lib.pow10Tab := tb.tab (zs := Lib.pow10Tab) (by kernel_rfl)
  apply ret_below
  go_enter Tryd.func89, Tryd.ntmps89
  go_wp2_with (first
    | (go_at_call 105; refine (fmt_inner u hu _ htab).mono ?_; rintro e w' ⟨rfl, hb⟩))
  go_ret
  exact ⟨rfl, hb⟩

end Go.Proofs.YtcdboppghnchpaaDoor

namespace Go.Proofs.YtcdboppghnchpaaDoor
open Go Go.Proofs.YtcdboppghnchpaaDoor.Gw Go.RowKit
set_option linter.unusedVariables false
attribute [local irreducible] Ev EvQ EvS EvH
def strings_Repeat_S (f : ByteArray → Int → Option ByteArray) : Prop := ∀ (w0 : World) (I0 : Nat → Prop) (x_0 : ByteArray) (x_1 : Int) (hI : ∀ g, I0 g → g < w0.heap.size) (r : ByteArray), f x_0 x_1 = some r →
    Ret Tryd.prog 90 #[(.string x_0), (.int .i64 x_1)] w0 fun v w1 => v = (.string r) ∧ Ch [] w0 w1

theorem strings_Repeat_ok (n : Nat) : strings_Repeat_S (strings_Repeat n) := by
  intro w0 I0 s c hI r h
  obtain ⟨⟨k, rfl, hk⟩, hs, rfl⟩ := repS_some h
  have hm : s.size * k ≤ 1000000 * 1000000 := Nat.mul_le_mul hs hk
  exact ret_below (sh_strings_Repeat s k w0 (by omega) (by omega))

end Go.Proofs.YtcdboppghnchpaaDoor

namespace Go.Proofs.YtcdboppghnchpaaDoor
open Go Go.Proofs.YtcdboppghnchpaaDoor.Gw Go.RowKit
set_option linter.unusedVariables false
attribute [local irreducible] Ev EvQ EvS EvH vch
def slices_Reversestring_string__S (f : (List ByteArray) → Option (List ByteArray)) : Prop := ∀ (w0 : World) (I0 : Nat → Prop) (x_0 : (List ByteArray)) (v_1 : Value) (e_2 : Ent) (o_3 : OwnS dS 9 w0 I0 v_1 e_2 x_0) (hp : Hp ⟨w0, I0, (blk e_2)⟩ I0 [e_2] w0) (r : (List ByteArray)), f x_0 = some r →
    Ret Tryd.prog 91 #[v_1] w0 fun v w1 => ∃ (I1 : Nat → Prop) (u_4 : Ent), v = (.tuple #[]) ∧ Hp ⟨w0, I0, (blk e_2)⟩ I1 [u_4] w1 ∧ OwnS dS 9 w1 I1 v_1 u_4 r ∧ blk u_4 = blk e_2
theorem slices_Reversestring_string__ok (n : Nat) : slices_Reversestring_string__S (slices_Reversestring_string_ n) := by
  intro w0 I0 x_0 v_1 e_2 o_3 hp r h
  unfold slices_Reversestring_string_ at h
  refine enter Tryd.func91 rfl (Nat.le_of_ble_eq_true rfl) ?_
  have o21607z := o_3
  apply go
  apply go
  refine ev0 (x_lenO rfl rfl Tryd.underlying157 o_3) ?_
  apply go
  refine W.loop h (γ := Ent) (fun s g => [(0, v_1), (2, (.int .i64 (s.2.1))), (3, (.int .i64 (s.2.2)))]) (fun s g w' => Hp ⟨w0, I0, (blk e_2)⟩ I0 [(g)] w' ∧ OwnS dS 9 w' I0 v_1 (g) (s.1)) e_2 (.c rfl (.c rfl (.c rfl .n))) ⟨hp, o_3⟩ ?_
  rintro ⟨x_4, x_5, x_6⟩ e_7 w_8 y_9 ⟨hp, o_a⟩ q_b q_c
  unfold slices_Reversestring_string__L0 at q_b
  apply go
  apply go
  apply go
  apply go
  refine sel_of (fun hc => ?_) (fun hc => ?_)
  ·
    have q_b := cond_t q_b hc
    apply go
    obtain ⟨y_d, q_e, q_b⟩ := bind_some q_b
    refine W.cut (γ := ((List ByteArray) × Ent)) (fun g => [(0, v_1), (2, (.int .i64 x_5)), (3, (.int .i64 x_6))]) (fun g w' => y_d = (g.1) ∧ Hp ⟨w0, I0, (blk e_2)⟩ I0 [(g.2)] w' ∧ OwnS dS 9 w' I0 v_1 (g.2) (g.1)) ?_ ?_
    ·
      apply go
      have hs := hp.stp (Ch.drew [] w_8)
      have hp := hp.drew
      replace o_a := o_a.step hs
      refine W.heldG (.q 0 (.q 1 (.q 2 (.q 3 (.q 4 (.q 5 (.q 6 (.q 8 (.q 9 (.q 10 (.l 7 (.l 11 (.q 12 (.l 13 (.q 14 (.l 15 .done .no)) .no)) .no) (.l 11 (.l 7 (.q 12 (.l 13 (.q 14 (.l 15 .done .no)) .no)) .no) .no)))))))))))) (SK (Stp I0 w_8.drew I0) [] []) MX (by kernel_rfl) ⟨Stp.refl _ _, kp_nil⟩ ?_
      have hz := Stp.refl I0 w_8.drew
      refine ⟨SK.same (by kernel_rfl), ?_⟩
      refine ⟨SK.same (by kernel_rfl), ?_⟩
      refine ⟨SK.same (by kernel_rfl), ?_⟩
      refine ⟨SK.same (by kernel_rfl), ?_⟩
      refine ⟨SK.same (by kernel_rfl), ?_⟩
      refine ⟨SK.same (by kernel_rfl), ?_⟩
      refine ⟨SK.same (by kernel_rfl), ?_⟩
      obtain ⟨x_f, q_g, q_e⟩ := bind_some q_e
      refine evh_indexO rfl rfl rfl Tryd.underlying157 T9 o_a q_g ?_
      intro g_h c_i h_j d_k l_l
      refine ⟨SK.same (by kernel_rfl), ?_⟩
      refine ⟨SK.same (by kernel_rfl), ?_⟩
      refine ⟨SK.same (by kernel_rfl), ?_⟩
      obtain ⟨x_m, q_n, q_e⟩ := bind_some q_e
      refine evh_indexO rfl rfl rfl Tryd.underlying157 T9 o_a q_n ?_
      intro g_o c_p h_q d_r l_s
      refine ⟨?_, ?_⟩
      ·
        refine ev (rn_load rfl rfl (run_loadVar1 T9 (hp.cellE (i := 0) rfl h_j d_k (j := 0) rfl))) ?_
        refine ⟨SK (Stp I0 w_8.drew I0) [] [], ⟨Stp.refl _ _, kp_nil⟩, fun L x h => ⟨hz.held h.1, h.2⟩, ?_⟩
        have hz := Stp.refl I0 w_8.drew
        refine ⟨?_, trivial⟩
        refine ev (rn_load rfl rfl (run_loadVar1 T9 (hp.cellE (i := 0) rfl h_q d_r (j := 0) rfl))) ?_
        refine ⟨SK (Stp I0 w_8.drew I0) [] [], ⟨Stp.refl _ _, kp_nil⟩, fun L x h => ⟨hz.held h.1, h.2⟩, ?_⟩
        have hz := Stp.refl I0 w_8.drew
        refine ⟨SK.same (by kernel_rfl), ?_⟩
        obtain ⟨x_t, q_u, q_e⟩ := bind_some q_e
        refine evh_indexO rfl rfl rfl Tryd.underlying157 T9 o_a q_u ?_
        intro g_v c_w h_x d_y l_z
        refine ⟨?_, trivial⟩
        refine ev_storeE hp (i := 0) rfl h_x rfl rfl rfl T9 o_a q_u (x0 := x_f) rfl ?_
        intro e_10 w_11 hp hs o_12
        replace hz := hz.trans hs
        refine ⟨SK (Stp I0 w_11 I0) [] [], ⟨Stp.refl _ _, kp_nil⟩, fun L x h => ⟨hz.held h.1, h.2⟩, ?_⟩
        have hz := Stp.refl I0 w_11
        refine ⟨SK.same (by kernel_rfl), ?_⟩
        obtain ⟨x_13, q_14, q_e⟩ := bind_some q_e
        refine evh_indexO rfl rfl rfl Tryd.underlying157 T9 o_12 q_14 ?_
        intro g_15 c_16 h_17 d_18 l_19
        refine ⟨?_, trivial⟩
        refine ev_storeE hp (i := 0) rfl h_17 rfl rfl rfl T9 o_12 q_14 (x0 := x_m) rfl ?_
        intro e_1a w_1b hp hs o_1c
        replace hz := hz.trans hs
        refine ⟨SK (Stp I0 w_1b I0) [] [], ⟨Stp.refl _ _, kp_nil⟩, fun L x h => ⟨hz.held h.1, h.2⟩, ?_⟩
        have hz := Stp.refl I0 w_1b
        obtain rfl := Option.some.inj q_e
        exact ⟨((upd (upd x_4 x_5 x_f) x_6 x_m), e_1a), (.c rfl (.c rfl (.c rfl .n))), rfl, hp, o_1c⟩
      refine ⟨?_, trivial⟩
      refine ev (rn_load rfl rfl (run_loadVar1 T9 (hp.cellE (i := 0) rfl h_q d_r (j := 0) rfl))) ?_
      refine ⟨SK (Stp I0 w_8.drew I0) [] [], ⟨Stp.refl _ _, kp_nil⟩, fun L x h => ⟨hz.held h.1, h.2⟩, ?_⟩
      have hz := Stp.refl I0 w_8.drew
      refine ⟨?_, trivial⟩
      refine ev (rn_load rfl rfl (run_loadVar1 T9 (hp.cellE (i := 0) rfl h_j d_k (j := 0) rfl))) ?_
      refine ⟨SK (Stp I0 w_8.drew I0) [] [], ⟨Stp.refl _ _, kp_nil⟩, fun L x h => ⟨hz.held h.1, h.2⟩, ?_⟩
      have hz := Stp.refl I0 w_8.drew
      refine ⟨SK.same (by kernel_rfl), ?_⟩
      obtain ⟨x_1d, q_1e, q_e⟩ := bind_some q_e
      refine evh_indexO rfl rfl rfl Tryd.underlying157 T9 o_a q_1e ?_
      intro g_1f c_1g h_1h d_1i l_1j
      refine ⟨?_, trivial⟩
      refine ev_storeE hp (i := 0) rfl h_1h rfl rfl rfl T9 o_a q_1e (x0 := x_f) rfl ?_
      intro e_1k w_1l hp hs o_1m
      replace hz := hz.trans hs
      refine ⟨SK (Stp I0 w_1l I0) [] [], ⟨Stp.refl _ _, kp_nil⟩, fun L x h => ⟨hz.held h.1, h.2⟩, ?_⟩
      have hz := Stp.refl I0 w_1l
      refine ⟨SK.same (by kernel_rfl), ?_⟩
      obtain ⟨x_1n, q_1o, q_e⟩ := bind_some q_e
      refine evh_indexO rfl rfl rfl Tryd.underlying157 T9 o_1m q_1o ?_
      intro g_1p c_1q h_1r d_1s l_1t
      refine ⟨?_, trivial⟩
      refine ev_storeE hp (i := 0) rfl h_1r rfl rfl rfl T9 o_1m q_1o (x0 := x_m) rfl ?_
      intro e_1u w_1v hp hs o_1w
      replace hz := hz.trans hs
      refine ⟨SK (Stp I0 w_1v I0) [] [], ⟨Stp.refl _ _, kp_nil⟩, fun L x h => ⟨hz.held h.1, h.2⟩, ?_⟩
      have hz := Stp.refl I0 w_1v
      obtain rfl := Option.some.inj q_e
      exact ⟨((upd (upd x_4 x_5 x_f) x_6 x_m), e_1u), (.c rfl (.c rfl (.c rfl .n))), rfl, hp, o_1w⟩
    ·
      rintro ⟨x_1x, e_1y⟩ w_1z ⟨hy, hp, o_20⟩
      replace hy := hy.symm
      subst hy
      apply go
      exact ⟨_, (Option.some.inj q_b).symm, e_1y, (.c rfl (.c rfl (.c rfl .n))), ⟨hp, o_20⟩⟩
  ·
    have q_b := cond_f q_b hc
    apply go
    have q_21 := congrArg some (q_c _ (Option.some.inj q_b).symm)
    obtain rfl := Option.some.inj q_21
    exact ⟨I0, e_7, rfl, hp, o_a, (OwnS.blk o21607z o_a)⟩

end Go.Proofs.YtcdboppghnchpaaDoor

namespace Go.Proofs.YtcdboppghnchpaaDoor
open Go Go.Proofs.YtcdboppghnchpaaDoor.Gw Go.RowKit
set_option linter.unusedVariables false
attribute [local irreducible] Ev EvQ EvS EvH
def strings_Join_S (f : (List ByteArray) → ByteArray → Option ByteArray) : Prop := ∀ (w0 : World) (I0 : Nat → Prop) (x_0 : (List ByteArray)) (v_1 : Value) (r_2 : RepS dS w0 I0 v_1 x_0) (x_3 : ByteArray) (hI : ∀ g, I0 g → g < w0.heap.size) (r : ByteArray), f x_0 x_3 = some r →
    Ret Tryd.prog 92 #[v_1, (.string x_3)] w0 fun v w1 => v = (.string r) ∧ Ch [] w0 w1

theorem strings_Join_ok (n : Nat) : strings_Join_S (strings_Join n) := by
  intro w0 I0 xs v hr sep hI r h
  obtain ⟨hN, hL, rfl⟩ := joinS_some h
  rcases Nat.eq_zero_or_pos xs.length with h0 | h0
  · obtain rfl := List.eq_nil_of_length_eq_zero h0
    obtain ⟨a, c, rfl, _, _⟩ := hr
    exact ret_same (sh_strings_Join_none a c sep w0)
  · obtain ⟨b, o, c, rfl, hc, hb, hcells⟩ := hr.strs h0
    exact ret_below (sh_strings_Join b o c xs sep w0 hcells (hI b hb) hN hc hL)

end Go.Proofs.YtcdboppghnchpaaDoor

namespace Go.Proofs.YtcdboppghnchpaaDoor
open Go Go.Proofs.YtcdboppghnchpaaDoor.Gw Go.RowKit
set_option linter.unusedVariables false
attribute [local irreducible] Ev EvQ EvS EvH
def integer_Text_S (f : Int_2 → Option ByteArray) : Prop := ∀ (w0 : World) (I0 : Nat → Prop) (tb : Tb w0 I0 2 .u64 pow10) (x_0 : Int_2) (v_1 : Value) (r_2 : RepS (dI .u32) w0 I0 v_1 x_0.Mag) (hI : ∀ g, I0 g → g < w0.heap.size) (r : ByteArray), f x_0 = some r →
    Ret Tryd.prog 54 #[(.agg #[(.bool x_0.Neg), v_1])] w0 fun v w1 => v = (.string r) ∧ Ch [] w0 w1
theorem integer_Text_ok (n : Nat) : integer_Text_S (integer_Text n) := by
  intro w0 I0 tb x_0 v_1 r_2 hI r h
  unfold integer_Text at h
  refine enter Tryd.func54 rfl (Nat.le_of_ble_eq_true rfl) ?_
  have hp : Hp ⟨w0, I0, []⟩ I0 [] w0 := Hp.start hI
  apply go
  apply go
  refine ev_boxI hp rfl rfl ?_
  intro p_3 I_4 w_5 hp hs a_6
  replace r_2 := r_2.step hs
  replace tb := tb.step hs
  apply go
  apply go
  refine ev0 (rn_field rfl rfl FO29_1) ?_
  refine ev (rn_load rfl rfl (run_loadVar1 T27 (a_6.2 1 _ rfl))) ?_
  obtain ⟨x_7, q_8, h⟩ := bind_some h
  refine ev_call rfl rfl C67 (((integer_trim_ok n) _ _  x_0.Mag v_1 r_2 hp.imm _ q_8).mono ?_)
  rintro _ w_9 ⟨I_a, v_b, hv, hq, r_c⟩
  replace hv := hv.symm
  subst hv
  have hs := hq.st
  have hp := hp.join0 hq
  replace a_6 := a_6.step hs
  replace r_2 := r_2.step hs
  replace tb := tb.step hs
  obtain ⟨x_d, q_e, h⟩ := bind_some h
  refine ev_call rfl rfl C87 (((slices_Cloneuint32_uint32__ok n) _ _  x_7 v_b r_c hp.imm _ q_e).mono ?_)
  rintro _ w_f ⟨I_g, v_h, hv, hq, r_i⟩
  replace hv := hv.symm
  subst hv
  have hs := hq.st
  have hp := hp.join0 hq
  replace a_6 := a_6.step hs
  replace r_2 := r_2.step hs
  replace tb := tb.step hs
  apply go
  apply go
  apply go
  refine ev0 (rn_len rfl rfl Tryd.underlying27 r_i) ?_
  apply go
  refine sel_of (fun hc => ?_) (fun hc => ?_)
  ·
    have h := cond_t h hc
    apply go
    apply go
    apply go
    obtain rfl := Option.some.inj h
    exact ⟨rfl, hp.ch⟩
  ·
    have h := cond_f h hc
    apply go
    apply go
    apply go
    obtain ⟨y_j, q_k, h⟩ := bind_some h
    refine W.cut (γ := ((List ByteArray) × Value × Ent × (Nat → Prop))) (fun g => [(1, (.pointer (some (p_3)))), (4, (g.2.1))]) (fun g w' => y_j = (g.1) ∧ Hp ⟨w0, I0, []⟩ (g.2.2.2) [(g.2.2.1)] w' ∧ RepS (dI .u32) w' (g.2.2.2) v_1 x_0.Mag ∧ At w' (g.2.2.2) p_3 [(.bool x_0.Neg), v_1] ∧ OwnS dS 9 w' (g.2.2.2) (g.2.1) (g.2.2.1) (g.1) ∧ Tb w' (g.2.2.2) 2 .u64 pow10) ?_ ?_
    ·
      apply go
      have hp := hp.none_
      have o_l := OwnS.nil dS 9 w_f I_g
      refine W.loop q_k (γ := (Value × Value × Ent × (Nat → Prop))) (fun s g => [(1, (.pointer (some (p_3)))), (3, (g.1)), (4, (g.2.1))]) (fun s g w' => Hp ⟨w0, I0, []⟩ (g.2.2.2) [(g.2.2.1)] w' ∧ RepS (dI .u32) w' (g.2.2.2) v_1 x_0.Mag ∧ At w' (g.2.2.2) p_3 [(.bool x_0.Neg), v_1] ∧ RepS (dI .u32) w' (g.2.2.2) (g.1) (s.1) ∧ OwnS dS 9 w' (g.2.2.2) (g.2.1) (g.2.2.1) (s.2) ∧ Tb w' (g.2.2.2) 2 .u64 pow10) (v_h, (.slice none 0 0), none, I_g) (.c rfl (.c rfl (.c rfl .n))) ⟨hp, r_2, a_6, r_i, o_l, tb⟩ ?_
      rintro ⟨x_m, x_n⟩ ⟨v_o, v_p, e_q, I_r⟩ w_s y_t ⟨hp, r_2, a_6, r_u, o_v, tb⟩ q_w q_x
      unfold integer_Text_L1 at q_w
      apply go
      apply go
      apply go
      refine ev0 (rn_len rfl rfl Tryd.underlying27 r_u) ?_
      apply go
      refine sel_of (fun hc => ?_) (fun hc => ?_)
      ·
        have q_w := cond_t q_w hc
        apply go
        apply go
        apply go
        apply go
        apply go
        apply go
        obtain ⟨⟨x_y, x_z⟩, q_10, q_w⟩ := bind_some q_w
        refine ev_call rfl rfl C88 (((integer_short_ok n) _ _  x_m v_o r_u 1000000000 hp.imm _ q_10).mono ?_)
        rintro _ w_11 ⟨I_12, v_13, hv, hq, r_14⟩
        replace hv := hv.symm
        subst hv
        have hs := hq.st
        have hp := hp.join0 hq
        replace a_6 := a_6.step hs
        replace r_2 := r_2.step hs
        replace o_v := o_v.step hs
        replace tb := tb.step hs
        apply go
        apply go
        obtain ⟨x_15, q_16, q_w⟩ := bind_some q_w
        refine ev_call rfl rfl C67 (((integer_trim_ok n) _ _  x_y v_13 r_14 hp.imm _ q_16).mono ?_)
        rintro _ w_17 ⟨I_18, v_19, hv, hq, r_1a⟩
        replace hv := hv.symm
        subst hv
        have hs := hq.st
        have hp := hp.join0 hq
        replace a_6 := a_6.step hs
        replace r_2 := r_2.step hs
        replace o_v := o_v.step hs
        replace tb := tb.step hs
        apply go
        apply go
        refine ev0 (rn_conv rfl rfl U131 Tryd.underlying129) ?_
        obtain ⟨x_1b, q_1c, q_w⟩ := bind_some q_w
        refine ev_call rfl rfl C89 (((strconv_FormatUint_ok n) _ _ tb (IntKind.u64.wrap x_z) 10 hp.imm _ q_1c).mono ?_)
        rintro _ w_1d ⟨rfl, hc⟩
        have hs := hp.stp hc
        replace hp := hp.ext hc
        replace a_6 := a_6.step hs
        replace r_2 := r_2.step hs
        replace o_v := o_v.step hs
        replace r_1a := r_1a.step hs
        replace tb := tb.step hs
        obtain ⟨y_1e, q_1f, q_w⟩ := bind_some q_w
        refine W.cut (γ := ByteArray) (fun g => [(1, (.pointer (some (p_3)))), (3, v_19), (4, v_p), (6, (.string (g)))]) (fun g w' => y_1e = (g) ∧ Hp ⟨w0, I0, []⟩ I_18 [e_q] w' ∧ RepS (dI .u32) w' I_18 v_1 x_0.Mag ∧ At w' I_18 p_3 [(.bool x_0.Neg), v_1] ∧ RepS (dI .u32) w' I_18 v_19 x_15 ∧ OwnS dS 9 w' I_18 v_p e_q x_n ∧ Tb w' I_18 2 .u64 pow10) ?_ ?_
        ·
          apply go
          apply go
          refine ev0 (rn_len rfl rfl Tryd.underlying27 r_1a) ?_
          apply go
          refine sel_of (fun hc => ?_) (fun hc => ?_)
          ·
            have q_1f := cond_t q_1f hc
            apply go
            refine ev0 (rn_lenS rfl rfl Tryd.underlying9) ?_
            obtain ⟨x_1g, q_1h, q_1f⟩ := bind_some q_1f
            refine ev_call rfl rfl C90 (((strings_Repeat_ok n) _ _  (ByteArray.mk #[48]) (IntKind.i64.wrap (9 - (x_1b.size : Int))) hp.imm _ q_1h).mono ?_)
            rintro _ w_1i ⟨rfl, hc⟩
            have hs := hp.stp hc
            replace hp := hp.ext hc
            replace a_6 := a_6.step hs
            replace r_2 := r_2.step hs
            replace o_v := o_v.step hs
            replace r_1a := r_1a.step hs
            replace tb := tb.step hs
            obtain ⟨q_1j, _, q_1f⟩ := need_some q_1f
            refine ⟨q_1j, ?_⟩
            obtain rfl := Option.some.inj q_1f
            exact ⟨(x_1g ++ x_1b), (.c rfl (.c rfl (.c rfl (.c rfl .n)))), rfl, hp, r_2, a_6, r_1a, o_v, tb⟩
          ·
            have q_1f := cond_f q_1f hc
            apply go
            obtain rfl := Option.some.inj q_1f
            exact ⟨x_1b, (.c rfl (.c rfl (.c rfl (.c rfl .n)))), rfl, hp, r_2, a_6, r_1a, o_v, tb⟩
        ·
          rintro x_1k w_1l ⟨hy, hp, r_2, a_6, r_1a, o_v, tb⟩
          replace hy := hy.symm
          subst hy
          apply go
          refine ev_litN (d := dS) (xs := [x_1k]) (cs := [(.string x_1k)]) hp rfl rfl Tryd.underlying157 T9 (by decide) rfl rfl (Elems.cons (d := dS) (xs := _) rfl (Elems.nil _ _ _ _)) ?_
          intro v_1m I_1n w_1o hp hs r_1p
          replace a_6 := a_6.step hs
          replace r_2 := r_2.step hs
          replace r_1a := r_1a.step hs
          replace o_v := o_v.step hs
          replace tb := tb.step hs
          obtain ⟨x_1q, q_1r, q_w⟩ := bind_some q_w
          refine ev_append hp (i := 0) rfl rfl rfl rfl Tryd.underlying157 T9 rfl rfl o_v r_1p q_1r ?_
          rintro v_1s e_1t w_1u hp hs o_1v
          replace a_6 := a_6.step hs
          replace r_2 := r_2.step hs
          replace r_1a := r_1a.step hs
          replace tb := tb.step hs
          exact ⟨_, (Option.some.inj q_w).symm, (v_19, v_1s, e_1t, I_1n), (.c rfl (.c rfl (.c rfl .n))), ⟨hp, r_2, a_6, r_1a, o_1v, tb⟩⟩
      ·
        have q_w := cond_f q_w hc
        apply go
        have q_1w := congrArg some (q_x _ (Option.some.inj q_w).symm)
        obtain rfl := Option.some.inj q_1w
        exact ⟨(x_n, v_p, e_q, I_r), (.c rfl (.c rfl .n)), rfl, hp, r_2, a_6, o_v, tb⟩
    ·
      rintro ⟨x_1x, v_1y, e_1z, I_20⟩ w_21 ⟨hy, hp, r_2, a_6, o_22, tb⟩
      replace hy := hy.symm
      subst hy
      obtain ⟨y_23, q_24, h⟩ := bind_some h
      refine W.cut (γ := ((List ByteArray) × Value × Ent × (Nat → Prop))) (fun g => [(4, (g.2.1))]) (fun g w' => y_23 = (g.1) ∧ Hp ⟨w0, I0, []⟩ (g.2.2.2) [(g.2.2.1)] w' ∧ OwnS dS 9 w' (g.2.2.2) (g.2.1) (g.2.2.1) (g.1) ∧ Tb w' (g.2.2.2) 2 .u64 pow10) ?_ ?_
      ·
        apply go
        apply go
        refine ev0 (rn_field rfl rfl FO29_0) ?_
        refine ev (rn_load rfl rfl (run_loadVar1 T4 (a_6.2 0 _ rfl))) ?_
        apply go
        refine sel_of (fun hc => ?_) (fun hc => ?_)
        ·
          have q_24 := cond_t q_24 hc
          apply go
          refine ev_litN (d := dS) (xs := [(ByteArray.mk #[45])]) (cs := [(.string (ByteArray.mk #[45]))]) hp rfl rfl Tryd.underlying157 T9 (by decide) rfl rfl (Elems.cons (d := dS) (xs := _) rfl (Elems.nil _ _ _ _)) ?_
          intro v_25 I_26 w_27 hp hs r_28
          replace o_22 := o_22.step hs
          replace tb := tb.step hs
          obtain ⟨x_29, q_2a, q_24⟩ := bind_some q_24
          refine ev_append hp (i := 0) rfl rfl rfl rfl Tryd.underlying157 T9 rfl rfl o_22 r_28 q_2a ?_
          rintro v_2b e_2c w_2d hp hs o_2e
          replace tb := tb.step hs
          obtain rfl := Option.some.inj q_24
          exact ⟨(x_29, v_2b, e_2c, I_26), (.c rfl .n), rfl, hp, o_2e, tb⟩
        ·
          have q_24 := cond_f q_24 hc
          apply go
          obtain rfl := Option.some.inj q_24
          exact ⟨(x_1x, v_1y, e_1z, I_20), (.c rfl .n), rfl, hp, o_22, tb⟩
      ·
        rintro ⟨x_2f, v_2g, e_2h, I_2i⟩ w_2j ⟨hy, hp, o_2k, tb⟩
        replace hy := hy.symm
        subst hy
        apply go
        apply go
        obtain ⟨x_2l, q_2m, h⟩ := bind_some h
        refine ev_call rfl rfl C91 (((slices_Reversestring_string__ok n) _ _  x_2f v_2g e_2h o_2k (hp.lend (i := 0) rfl) _ q_2m).mono ?_)
        rintro _ w_2n ⟨I_2o, e_2p, hv, hq, o_2q, hsame⟩
        replace hv := hv.symm
        subst hv
        have hs := hq.st
        have hp := hp.backO (i := 0) rfl hq hsame
        replace tb := tb.step hs
        apply go
        apply go
        have r_2r := o_2q.frz hp (i := 0) rfl
        obtain ⟨hp, hs⟩ := freeze_hp hp (i := 0) rfl
        replace tb := tb.step hs
        have hp := hp.sel [] (by decide)
        obtain ⟨x_2s, q_2t, h⟩ := bind_some h
        refine ev_call rfl rfl C92 (((strings_Join_ok n) _ _  x_2l v_2g r_2r (ByteArray.mk #[]) hp.imm _ q_2t).mono ?_)
        rintro _ w_2u ⟨rfl, hc⟩
        have hs := hp.stp hc
        replace hp := hp.ext hc
        replace tb := tb.step hs
        apply go
        obtain rfl := Option.some.inj h
        exact ⟨rfl, hp.ch⟩

end Go.Proofs.YtcdboppghnchpaaDoor

namespace Go.Proofs.YtcdboppghnchpaaDoor
open Go Go.Proofs.YtcdboppghnchpaaDoor.Gw Go.RowKit
set_option linter.unusedVariables false
attribute [local irreducible] Ev EvQ EvS EvH
def rational_Text_S (f : Rational → Option ByteArray) : Prop := ∀ (w0 : World) (I0 : Nat → Prop) (tb : Tb w0 I0 2 .u64 pow10) (x_0 : Rational) (v_1 : Value) (r_2 : RepS (dI .u32) w0 I0 v_1 x_0.Num.Mag) (v_3 : Value) (r_4 : RepS (dI .u32) w0 I0 v_3 x_0.Den.Mag) (hI : ∀ g, I0 g → g < w0.heap.size) (r : ByteArray), f x_0 = some r →
    Ret Tryd.prog 26 #[(.agg #[(.bool x_0.Num.Neg), v_1, (.bool x_0.Den.Neg), v_3])] w0 fun v w1 => v = (.string r) ∧ Ch [] w0 w1
theorem rational_Text_ok (n : Nat) : rational_Text_S (rational_Text n) := by
  intro w0 I0 tb x_0 v_1 r_2 v_3 r_4 hI r h
  unfold rational_Text at h
  refine enter Tryd.func26 rfl (Nat.le_of_ble_eq_true rfl) ?_
  have hp : Hp ⟨w0, I0, []⟩ I0 [] w0 := Hp.start hI
  apply go
  apply go
  refine ev_box hp rfl rfl ?_
  intro g_5 w_6 hp hs
  replace r_2 := r_2.step hs
  replace r_4 := r_4.step hs
  replace tb := tb.step hs
  apply go
  apply go
  refine ev (rn_load rfl rfl (run_loadVarA T31 rfl (hp.at_ (i := 0) rfl))) ?_
  obtain ⟨x_7, q_8, h⟩ := bind_some h
  refine ev_call rfl rfl C32 (((rational_Norm_ok n) _ _  (Rational.mk (Int_2.mk x_0.Num.Neg x_0.Num.Mag) (Int_2.mk x_0.Den.Neg x_0.Den.Mag)) v_1 r_2 v_3 r_4 hp.imm _ q_8).mono ?_)
  rintro _ w_9 ⟨I_a, v_b, v_c, hv, hq, r_d, r_e⟩
  replace hv := hv.symm
  subst hv
  have hs := hq.st
  have hp := hp.join0 hq
  replace r_2 := r_2.step hs
  replace r_4 := r_4.step hs
  replace tb := tb.step hs
  refine ev_storeA hp (i := 0) (off := 0) (vs := [(.bool x_7.Num.Neg), v_b, (.bool x_7.Den.Neg), v_c]) rfl rfl rfl rfl T31 rfl (Nat.le_of_ble_eq_true rfl) (ones_cons rfl (ones_cons r_d.one (ones_cons rfl (ones_cons r_e.one ones_nil)))) ?_
  intro w_f hp hs
  replace r_d := r_d.step hs
  replace r_e := r_e.step hs
  replace tb := tb.step hs
  apply go
  apply go
  apply go
  refine ev0 (rn_field rfl rfl FO31_1) ?_
  refine ev (rn_load rfl rfl (run_loadVarA T29 rfl (((hp.at_ (i := 0) rfl).drop 2).take 2))) ?_
  obtain ⟨x_g, q_h, h⟩ := bind_some h
  refine ev_call rfl rfl C53 (((rational_one_ok n) _ _  (Int_2.mk x_7.Den.Neg x_7.Den.Mag) v_c r_e hp.imm _ q_h).mono ?_)
  rintro _ w_i ⟨rfl, hc⟩
  have hs := hp.stp hc
  replace hp := hp.ext hc
  replace r_d := r_d.step hs
  replace r_e := r_e.step hs
  replace tb := tb.step hs
  apply go
  refine sel_of (fun hc => ?_) (fun hc => ?_)
  ·
    have h := cond_t h hc
    apply go
    apply go
    refine ev0 (rn_field rfl rfl FO31_0) ?_
    refine ev (rn_load rfl rfl (run_loadVarA T29 rfl (((hp.at_ (i := 0) rfl).drop 0).take 2))) ?_
    obtain ⟨x_j, q_k, h⟩ := bind_some h
    refine ev_call rfl rfl C54 (((integer_Text_ok n) _ _ tb (Int_2.mk x_7.Num.Neg x_7.Num.Mag) v_b r_d hp.imm _ q_k).mono ?_)
    rintro _ w_l ⟨rfl, hc⟩
    have hs := hp.stp hc
    replace hp := hp.ext hc
    replace r_d := r_d.step hs
    replace r_e := r_e.step hs
    replace tb := tb.step hs
    apply go
    obtain rfl := Option.some.inj h
    exact ⟨rfl, hp.ch⟩
  ·
    have h := cond_f h hc
    apply go
    apply go
    refine W.quiet (fun w' => Ch [] w_i w') MX (by kernel_rfl) (Ch.drew [] w_i) ?_
    refine evq0 (rn_field rfl rfl FO31_0) ?_
    refine evq (fun w' hw => rn_load rfl rfl (run_loadVarA T29 rfl ((((hp.ext hw).at_ (i := 0) rfl).drop 0).take 2))) ?_
    obtain ⟨x_m, q_n, h⟩ := bind_some h
    refine evq_call rfl rfl C54 (fun w' hw => ((integer_Text_ok n) _ _ (tb.step (hp.stp hw)) (Int_2.mk x_7.Num.Neg x_7.Num.Mag) v_b (r_d.step (hp.stp hw)) (hp.ext hw).imm _ q_n).mono fun _ _ ⟨e, hc⟩ => ⟨e, hw.trans hc⟩) ?_
    obtain ⟨q_o, _, h⟩ := need_some h
    refine ⟨q_o, ?_⟩
    refine evq0 (rn_field rfl rfl FO31_1) ?_
    refine evq (fun w' hw => rn_load rfl rfl (run_loadVarA T29 rfl ((((hp.ext hw).at_ (i := 0) rfl).drop 2).take 2))) ?_
    obtain ⟨x_p, q_q, h⟩ := bind_some h
    refine evq_call rfl rfl C54 (fun w' hw => ((integer_Text_ok n) _ _ (tb.step (hp.stp hw)) (Int_2.mk x_7.Den.Neg x_7.Den.Mag) v_c (r_e.step (hp.stp hw)) (hp.ext hw).imm _ q_q).mono fun _ _ ⟨e, hc⟩ => ⟨e, hw.trans hc⟩) ?_
    obtain ⟨q_r, _, h⟩ := need_some h
    refine ⟨q_r, ?_⟩
    intro w_s hc
    have hs := hp.stp hc
    replace hp := hp.ext hc
    replace r_d := r_d.step hs
    replace r_e := r_e.step hs
    replace tb := tb.step hs
    apply go
    obtain rfl := Option.some.inj h
    exact ⟨rfl, hp.ch⟩

end Go.Proofs.YtcdboppghnchpaaDoor

namespace Go.Proofs.YtcdboppghnchpaaDoor
open Go Go.Proofs.YtcdboppghnchpaaDoor.Gw Go.RowKit
set_option linter.unusedVariables false
attribute [local irreducible] Ev EvQ EvS EvH
def rotation_gauss_square_S (f : Gauss → Option Int_2) : Prop := ∀ (w0 : World) (I0 : Nat → Prop) (x_0 : Gauss) (v_1 : Value) (r_2 : RepS (dI .u32) w0 I0 v_1 x_0.re.Mag) (v_3 : Value) (r_4 : RepS (dI .u32) w0 I0 v_3 x_0.im.Mag) (hI : ∀ g, I0 g → g < w0.heap.size) (r : Int_2), f x_0 = some r →
    Ret Tryd.prog 58 #[(.agg #[(.bool x_0.re.Neg), v_1, (.bool x_0.im.Neg), v_3])] w0 fun v w1 => ∃ (I1 : Nat → Prop) (u_5 : Value), v = (.agg #[(.bool r.Neg), u_5]) ∧ Hp ⟨w0, I0, []⟩ I1 [] w1 ∧ RepS (dI .u32) w1 I1 u_5 r.Mag
theorem rotation_gauss_square_ok (n : Nat) : rotation_gauss_square_S (rotation_gauss_square n) := by
  intro w0 I0 x_0 v_1 r_2 v_3 r_4 hI r h
  unfold rotation_gauss_square at h
  refine enter Tryd.func58 rfl (Nat.le_of_ble_eq_true rfl) ?_
  have hp : Hp ⟨w0, I0, []⟩ I0 [] w0 := Hp.start hI
  apply go
  apply go
  refine ev_boxI hp rfl rfl ?_
  intro p_5 I_6 w_7 hp hs a_8
  replace r_2 := r_2.step hs
  replace r_4 := r_4.step hs
  refine ev_alloc hp rfl T29 ?_
  intro g_9 w_a hp hs
  replace a_8 := a_8.step hs
  replace r_2 := r_2.step hs
  replace r_4 := r_4.step hs
  apply go
  have hs := hp.stp (Ch.drew [] w_a)
  have hp := hp.drew
  replace a_8 := a_8.step hs
  replace r_2 := r_2.step hs
  replace r_4 := r_4.step hs
  refine W.held [(0, true), (1, true), (2, true), (3, true), (5, true), (6, true), (7, true), (8, true), (4, false), (9, false), (10, false), (11, false)] (Stp I_6 w_a.drew I_6) MX (by kernel_rfl) (Stp.refl _ _) ?_
  have hz := Stp.refl I_6 w_a.drew
  refine evh0 (rn_field rfl rfl FO121_0) ?_
  refine evh (fun w' hw => rn_load rfl rfl (run_loadVarA T29 rfl (((a_8.step hw).drop 0).take 2))) ?_
  refine evh0 (rn_field rfl rfl FO121_0) ?_
  refine evh (fun w' hw => rn_load rfl rfl (run_loadVarA T29 rfl (((a_8.step hw).drop 0).take 2))) ?_
  refine evh0 (rn_field rfl rfl FO121_1) ?_
  refine evh (fun w' hw => rn_load rfl rfl (run_loadVarA T29 rfl (((a_8.step hw).drop 2).take 2))) ?_
  refine evh0 (rn_field rfl rfl FO121_1) ?_
  refine evh (fun w' hw => rn_load rfl rfl (run_loadVarA T29 rfl (((a_8.step hw).drop 2).take 2))) ?_
  obtain ⟨x_b, q_c, h⟩ := bind_some h
  refine ev_call rfl rfl C34 (((integer_Mul_ok n) _ _  (Int_2.mk x_0.re.Neg x_0.re.Mag) v_1 r_2 (Int_2.mk x_0.re.Neg x_0.re.Mag) v_1 r_2 hp.imm _ q_c).mono ?_)
  rintro _ w_d ⟨I_e, v_f, hv, hq, r_g⟩
  replace hv := hv.symm
  subst hv
  have hs := hq.st
  have hp := hp.join0 hq
  replace hz := hz.trans hs
  replace r_4 := r_4.step hs
  refine ⟨Stp I_e w_d I_e, Stp.refl _ _, fun x hx => hz.held hx, ?_⟩
  have hz := Stp.refl I_e w_d
  obtain ⟨x_h, q_i, h⟩ := bind_some h
  refine ev_call rfl rfl C34 (((integer_Mul_ok n) _ _  (Int_2.mk x_0.im.Neg x_0.im.Mag) v_3 r_4 (Int_2.mk x_0.im.Neg x_0.im.Mag) v_3 r_4 hp.imm _ q_i).mono ?_)
  rintro _ w_j ⟨I_k, v_l, hv, hq, r_m⟩
  replace hv := hv.symm
  subst hv
  have hs := hq.st
  have hp := hp.join0 hq
  replace hz := hz.trans hs
  replace r_g := r_g.step hs
  refine ⟨Stp I_k w_j I_k, Stp.refl _ _, fun x hx => hz.held hx, ?_⟩
  have hz := Stp.refl I_k w_j
  obtain ⟨x_n, q_o, h⟩ := bind_some h
  refine ev_call rfl rfl C33 (((integer_Add_ok n) _ _  x_b v_f r_g x_h v_l r_m hp.imm _ q_o).mono ?_)
  rintro _ w_p ⟨I_q, v_r, hv, hq, r_s⟩
  replace hv := hv.symm
  subst hv
  have hs := hq.st
  have hp := hp.join0 hq
  replace hz := hz.trans hs
  refine ⟨Stp I_q w_p I_q, Stp.refl _ _, fun x hx => hz.held hx, ?_⟩
  have hz := Stp.refl I_q w_p
  refine ev_storeA hp (i := 0) (off := 0) (vs := [(.bool x_n.Neg), v_r]) rfl rfl rfl rfl T29 rfl (Nat.le_of_ble_eq_true rfl) (ones_cons rfl (ones_cons r_s.one ones_nil)) ?_
  intro w_t hp hs
  replace hz := hz.trans hs
  replace r_s := r_s.step hs
  refine ⟨Stp I_q w_t I_q, Stp.refl _ _, fun x hx => hz.held hx, ?_⟩
  have hz := Stp.refl I_q w_t
  apply go
  obtain rfl := Option.some.inj h
  refine ⟨_, run_loadVarA T29 rfl (hp.at_ (i := 0) rfl), ?_⟩
  have hp := hp.sel [] (by decide)
  exact ⟨I_q, v_r, rfl, hp, r_s⟩

end Go.Proofs.YtcdboppghnchpaaDoor

namespace Go.Proofs.YtcdboppghnchpaaDoor
open Go Go.Proofs.YtcdboppghnchpaaDoor.Gw Go.RowKit
set_option linter.unusedVariables false
attribute [local irreducible] Ev EvQ EvS EvH
def rotation_Sine_S (f : Rot → Option Rational) : Prop := ∀ (w0 : World) (I0 : Nat → Prop) (x_0 : Rot) (v_1 : Value) (r_2 : RepS (dI .u32) w0 I0 v_1 x_0.P.Mag) (v_3 : Value) (r_4 : RepS (dI .u32) w0 I0 v_3 x_0.Q.Mag) (hI : ∀ g, I0 g → g < w0.heap.size) (r : Rational), f x_0 = some r →
    Ret Tryd.prog 27 #[(.agg #[(.bool x_0.P.Neg), v_1, (.bool x_0.Q.Neg), v_3])] w0 fun v w1 => ∃ (I1 : Nat → Prop) (u_5 : Value) (u_6 : Value), v = (.agg #[(.bool r.Num.Neg), u_5, (.bool r.Den.Neg), u_6]) ∧ Hp ⟨w0, I0, []⟩ I1 [] w1 ∧ RepS (dI .u32) w1 I1 u_5 r.Num.Mag ∧ RepS (dI .u32) w1 I1 u_6 r.Den.Mag
theorem rotation_Sine_ok (n : Nat) : rotation_Sine_S (rotation_Sine n) := by
  intro w0 I0 x_0 v_1 r_2 v_3 r_4 hI r h
  unfold rotation_Sine at h
  refine enter Tryd.func27 rfl (Nat.le_of_ble_eq_true rfl) ?_
  have hp : Hp ⟨w0, I0, []⟩ I0 [] w0 := Hp.start hI
  apply go
  apply go
  refine ev_boxI hp rfl rfl ?_
  intro p_5 I_6 w_7 hp hs a_8
  replace r_2 := r_2.step hs
  replace r_4 := r_4.step hs
  refine ev_alloc hp rfl T31 ?_
  intro g_9 w_a hp hs
  replace a_8 := a_8.step hs
  replace r_2 := r_2.step hs
  replace r_4 := r_4.step hs
  apply go
  apply go
  refine ev (rn_load rfl rfl (run_loadVarA T38 rfl a_8)) ?_
  obtain ⟨x_b, q_c, h⟩ := bind_some h
  refine ev_call rfl rfl C56 (((rotation_Norm_ok n) _ _  (Rot.mk (Int_2.mk x_0.P.Neg x_0.P.Mag) (Int_2.mk x_0.Q.Neg x_0.Q.Mag)) v_1 r_2 v_3 r_4 hp.imm _ q_c).mono ?_)
  rintro _ w_d ⟨I_e, v_f, v_g, hv, hq, r_h, r_i⟩
  replace hv := hv.symm
  subst hv
  have hs := hq.st
  have hp := hp.join0 hq
  obtain ⟨x_j, q_k, h⟩ := bind_some h
  refine ev_call rfl rfl C55 (((rotation_of_ok n) _ _  x_b v_f r_h v_g r_i hp.imm _ q_k).mono ?_)
  rintro _ w_l ⟨I_m, v_n, v_o, hv, hq, r_p, r_q⟩
  replace hv := hv.symm
  subst hv
  have hs := hq.st
  have hp := hp.join0 hq
  refine ev_alloc hp rfl T121 ?_
  intro g_r w_s hp hs
  replace r_p := r_p.step hs
  replace r_q := r_q.step hs
  refine ev_storeA hp (i := 0) (off := 0) (vs := [(.bool x_j.re.Neg), v_n, (.bool x_j.im.Neg), v_o]) rfl rfl rfl rfl T121 rfl (Nat.le_of_ble_eq_true rfl) (ones_cons rfl (ones_cons r_p.one (ones_cons rfl (ones_cons r_q.one ones_nil)))) ?_
  intro w_t hp hs
  replace r_p := r_p.step hs
  replace r_q := r_q.step hs
  apply go
  have hs := hp.stp (Ch.drew [] w_t)
  have hp := hp.drew
  replace r_p := r_p.step hs
  replace r_q := r_q.step hs
  refine W.held [(0, true), (1, true), (4, true), (2, false), (3, true), (5, false), (6, false), (7, false)] (fun x => Stp I_m w_t.drew I_m x ∧ OwnK [(g_r, [(.bool x_j.re.Neg), v_n, (.bool x_j.im.Neg), v_o], 121)] x) MX (by kernel_rfl) ⟨Stp.refl _ _, (OwnK.cons (hp.own 0 _ _ _ rfl).1 OwnK.nil)⟩ ?_
  have hz := Stp.refl I_m w_t.drew
  refine evh (fun w' hw => rn_load rfl rfl (run_loadVarA T121 rfl (hw.2.at_ (i := 0) rfl))) ?_
  refine evh (fun w' hw => rn_load rfl rfl (run_loadVarA T121 rfl (hw.2.at_ (i := 0) rfl))) ?_
  refine evh (fun w' hw => rn_load rfl rfl (run_loadVarA T121 rfl (hw.2.at_ (i := 0) rfl))) ?_
  obtain ⟨x_u, q_v, h⟩ := bind_some h
  refine ev_call rfl rfl C57 (((rotation_gauss_times_ok n) _ _  (Gauss.mk (Int_2.mk x_j.re.Neg x_j.re.Mag) (Int_2.mk x_j.im.Neg x_j.im.Mag)) v_n r_p v_o r_q (Gauss.mk (Int_2.mk x_j.re.Neg x_j.re.Mag) (Int_2.mk x_j.im.Neg x_j.im.Mag)) v_n r_p v_o r_q hp.imm _ q_v).mono ?_)
  rintro _ w_w ⟨I_x, v_y, v_z, hv, hq, r_10, r_11⟩
  replace hv := hv.symm
  subst hv
  have hs := hq.st
  have hp := hp.join0 hq
  replace hz := hz.trans hs
  replace r_p := r_p.step hs
  replace r_q := r_q.step hs
  refine ⟨fun x => Stp I_x w_w I_x x ∧ OwnK [(g_r, [(.bool x_j.re.Neg), v_n, (.bool x_j.im.Neg), v_o], 121)] x, ⟨Stp.refl _ _, (OwnK.cons (hp.own 0 _ _ _ rfl).1 OwnK.nil)⟩, fun x hx => ⟨hz.held hx.1, hx.2⟩, ?_⟩
  have hz := Stp.refl I_x w_w
  refine evh0 (rn_fieldV (off := 2) (size := 2) rfl rfl (by unfold FT; kernel_rfl) T29) ?_
  obtain ⟨x_12, q_13, h⟩ := bind_some h
  refine ev_call rfl rfl C58 (((rotation_gauss_square_ok n) _ _  (Gauss.mk (Int_2.mk x_j.re.Neg x_j.re.Mag) (Int_2.mk x_j.im.Neg x_j.im.Mag)) v_n r_p v_o r_q hp.imm _ q_13).mono ?_)
  rintro _ w_14 ⟨I_15, v_16, hv, hq, r_17⟩
  replace hv := hv.symm
  subst hv
  have hs := hq.st
  have hp := hp.join0 hq
  replace hz := hz.trans hs
  replace r_11 := r_11.step hs
  replace r_p := r_p.step hs
  replace r_q := r_q.step hs
  refine ⟨fun x => Stp I_15 w_14 I_15 x ∧ OwnK [(g_r, [(.bool x_j.re.Neg), v_n, (.bool x_j.im.Neg), v_o], 121)] x, ⟨Stp.refl _ _, (OwnK.cons (hp.own 0 _ _ _ rfl).1 OwnK.nil)⟩, fun x hx => ⟨hz.held hx.1, hx.2⟩, ?_⟩
  have hz := Stp.refl I_15 w_14
  obtain ⟨x_18, q_19, h⟩ := bind_some h
  refine ev_call rfl rfl C28 (((rational_New_ok n) _ _  (Int_2.mk x_u.im.Neg x_u.im.Mag) v_z r_11 x_12 v_16 r_17 hp.imm _ q_19).mono ?_)
  rintro _ w_1a ⟨I_1b, v_1c, v_1d, hv, hq, r_1e, r_1f⟩
  replace hv := hv.symm
  subst hv
  have hs := hq.st
  have hp := hp.join0 hq
  replace hz := hz.trans hs
  replace r_p := r_p.step hs
  replace r_q := r_q.step hs
  refine ⟨fun x => Stp I_1b w_1a I_1b x ∧ OwnK [(g_r, [(.bool x_j.re.Neg), v_n, (.bool x_j.im.Neg), v_o], 121)] x, ⟨Stp.refl _ _, (OwnK.cons (hp.own 0 _ _ _ rfl).1 OwnK.nil)⟩, fun x hx => ⟨hz.held hx.1, hx.2⟩, ?_⟩
  have hz := Stp.refl I_1b w_1a
  refine ev_storeA hp (i := 1) (off := 0) (vs := [(.bool x_18.Num.Neg), v_1c, (.bool x_18.Den.Neg), v_1d]) rfl rfl rfl rfl T31 rfl (Nat.le_of_ble_eq_true rfl) (ones_cons rfl (ones_cons r_1e.one (ones_cons rfl (ones_cons r_1f.one ones_nil)))) ?_
  intro w_1g hp hs
  replace hz := hz.trans hs
  replace r_p := r_p.step hs
  replace r_q := r_q.step hs
  replace r_1e := r_1e.step hs
  replace r_1f := r_1f.step hs
  refine ⟨fun x => Stp I_1b w_1g I_1b x ∧ OwnK [(g_r, [(.bool x_j.re.Neg), v_n, (.bool x_j.im.Neg), v_o], 121)] x, ⟨Stp.refl _ _, (OwnK.cons (hp.own 0 _ _ _ rfl).1 OwnK.nil)⟩, fun x hx => ⟨hz.held hx.1, hx.2⟩, ?_⟩
  have hz := Stp.refl I_1b w_1g
  apply go
  obtain rfl := Option.some.inj h
  refine ⟨_, run_loadVarA T31 rfl (hp.at_ (i := 1) rfl), ?_⟩
  have hp := hp.sel [] (by decide)
  exact ⟨I_1b, v_1c, v_1d, rfl, hp, r_1e, r_1f⟩

end Go.Proofs.YtcdboppghnchpaaDoor

namespace Go.Proofs.YtcdboppghnchpaaDoor
open Go Go.Proofs.YtcdboppghnchpaaDoor.Gw Go.RowKit
set_option linter.unusedVariables false
attribute [local irreducible] Ev EvQ EvS EvH
def top_beamsAwake_S (f : Option Bool) : Prop := ∀ (w0 : World) (I0 : Nat → Prop) (tb : Tb w0 I0 2 .u64 pow10)  (hI : ∀ g, I0 g → g < w0.heap.size) (r : Bool), f  = some r →
    Ret Tryd.prog 5 #[] w0 fun v w1 => v = (.bool r) ∧ Ch [] w0 w1
theorem top_beamsAwake_ok (n : Nat) : top_beamsAwake_S (top_beamsAwake n) := by
  intro w0 I0 tb hI r h
  unfold top_beamsAwake at h
  refine enter Tryd.func5 rfl (Nat.le_of_ble_eq_true rfl) ?_
  have hp : Hp ⟨w0, I0, []⟩ I0 [] w0 := Hp.start hI
  apply go
  apply go
  apply go
  apply go
  obtain ⟨x_0, q_1, h⟩ := bind_some h
  refine ev_call rfl rfl C9 (((heading_Beam_ok n) _ _  32 0 hp.imm _ q_1).mono ?_)
  rintro _ w_2 ⟨rfl, hc⟩
  have hs := hp.stp hc
  replace hp := hp.ext hc
  replace tb := tb.step hs
  refine ev_alloc hp rfl T34 ?_
  intro g_3 w_4 hp hs
  replace tb := tb.step hs
  refine ev_storeA hp (i := 0) (off := 0) (vs := [(.int .i64 x_0.X), (.int .i64 x_0.Y), (.int .i64 x_0.D)]) rfl rfl rfl rfl T34 rfl (Nat.le_of_ble_eq_true rfl) (ones_of rfl) ?_
  intro w_5 hp hs
  replace tb := tb.step hs
  obtain ⟨y_6, q_7, h⟩ := bind_some h
  refine W.cut (γ := (Bool × (Nat → Prop))) (fun g => [(0, (.bool (g.1)))]) (fun g w' => y_6 = (g.1) ∧ Hp ⟨w0, I0, []⟩ (g.2) [] w' ∧ Tb w' (g.2) 2 .u64 pow10) ?_ ?_
  ·
    apply go
    refine ev (rn_load rfl rfl (run_loadVarA T34 rfl (hp.at_ (i := 0) rfl))) ?_
    refine ev0 (fun w => rn_build (cs := [(.int .i64 3), (.int .i64 4), (.int .i64 5)]) rfl rfl T34 PL34 rfl) ?_
    refine ev0 (rn_eqA rfl rfl rfl (EQ34 x_0.X x_0.Y x_0.D 3 4 5)) ?_
    refine sel_of (fun hc => ?_) (fun hc => ?_)
    ·
      have q_7 := cond_t q_7 hc
      obtain ⟨x_8, q_9, q_7⟩ := bind_some q_7
      refine ev_call rfl rfl C11 (((rotation_Mark_ok n) _ _  32 hp.imm _ q_9).mono ?_)
      rintro _ w_a ⟨I_b, v_c, v_d, hv, hq, r_e, r_f⟩
      replace hv := hv.symm
      subst hv
      have hs := hq.st
      have hp := hp.join0 hq
      replace tb := tb.step hs
      obtain ⟨x_g, q_h, q_7⟩ := bind_some q_7
      refine ev_call rfl rfl C27 (((rotation_Sine_ok n) _ _  x_8 v_c r_e v_d r_f hp.imm _ q_h).mono ?_)
      rintro _ w_i ⟨I_j, v_k, v_l, hv, hq, r_m, r_n⟩
      replace hv := hv.symm
      subst hv
      have hs := hq.st
      have hp := hp.join0 hq
      replace tb := tb.step hs
      obtain ⟨x_o, q_p, q_7⟩ := bind_some q_7
      refine ev_call rfl rfl C26 (((rational_Text_ok n) _ _ tb x_g v_k r_m v_l r_n hp.imm _ q_p).mono ?_)
      rintro _ w_q ⟨rfl, hc⟩
      have hs := hp.stp hc
      replace hp := hp.ext hc
      replace tb := tb.step hs
      obtain rfl := Option.some.inj q_7
      have hp := hp.sel [] (by decide)
      exact ⟨((x_o.toList == (ByteArray.mk #[52, 47, 53]).toList), I_j), (.c rfl .n), rfl, hp, tb⟩
    ·
      have q_7 := cond_f q_7 hc
      obtain rfl := Option.some.inj q_7
      have hp := hp.sel [] (by decide)
      exact ⟨(false, I0), (.c rfl .n), rfl, hp, tb⟩
  ·
    rintro ⟨x_r, I_s⟩ w_t ⟨hy, hp, tb⟩
    replace hy := hy.symm
    subst hy
    apply go
    obtain rfl := Option.some.inj h
    exact ⟨rfl, hp.ch⟩

end Go.Proofs.YtcdboppghnchpaaDoor

namespace Go.Proofs.YtcdboppghnchpaaDoor
open Go Go.Proofs.YtcdboppghnchpaaDoor.Gw Go.RowKit
set_option linter.unusedVariables false
attribute [local irreducible] Ev EvQ EvS EvH
def base_Clip_S (f : Int → Int → Int → Option Int) : Prop := ∀ (w0 : World) (I0 : Nat → Prop) (x_0 : Int) (x_1 : Int) (x_2 : Int) (hI : ∀ g, I0 g → g < w0.heap.size) (r : Int), f x_0 x_1 x_2 = some r →
    Ret Tryd.prog 6 #[(.int .i64 x_0), (.int .i64 x_1), (.int .i64 x_2)] w0 fun v w1 => v = (.int .i64 r) ∧ Ch [] w0 w1
theorem base_Clip_ok (n : Nat) : base_Clip_S (base_Clip n) := by
  intro w0 I0 x_0 x_1 x_2 hI r h
  unfold base_Clip at h
  refine enter Tryd.func6 rfl (Nat.le_of_ble_eq_true rfl) ?_
  have hp : Hp ⟨w0, I0, []⟩ I0 [] w0 := Hp.start hI
  apply go
  apply go
  apply go
  apply go
  refine ev0 (rn_min rfl rfl rfl) ?_
  refine ev0 (rn_max rfl rfl rfl) ?_
  apply go
  obtain rfl := Option.some.inj h
  exact ⟨rfl, hp.ch⟩

end Go.Proofs.YtcdboppghnchpaaDoor

namespace Go.Proofs.YtcdboppghnchpaaDoor
open Go Go.Proofs.YtcdboppghnchpaaDoor.Gw Go.RowKit
set_option linter.unusedVariables false
attribute [local irreducible] Ev EvQ EvS EvH
def base_Mod_S (f : Int → Int → Option Int) : Prop := ∀ (w0 : World) (I0 : Nat → Prop) (x_0 : Int) (x_1 : Int) (hI : ∀ g, I0 g → g < w0.heap.size) (r : Int), f x_0 x_1 = some r →
    Ret Tryd.prog 7 #[(.int .i64 x_0), (.int .i64 x_1)] w0 fun v w1 => v = (.int .i64 r) ∧ Ch [] w0 w1
theorem base_Mod_ok (n : Nat) : base_Mod_S (base_Mod n) := by
  intro w0 I0 x_0 x_1 hI r h
  unfold base_Mod at h
  refine enter Tryd.func7 rfl (Nat.le_of_ble_eq_true rfl) ?_
  have hp : Hp ⟨w0, I0, []⟩ I0 [] w0 := Hp.start hI
  apply go
  apply go
  apply go
  apply go
  obtain ⟨q_2, _, h⟩ := need_some h
  refine ⟨q_2, ?_⟩
  obtain ⟨y_3, q_4, h⟩ := bind_some h
  refine W.cut (γ := Int) (fun g => [(5, (.int .i64 (g)))]) (fun g w' => y_3 = (g) ∧ w0 = w') ?_ ?_
  ·
    apply go
    apply go
    apply go
    refine sel_of (fun hc => ?_) (fun hc => ?_)
    ·
      have q_4 := cond_t q_4 hc
      apply go
      obtain rfl := Option.some.inj q_4
      exact ⟨(IntKind.i64.wrap ((x_0.tmod x_1) + x_1)), (.c rfl .n), rfl, rfl⟩
    ·
      have q_4 := cond_f q_4 hc
      apply go
      obtain rfl := Option.some.inj q_4
      exact ⟨(x_0.tmod x_1), (.c rfl .n), rfl, rfl⟩
  ·
    rintro x_5 _ ⟨hy, rfl⟩
    replace hy := hy.symm
    subst hy
    apply go
    apply go
    apply go
    obtain rfl := Option.some.inj h
    exact ⟨rfl, hp.ch⟩

end Go.Proofs.YtcdboppghnchpaaDoor

namespace Go.Proofs.YtcdboppghnchpaaDoor
open Go Go.Proofs.YtcdboppghnchpaaDoor.Gw Go.RowKit
set_option linter.unusedVariables false
attribute [local irreducible] Ev EvQ EvS EvH
def rational_Of_S (f : Int → Int → Option Rational) : Prop := ∀ (w0 : World) (I0 : Nat → Prop) (x_0 : Int) (x_1 : Int) (hI : ∀ g, I0 g → g < w0.heap.size) (r : Rational), f x_0 x_1 = some r →
    Ret Tryd.prog 8 #[(.int .i64 x_0), (.int .i64 x_1)] w0 fun v w1 => ∃ (I1 : Nat → Prop) (u_2 : Value) (u_3 : Value), v = (.agg #[(.bool r.Num.Neg), u_2, (.bool r.Den.Neg), u_3]) ∧ Hp ⟨w0, I0, []⟩ I1 [] w1 ∧ RepS (dI .u32) w1 I1 u_2 r.Num.Mag ∧ RepS (dI .u32) w1 I1 u_3 r.Den.Mag
theorem rational_Of_ok (n : Nat) : rational_Of_S (rational_Of n) := by
  intro w0 I0 x_0 x_1 hI r h
  unfold rational_Of at h
  refine enter Tryd.func8 rfl (Nat.le_of_ble_eq_true rfl) ?_
  have hp : Hp ⟨w0, I0, []⟩ I0 [] w0 := Hp.start hI
  apply go
  apply go
  refine ev_alloc hp rfl T31 ?_
  intro g_2 w_3 hp hs
  apply go
  apply go
  obtain ⟨x_4, q_5, h⟩ := bind_some h
  refine ev_call rfl rfl C29 (((integer_Of_ok n) _ _  x_0 hp.imm _ q_5).mono ?_)
  rintro _ w_6 ⟨I_7, v_8, hv, hq, r_9⟩
  replace hv := hv.symm
  subst hv
  have hs := hq.st
  have hp := hp.join0 hq
  obtain ⟨x_a, q_b, h⟩ := bind_some h
  refine ev_call rfl rfl C29 (((integer_Of_ok n) _ _  x_1 hp.imm _ q_b).mono ?_)
  rintro _ w_c ⟨I_d, v_e, hv, hq, r_f⟩
  replace hv := hv.symm
  subst hv
  have hs := hq.st
  have hp := hp.join0 hq
  replace r_9 := r_9.step hs
  obtain ⟨x_g, q_h, h⟩ := bind_some h
  refine ev_call rfl rfl C28 (((rational_New_ok n) _ _  x_4 v_8 r_9 x_a v_e r_f hp.imm _ q_h).mono ?_)
  rintro _ w_i ⟨I_j, v_k, v_l, hv, hq, r_m, r_n⟩
  replace hv := hv.symm
  subst hv
  have hs := hq.st
  have hp := hp.join0 hq
  refine ev_storeA hp (i := 0) (off := 0) (vs := [(.bool x_g.Num.Neg), v_k, (.bool x_g.Den.Neg), v_l]) rfl rfl rfl rfl T31 rfl (Nat.le_of_ble_eq_true rfl) (ones_cons rfl (ones_cons r_m.one (ones_cons rfl (ones_cons r_n.one ones_nil)))) ?_
  intro w_o hp hs
  replace r_m := r_m.step hs
  replace r_n := r_n.step hs
  apply go
  obtain rfl := Option.some.inj h
  refine ⟨_, run_loadVarA T31 rfl (hp.at_ (i := 0) rfl), ?_⟩
  have hp := hp.sel [] (by decide)
  exact ⟨I_j, v_k, v_l, rfl, hp, r_m, r_n⟩

end Go.Proofs.YtcdboppghnchpaaDoor

namespace Go.Proofs.YtcdboppghnchpaaDoor
open Go Go.Proofs.YtcdboppghnchpaaDoor.Gw Go.RowKit
set_option linter.unusedVariables false
attribute [local irreducible] Ev EvQ EvS EvH vch
def rational_Add_S (f : Rational → Rational → Option Rational) : Prop := ∀ (w0 : World) (I0 : Nat → Prop) (x_0 : Rational) (v_1 : Value) (r_2 : RepS (dI .u32) w0 I0 v_1 x_0.Num.Mag) (v_3 : Value) (r_4 : RepS (dI .u32) w0 I0 v_3 x_0.Den.Mag) (x_5 : Rational) (v_6 : Value) (r_7 : RepS (dI .u32) w0 I0 v_6 x_5.Num.Mag) (v_8 : Value) (r_9 : RepS (dI .u32) w0 I0 v_8 x_5.Den.Mag) (hI : ∀ g, I0 g → g < w0.heap.size) (r : Rational), f x_0 x_5 = some r →
    Ret Tryd.prog 10 #[(.agg #[(.bool x_0.Num.Neg), v_1, (.bool x_0.Den.Neg), v_3]), (.agg #[(.bool x_5.Num.Neg), v_6, (.bool x_5.Den.Neg), v_8])] w0 fun v w1 => ∃ (I1 : Nat → Prop) (u_a : Value) (u_b : Value), v = (.agg #[(.bool r.Num.Neg), u_a, (.bool r.Den.Neg), u_b]) ∧ Hp ⟨w0, I0, []⟩ I1 [] w1 ∧ RepS (dI .u32) w1 I1 u_a r.Num.Mag ∧ RepS (dI .u32) w1 I1 u_b r.Den.Mag
theorem rational_Add_ok (n : Nat) : rational_Add_S (rational_Add n) := by
  intro w0 I0 x_0 v_1 r_2 v_3 r_4 x_5 v_6 r_7 v_8 r_9 hI r h
  unfold rational_Add at h
  refine enter Tryd.func10 rfl (Nat.le_of_ble_eq_true rfl) ?_
  have hp : Hp ⟨w0, I0, []⟩ I0 [] w0 := Hp.start hI
  apply go
  apply go
  refine ev_box hp rfl rfl ?_
  intro g_a w_b hp hs
  replace r_7 := r_7.step hs
  replace r_9 := r_9.step hs
  replace r_2 := r_2.step hs
  replace r_4 := r_4.step hs
  refine ev_box hp rfl rfl ?_
  intro g_c w_d hp hs
  replace r_7 := r_7.step hs
  replace r_9 := r_9.step hs
  replace r_2 := r_2.step hs
  replace r_4 := r_4.step hs
  refine ev_alloc hp rfl T31 ?_
  intro g_e w_f hp hs
  replace r_7 := r_7.step hs
  replace r_9 := r_9.step hs
  replace r_2 := r_2.step hs
  replace r_4 := r_4.step hs
  apply go
  have hs := hp.stp (Ch.drew [] w_f)
  have hp := hp.drew
  replace r_7 := r_7.step hs
  replace r_9 := r_9.step hs
  replace r_2 := r_2.step hs
  replace r_4 := r_4.step hs
  refine W.heldG (.q 0 (.q 2 (.l 1 (.l 3 (.l 4 (.l 5 .done .no) .no) .no) .no))) (SK (Stp I0 w_f.drew I0) [(g_a, [(.bool x_0.Num.Neg), v_1, (.bool x_0.Den.Neg), v_3], 31), (g_c, [(.bool x_5.Num.Neg), v_6, (.bool x_5.Den.Neg), v_8], 31)] [[4], [5]]) MX (by kernel_rfl) ⟨Stp.refl _ _, (kp_cons (fun _ => (hp.own 2 _ _ _ rfl).1) (kp_cons (fun _ => (hp.own 1 _ _ _ rfl).1) kp_nil))⟩ ?_
  have hz := Stp.refl I0 w_f.drew
  refine ⟨SK.same (by kernel_rfl), ?_⟩
  refine evh (fun w' hw => rn_load rfl rfl (run_loadVarA T31 rfl ((S0.keep (p := 0) hw rfl rfl (by kernel_rfl)).at_ (i := 0) rfl))) ?_
  refine ⟨SK.same (by kernel_rfl), ?_⟩
  refine evh (fun w' hw => rn_load rfl rfl (run_loadVarA T31 rfl ((S0.keep (p := 1) hw rfl rfl (by kernel_rfl)).at_ (i := 0) rfl))) ?_
  refine ⟨?_, trivial⟩
  obtain ⟨x_g, q_h, h⟩ := bind_some h
  refine ev_call rfl rfl C32 (((rational_Norm_ok n) _ _  (Rational.mk (Int_2.mk x_0.Num.Neg x_0.Num.Mag) (Int_2.mk x_0.Den.Neg x_0.Den.Mag)) v_1 r_2 v_3 r_4 hp.imm _ q_h).mono ?_)
  rintro _ w_i ⟨I_j, v_k, v_l, hv, hq, r_m, r_n⟩
  replace hv := hv.symm
  subst hv
  have hs := hq.st
  have hp := hp.join0 hq
  replace hz := hz.trans hs
  replace r_7 := r_7.step hs
  replace r_9 := r_9.step hs
  replace r_2 := r_2.step hs
  replace r_4 := r_4.step hs
  refine ⟨SK (Stp I_j w_i I_j) [(g_a, [(.bool x_0.Num.Neg), v_1, (.bool x_0.Den.Neg), v_3], 31), (g_c, [(.bool x_5.Num.Neg), v_6, (.bool x_5.Den.Neg), v_8], 31)] [[4], [5]], ⟨Stp.refl _ _, (kp_cons (fun _ => (hp.own 2 _ _ _ rfl).1) (kp_cons (fun _ => (hp.own 1 _ _ _ rfl).1) kp_nil))⟩, fun L x h => ⟨hz.held h.1, h.2⟩, ?_⟩
  have hz := Stp.refl I_j w_i
  refine ⟨?_, trivial⟩
  obtain ⟨x_o, q_p, h⟩ := bind_some h
  refine ev_call rfl rfl C32 (((rational_Norm_ok n) _ _  (Rational.mk (Int_2.mk x_5.Num.Neg x_5.Num.Mag) (Int_2.mk x_5.Den.Neg x_5.Den.Mag)) v_6 r_7 v_8 r_9 hp.imm _ q_p).mono ?_)
  rintro _ w_q ⟨I_r, v_s, v_t, hv, hq, r_u, r_v⟩
  replace hv := hv.symm
  subst hv
  have hs := hq.st
  have hp := hp.join0 hq
  replace hz := hz.trans hs
  replace r_m := r_m.step hs
  replace r_n := r_n.step hs
  replace r_7 := r_7.step hs
  replace r_9 := r_9.step hs
  replace r_2 := r_2.step hs
  replace r_4 := r_4.step hs
  refine ⟨SK (Stp I_r w_q I_r) [(g_a, [(.bool x_0.Num.Neg), v_1, (.bool x_0.Den.Neg), v_3], 31), (g_c, [(.bool x_5.Num.Neg), v_6, (.bool x_5.Den.Neg), v_8], 31)] [[4], [5]], ⟨Stp.refl _ _, (kp_cons (fun _ => (hp.own 2 _ _ _ rfl).1) (kp_cons (fun _ => (hp.own 1 _ _ _ rfl).1) kp_nil))⟩, fun L x h => ⟨hz.held h.1, h.2⟩, ?_⟩
  have hz := Stp.refl I_r w_q
  refine ⟨?_, trivial⟩
  refine ev_storeA hp (i := 2) (off := 0) (vs := [(.bool x_g.Num.Neg), v_k, (.bool x_g.Den.Neg), v_l]) rfl rfl rfl rfl T31 rfl (Nat.le_of_ble_eq_true rfl) (ones_cons rfl (ones_cons r_m.one (ones_cons rfl (ones_cons r_n.one ones_nil)))) ?_
  intro w_w hp hs
  replace hz := hz.trans hs
  replace r_u := r_u.step hs
  replace r_v := r_v.step hs
  replace r_7 := r_7.step hs
  replace r_9 := r_9.step hs
  replace r_m := r_m.step hs
  replace r_n := r_n.step hs
  refine ⟨SK (Stp I_r w_w I_r) [(g_a, [(.bool x_0.Num.Neg), v_1, (.bool x_0.Den.Neg), v_3], 31), (g_c, [(.bool x_5.Num.Neg), v_6, (.bool x_5.Den.Neg), v_8], 31)] [[4], [5]], ⟨Stp.refl _ _, (kp_cons (kp_off (by kernel_rfl)) (kp_cons (fun _ => (hp.own 1 _ _ _ rfl).1) kp_nil))⟩, fun L x h => ⟨hz.held h.1, h.2⟩, ?_⟩
  have hz := Stp.refl I_r w_w
  refine ⟨?_, trivial⟩
  refine ev_storeA hp (i := 1) (off := 0) (vs := [(.bool x_o.Num.Neg), v_s, (.bool x_o.Den.Neg), v_t]) rfl rfl rfl rfl T31 rfl (Nat.le_of_ble_eq_true rfl) (ones_cons rfl (ones_cons r_u.one (ones_cons rfl (ones_cons r_v.one ones_nil)))) ?_
  intro w_x hp hs
  replace hz := hz.trans hs
  replace r_u := r_u.step hs
  replace r_v := r_v.step hs
  replace r_m := r_m.step hs
  replace r_n := r_n.step hs
  refine ⟨SK (Stp I_r w_x I_r) [(g_a, [(.bool x_0.Num.Neg), v_1, (.bool x_0.Den.Neg), v_3], 31), (g_c, [(.bool x_5.Num.Neg), v_6, (.bool x_5.Den.Neg), v_8], 31)] [[4], [5]], ⟨Stp.refl _ _, (kp_cons (kp_off (by kernel_rfl)) (kp_cons (kp_off (by kernel_rfl)) kp_nil))⟩, fun L x h => ⟨hz.held h.1, h.2⟩, ?_⟩
  have hz := Stp.refl I_r w_x
  apply go
  have hs := hp.stp (Ch.drew [] w_x)
  have hp := hp.drew
  replace r_u := r_u.step hs
  replace r_v := r_v.step hs
  replace r_m := r_m.step hs
  replace r_n := r_n.step hs
  refine W.heldT [(0, true), (1, true), (2, true), (3, true), (5, true), (6, true), (7, true), (8, true), (11, true), (12, true), (13, true), (14, true), (4, false), (9, false), (10, false), (15, false), (16, false), (17, false)] (fun x => Stp I_r w_x.drew I_r x ∧ OwnK [(g_a, [(.bool x_g.Num.Neg), v_k, (.bool x_g.Den.Neg), v_l], 31), (g_c, [(.bool x_o.Num.Neg), v_s, (.bool x_o.Den.Neg), v_t], 31)] x) MX (by kernel_rfl) ⟨Stp.refl _ _, (OwnK.cons (hp.own 2 _ _ _ rfl).1 (OwnK.cons (hp.own 1 _ _ _ rfl).1 OwnK.nil))⟩ ?_
  have hz := Stp.refl I_r w_x.drew
  intro ops hops
  have e0 : nthO ops 0 = some _ := (hops 0).trans rfl
  have e1 : nthO ops 1 = some _ := (hops 1).trans rfl
  have e2 : nthO ops 2 = some _ := (hops 2).trans rfl
  have e3 : nthO ops 3 = some _ := (hops 3).trans rfl
  have e4 : nthO ops 4 = some _ := (hops 4).trans rfl
  have e5 : nthO ops 5 = some _ := (hops 5).trans rfl
  have e6 : nthO ops 6 = some _ := (hops 6).trans rfl
  have e7 : nthO ops 7 = some _ := (hops 7).trans rfl
  have e8 : nthO ops 8 = some _ := (hops 8).trans rfl
  have e9 : nthO ops 9 = some _ := (hops 9).trans rfl
  have e10 : nthO ops 10 = some _ := (hops 10).trans rfl
  have e11 : nthO ops 11 = some _ := (hops 11).trans rfl
  have e12 : nthO ops 12 = some _ := (hops 12).trans rfl
  have e13 : nthO ops 13 = some _ := (hops 13).trans rfl
  have e14 : nthO ops 14 = some _ := (hops 14).trans rfl
  have e15 : nthO ops 15 = some _ := (hops 15).trans rfl
  have e16 : nthO ops 16 = some _ := (hops 16).trans rfl
  have e17 : nthO ops 17 = some _ := (hops 17).trans rfl
  clear hops
  refine vch_q e0 rfl ?_
  refine evh0 (rn_field rfl rfl FO31_0) ?_
  refine vch_q e1 rfl ?_
  refine evh (fun w' hw => rn_load rfl rfl (run_loadVarA T29 rfl (((hw.2.at_ (i := 0) rfl).drop 0).take 2))) ?_
  refine vch_q e2 rfl ?_
  refine evh0 (rn_field rfl rfl FO31_1) ?_
  refine vch_q e3 rfl ?_
  refine evh (fun w' hw => rn_load rfl rfl (run_loadVarA T29 rfl (((hw.2.at_ (i := 1) rfl).drop 2).take 2))) ?_
  refine vch_q e5 rfl ?_
  refine evh0 (rn_field rfl rfl FO31_0) ?_
  refine vch_q e6 rfl ?_
  refine evh (fun w' hw => rn_load rfl rfl (run_loadVarA T29 rfl (((hw.2.at_ (i := 1) rfl).drop 0).take 2))) ?_
  refine vch_q e7 rfl ?_
  refine evh0 (rn_field rfl rfl FO31_1) ?_
  refine vch_q e8 rfl ?_
  refine evh (fun w' hw => rn_load rfl rfl (run_loadVarA T29 rfl (((hw.2.at_ (i := 0) rfl).drop 2).take 2))) ?_
  refine vch_q e11 rfl ?_
  refine evh0 (rn_field rfl rfl FO31_1) ?_
  refine vch_q e12 rfl ?_
  refine evh (fun w' hw => rn_load rfl rfl (run_loadVarA T29 rfl (((hw.2.at_ (i := 0) rfl).drop 2).take 2))) ?_
  refine vch_q e13 rfl ?_
  refine evh0 (rn_field rfl rfl FO31_1) ?_
  refine vch_q e14 rfl ?_
  refine evh (fun w' hw => rn_load rfl rfl (run_loadVarA T29 rfl (((hw.2.at_ (i := 1) rfl).drop 2).take 2))) ?_
  refine vch_l e4 rfl ?_
  obtain ⟨x_y, q_z, h⟩ := bind_some h
  refine ev_call rfl rfl C34 (((integer_Mul_ok n) _ _  (Int_2.mk x_g.Num.Neg x_g.Num.Mag) v_k r_m (Int_2.mk x_o.Den.Neg x_o.Den.Mag) v_t r_v hp.imm _ q_z).mono ?_)
  rintro _ w_10 ⟨I_11, v_12, hv, hq, r_13⟩
  replace hv := hv.symm
  subst hv
  have hs := hq.st
  have hp := hp.join0 hq
  replace hz := hz.trans hs
  replace r_u := r_u.step hs
  replace r_n := r_n.step hs
  replace r_v := r_v.step hs
  replace r_m := r_m.step hs
  refine ⟨fun x => Stp I_11 w_10 I_11 x ∧ OwnK [(g_a, [(.bool x_g.Num.Neg), v_k, (.bool x_g.Den.Neg), v_l], 31), (g_c, [(.bool x_o.Num.Neg), v_s, (.bool x_o.Den.Neg), v_t], 31)] x, ⟨Stp.refl _ _, (OwnK.cons (hp.own 2 _ _ _ rfl).1 (OwnK.cons (hp.own 1 _ _ _ rfl).1 OwnK.nil))⟩, fun x hx => ⟨hz.held hx.1, hx.2⟩, ?_⟩
  have hz := Stp.refl I_11 w_10
  refine vch_l e9 rfl ?_
  obtain ⟨x_14, q_15, h⟩ := bind_some h
  refine ev_call rfl rfl C34 (((integer_Mul_ok n) _ _  (Int_2.mk x_o.Num.Neg x_o.Num.Mag) v_s r_u (Int_2.mk x_g.Den.Neg x_g.Den.Mag) v_l r_n hp.imm _ q_15).mono ?_)
  rintro _ w_16 ⟨I_17, v_18, hv, hq, r_19⟩
  replace hv := hv.symm
  subst hv
  have hs := hq.st
  have hp := hp.join0 hq
  replace hz := hz.trans hs
  replace r_n := r_n.step hs
  replace r_v := r_v.step hs
  replace r_13 := r_13.step hs
  replace r_u := r_u.step hs
  replace r_m := r_m.step hs
  refine ⟨fun x => Stp I_17 w_16 I_17 x ∧ OwnK [(g_a, [(.bool x_g.Num.Neg), v_k, (.bool x_g.Den.Neg), v_l], 31), (g_c, [(.bool x_o.Num.Neg), v_s, (.bool x_o.Den.Neg), v_t], 31)] x, ⟨Stp.refl _ _, (OwnK.cons (hp.own 2 _ _ _ rfl).1 (OwnK.cons (hp.own 1 _ _ _ rfl).1 OwnK.nil))⟩, fun x hx => ⟨hz.held hx.1, hx.2⟩, ?_⟩
  have hz := Stp.refl I_17 w_16
  refine vch_l e10 rfl ?_
  obtain ⟨x_1a, q_1b, h⟩ := bind_some h
  refine ev_call rfl rfl C33 (((integer_Add_ok n) _ _  x_y v_12 r_13 x_14 v_18 r_19 hp.imm _ q_1b).mono ?_)
  rintro _ w_1c ⟨I_1d, v_1e, hv, hq, r_1f⟩
  replace hv := hv.symm
  subst hv
  have hs := hq.st
  have hp := hp.join0 hq
  replace hz := hz.trans hs
  replace r_n := r_n.step hs
  replace r_v := r_v.step hs
  replace r_u := r_u.step hs
  replace r_m := r_m.step hs
  refine ⟨fun x => Stp I_1d w_1c I_1d x ∧ OwnK [(g_a, [(.bool x_g.Num.Neg), v_k, (.bool x_g.Den.Neg), v_l], 31), (g_c, [(.bool x_o.Num.Neg), v_s, (.bool x_o.Den.Neg), v_t], 31)] x, ⟨Stp.refl _ _, (OwnK.cons (hp.own 2 _ _ _ rfl).1 (OwnK.cons (hp.own 1 _ _ _ rfl).1 OwnK.nil))⟩, fun x hx => ⟨hz.held hx.1, hx.2⟩, ?_⟩
  have hz := Stp.refl I_1d w_1c
  refine vch_l e15 rfl ?_
  obtain ⟨x_1g, q_1h, h⟩ := bind_some h
  refine ev_call rfl rfl C34 (((integer_Mul_ok n) _ _  (Int_2.mk x_g.Den.Neg x_g.Den.Mag) v_l r_n (Int_2.mk x_o.Den.Neg x_o.Den.Mag) v_t r_v hp.imm _ q_1h).mono ?_)
  rintro _ w_1i ⟨I_1j, v_1k, hv, hq, r_1l⟩
  replace hv := hv.symm
  subst hv
  have hs := hq.st
  have hp := hp.join0 hq
  replace hz := hz.trans hs
  replace r_1f := r_1f.step hs
  replace r_u := r_u.step hs
  replace r_v := r_v.step hs
  replace r_m := r_m.step hs
  replace r_n := r_n.step hs
  refine ⟨fun x => Stp I_1j w_1i I_1j x ∧ OwnK [(g_a, [(.bool x_g.Num.Neg), v_k, (.bool x_g.Den.Neg), v_l], 31), (g_c, [(.bool x_o.Num.Neg), v_s, (.bool x_o.Den.Neg), v_t], 31)] x, ⟨Stp.refl _ _, (OwnK.cons (hp.own 2 _ _ _ rfl).1 (OwnK.cons (hp.own 1 _ _ _ rfl).1 OwnK.nil))⟩, fun x hx => ⟨hz.held hx.1, hx.2⟩, ?_⟩
  have hz := Stp.refl I_1j w_1i
  refine vch_l e16 rfl ?_
  obtain ⟨x_1m, q_1n, h⟩ := bind_some h
  refine ev_call rfl rfl C28 (((rational_New_ok n) _ _  x_1a v_1e r_1f x_1g v_1k r_1l hp.imm _ q_1n).mono ?_)
  rintro _ w_1o ⟨I_1p, v_1q, v_1r, hv, hq, r_1s, r_1t⟩
  replace hv := hv.symm
  subst hv
  have hs := hq.st
  have hp := hp.join0 hq
  replace hz := hz.trans hs
  replace r_u := r_u.step hs
  replace r_v := r_v.step hs
  replace r_m := r_m.step hs
  replace r_n := r_n.step hs
  refine ⟨fun x => Stp I_1p w_1o I_1p x ∧ OwnK [(g_a, [(.bool x_g.Num.Neg), v_k, (.bool x_g.Den.Neg), v_l], 31), (g_c, [(.bool x_o.Num.Neg), v_s, (.bool x_o.Den.Neg), v_t], 31)] x, ⟨Stp.refl _ _, (OwnK.cons (hp.own 2 _ _ _ rfl).1 (OwnK.cons (hp.own 1 _ _ _ rfl).1 OwnK.nil))⟩, fun x hx => ⟨hz.held hx.1, hx.2⟩, ?_⟩
  have hz := Stp.refl I_1p w_1o
  refine vch_l e17 rfl ?_
  refine ev_storeA hp (i := 0) (off := 0) (vs := [(.bool x_1m.Num.Neg), v_1q, (.bool x_1m.Den.Neg), v_1r]) rfl rfl rfl rfl T31 rfl (Nat.le_of_ble_eq_true rfl) (ones_cons rfl (ones_cons r_1s.one (ones_cons rfl (ones_cons r_1t.one ones_nil)))) ?_
  intro w_1u hp hs
  replace hz := hz.trans hs
  replace r_1s := r_1s.step hs
  replace r_1t := r_1t.step hs
  replace r_u := r_u.step hs
  replace r_v := r_v.step hs
  replace r_m := r_m.step hs
  replace r_n := r_n.step hs
  refine ⟨fun x => Stp I_1p w_1u I_1p x ∧ OwnK [(g_a, [(.bool x_g.Num.Neg), v_k, (.bool x_g.Den.Neg), v_l], 31), (g_c, [(.bool x_o.Num.Neg), v_s, (.bool x_o.Den.Neg), v_t], 31)] x, ⟨Stp.refl _ _, (OwnK.cons (hp.own 2 _ _ _ rfl).1 (OwnK.cons (hp.own 1 _ _ _ rfl).1 OwnK.nil))⟩, fun x hx => ⟨hz.held hx.1, hx.2⟩, ?_⟩
  have hz := Stp.refl I_1p w_1u
  refine vch_end ?_
  apply go
  obtain rfl := Option.some.inj h
  refine ⟨_, run_loadVarA T31 rfl (hp.at_ (i := 0) rfl), ?_⟩
  have hp := hp.sel [] (by decide)
  exact ⟨I_1p, v_1q, v_1r, rfl, hp, r_1s, r_1t⟩

end Go.Proofs.YtcdboppghnchpaaDoor

namespace Go.Proofs.YtcdboppghnchpaaDoor
open Go Go.Proofs.YtcdboppghnchpaaDoor.Gw Go.RowKit
set_option linter.unusedVariables false
attribute [local irreducible] Ev EvQ EvS EvH
def rotation_Cosine_S (f : Rot → Option Rational) : Prop := ∀ (w0 : World) (I0 : Nat → Prop) (x_0 : Rot) (v_1 : Value) (r_2 : RepS (dI .u32) w0 I0 v_1 x_0.P.Mag) (v_3 : Value) (r_4 : RepS (dI .u32) w0 I0 v_3 x_0.Q.Mag) (hI : ∀ g, I0 g → g < w0.heap.size) (r : Rational), f x_0 = some r →
    Ret Tryd.prog 37 #[(.agg #[(.bool x_0.P.Neg), v_1, (.bool x_0.Q.Neg), v_3])] w0 fun v w1 => ∃ (I1 : Nat → Prop) (u_5 : Value) (u_6 : Value), v = (.agg #[(.bool r.Num.Neg), u_5, (.bool r.Den.Neg), u_6]) ∧ Hp ⟨w0, I0, []⟩ I1 [] w1 ∧ RepS (dI .u32) w1 I1 u_5 r.Num.Mag ∧ RepS (dI .u32) w1 I1 u_6 r.Den.Mag
theorem rotation_Cosine_ok (n : Nat) : rotation_Cosine_S (rotation_Cosine n) := by
  intro w0 I0 x_0 v_1 r_2 v_3 r_4 hI r h
  unfold rotation_Cosine at h
  refine enter Tryd.func37 rfl (Nat.le_of_ble_eq_true rfl) ?_
  have hp : Hp ⟨w0, I0, []⟩ I0 [] w0 := Hp.start hI
  apply go
  apply go
  refine ev_boxI hp rfl rfl ?_
  intro p_5 I_6 w_7 hp hs a_8
  replace r_2 := r_2.step hs
  replace r_4 := r_4.step hs
  refine ev_alloc hp rfl T31 ?_
  intro g_9 w_a hp hs
  replace a_8 := a_8.step hs
  replace r_2 := r_2.step hs
  replace r_4 := r_4.step hs
  apply go
  apply go
  refine ev (rn_load rfl rfl (run_loadVarA T38 rfl a_8)) ?_
  obtain ⟨x_b, q_c, h⟩ := bind_some h
  refine ev_call rfl rfl C56 (((rotation_Norm_ok n) _ _  (Rot.mk (Int_2.mk x_0.P.Neg x_0.P.Mag) (Int_2.mk x_0.Q.Neg x_0.Q.Mag)) v_1 r_2 v_3 r_4 hp.imm _ q_c).mono ?_)
  rintro _ w_d ⟨I_e, v_f, v_g, hv, hq, r_h, r_i⟩
  replace hv := hv.symm
  subst hv
  have hs := hq.st
  have hp := hp.join0 hq
  obtain ⟨x_j, q_k, h⟩ := bind_some h
  refine ev_call rfl rfl C55 (((rotation_of_ok n) _ _  x_b v_f r_h v_g r_i hp.imm _ q_k).mono ?_)
  rintro _ w_l ⟨I_m, v_n, v_o, hv, hq, r_p, r_q⟩
  replace hv := hv.symm
  subst hv
  have hs := hq.st
  have hp := hp.join0 hq
  refine ev_alloc hp rfl T121 ?_
  intro g_r w_s hp hs
  replace r_p := r_p.step hs
  replace r_q := r_q.step hs
  refine ev_storeA hp (i := 0) (off := 0) (vs := [(.bool x_j.re.Neg), v_n, (.bool x_j.im.Neg), v_o]) rfl rfl rfl rfl T121 rfl (Nat.le_of_ble_eq_true rfl) (ones_cons rfl (ones_cons r_p.one (ones_cons rfl (ones_cons r_q.one ones_nil)))) ?_
  intro w_t hp hs
  replace r_p := r_p.step hs
  replace r_q := r_q.step hs
  apply go
  have hs := hp.stp (Ch.drew [] w_t)
  have hp := hp.drew
  replace r_p := r_p.step hs
  replace r_q := r_q.step hs
  refine W.held [(0, true), (1, true), (4, true), (2, false), (3, true), (5, false), (6, false), (7, false)] (fun x => Stp I_m w_t.drew I_m x ∧ OwnK [(g_r, [(.bool x_j.re.Neg), v_n, (.bool x_j.im.Neg), v_o], 121)] x) MX (by kernel_rfl) ⟨Stp.refl _ _, (OwnK.cons (hp.own 0 _ _ _ rfl).1 OwnK.nil)⟩ ?_
  have hz := Stp.refl I_m w_t.drew
  refine evh (fun w' hw => rn_load rfl rfl (run_loadVarA T121 rfl (hw.2.at_ (i := 0) rfl))) ?_
  refine evh (fun w' hw => rn_load rfl rfl (run_loadVarA T121 rfl (hw.2.at_ (i := 0) rfl))) ?_
  refine evh (fun w' hw => rn_load rfl rfl (run_loadVarA T121 rfl (hw.2.at_ (i := 0) rfl))) ?_
  obtain ⟨x_u, q_v, h⟩ := bind_some h
  refine ev_call rfl rfl C57 (((rotation_gauss_times_ok n) _ _  (Gauss.mk (Int_2.mk x_j.re.Neg x_j.re.Mag) (Int_2.mk x_j.im.Neg x_j.im.Mag)) v_n r_p v_o r_q (Gauss.mk (Int_2.mk x_j.re.Neg x_j.re.Mag) (Int_2.mk x_j.im.Neg x_j.im.Mag)) v_n r_p v_o r_q hp.imm _ q_v).mono ?_)
  rintro _ w_w ⟨I_x, v_y, v_z, hv, hq, r_10, r_11⟩
  replace hv := hv.symm
  subst hv
  have hs := hq.st
  have hp := hp.join0 hq
  replace hz := hz.trans hs
  replace r_p := r_p.step hs
  replace r_q := r_q.step hs
  refine ⟨fun x => Stp I_x w_w I_x x ∧ OwnK [(g_r, [(.bool x_j.re.Neg), v_n, (.bool x_j.im.Neg), v_o], 121)] x, ⟨Stp.refl _ _, (OwnK.cons (hp.own 0 _ _ _ rfl).1 OwnK.nil)⟩, fun x hx => ⟨hz.held hx.1, hx.2⟩, ?_⟩
  have hz := Stp.refl I_x w_w
  refine evh0 (rn_fieldV (off := 0) (size := 2) rfl rfl (by unfold FT; kernel_rfl) T29) ?_
  obtain ⟨x_12, q_13, h⟩ := bind_some h
  refine ev_call rfl rfl C58 (((rotation_gauss_square_ok n) _ _  (Gauss.mk (Int_2.mk x_j.re.Neg x_j.re.Mag) (Int_2.mk x_j.im.Neg x_j.im.Mag)) v_n r_p v_o r_q hp.imm _ q_13).mono ?_)
  rintro _ w_14 ⟨I_15, v_16, hv, hq, r_17⟩
  replace hv := hv.symm
  subst hv
  have hs := hq.st
  have hp := hp.join0 hq
  replace hz := hz.trans hs
  replace r_10 := r_10.step hs
  replace r_p := r_p.step hs
  replace r_q := r_q.step hs
  refine ⟨fun x => Stp I_15 w_14 I_15 x ∧ OwnK [(g_r, [(.bool x_j.re.Neg), v_n, (.bool x_j.im.Neg), v_o], 121)] x, ⟨Stp.refl _ _, (OwnK.cons (hp.own 0 _ _ _ rfl).1 OwnK.nil)⟩, fun x hx => ⟨hz.held hx.1, hx.2⟩, ?_⟩
  have hz := Stp.refl I_15 w_14
  obtain ⟨x_18, q_19, h⟩ := bind_some h
  refine ev_call rfl rfl C28 (((rational_New_ok n) _ _  (Int_2.mk x_u.re.Neg x_u.re.Mag) v_y r_10 x_12 v_16 r_17 hp.imm _ q_19).mono ?_)
  rintro _ w_1a ⟨I_1b, v_1c, v_1d, hv, hq, r_1e, r_1f⟩
  replace hv := hv.symm
  subst hv
  have hs := hq.st
  have hp := hp.join0 hq
  replace hz := hz.trans hs
  replace r_p := r_p.step hs
  replace r_q := r_q.step hs
  refine ⟨fun x => Stp I_1b w_1a I_1b x ∧ OwnK [(g_r, [(.bool x_j.re.Neg), v_n, (.bool x_j.im.Neg), v_o], 121)] x, ⟨Stp.refl _ _, (OwnK.cons (hp.own 0 _ _ _ rfl).1 OwnK.nil)⟩, fun x hx => ⟨hz.held hx.1, hx.2⟩, ?_⟩
  have hz := Stp.refl I_1b w_1a
  refine ev_storeA hp (i := 1) (off := 0) (vs := [(.bool x_18.Num.Neg), v_1c, (.bool x_18.Den.Neg), v_1d]) rfl rfl rfl rfl T31 rfl (Nat.le_of_ble_eq_true rfl) (ones_cons rfl (ones_cons r_1e.one (ones_cons rfl (ones_cons r_1f.one ones_nil)))) ?_
  intro w_1g hp hs
  replace hz := hz.trans hs
  replace r_p := r_p.step hs
  replace r_q := r_q.step hs
  replace r_1e := r_1e.step hs
  replace r_1f := r_1f.step hs
  refine ⟨fun x => Stp I_1b w_1g I_1b x ∧ OwnK [(g_r, [(.bool x_j.re.Neg), v_n, (.bool x_j.im.Neg), v_o], 121)] x, ⟨Stp.refl _ _, (OwnK.cons (hp.own 0 _ _ _ rfl).1 OwnK.nil)⟩, fun x hx => ⟨hz.held hx.1, hx.2⟩, ?_⟩
  have hz := Stp.refl I_1b w_1g
  apply go
  obtain rfl := Option.some.inj h
  refine ⟨_, run_loadVarA T31 rfl (hp.at_ (i := 1) rfl), ?_⟩
  have hp := hp.sel [] (by decide)
  exact ⟨I_1b, v_1c, v_1d, rfl, hp, r_1e, r_1f⟩

end Go.Proofs.YtcdboppghnchpaaDoor

namespace Go.Proofs.YtcdboppghnchpaaDoor
open Go Go.Proofs.YtcdboppghnchpaaDoor.Gw Go.RowKit
set_option linter.unusedVariables false
attribute [local irreducible] Ev EvQ EvS EvH
def rational_Neg_S (f : Rational → Option Rational) : Prop := ∀ (w0 : World) (I0 : Nat → Prop) (x_0 : Rational) (v_1 : Value) (r_2 : RepS (dI .u32) w0 I0 v_1 x_0.Num.Mag) (v_3 : Value) (r_4 : RepS (dI .u32) w0 I0 v_3 x_0.Den.Mag) (hI : ∀ g, I0 g → g < w0.heap.size) (r : Rational), f x_0 = some r →
    Ret Tryd.prog 41 #[(.agg #[(.bool x_0.Num.Neg), v_1, (.bool x_0.Den.Neg), v_3])] w0 fun v w1 => ∃ (I1 : Nat → Prop) (u_5 : Value) (u_6 : Value), v = (.agg #[(.bool r.Num.Neg), u_5, (.bool r.Den.Neg), u_6]) ∧ Hp ⟨w0, I0, []⟩ I1 [] w1 ∧ RepS (dI .u32) w1 I1 u_5 r.Num.Mag ∧ RepS (dI .u32) w1 I1 u_6 r.Den.Mag
theorem rational_Neg_ok (n : Nat) : rational_Neg_S (rational_Neg n) := by
  intro w0 I0 x_0 v_1 r_2 v_3 r_4 hI r h
  unfold rational_Neg at h
  refine enter Tryd.func41 rfl (Nat.le_of_ble_eq_true rfl) ?_
  have hp : Hp ⟨w0, I0, []⟩ I0 [] w0 := Hp.start hI
  apply go
  apply go
  refine ev_boxI hp rfl rfl ?_
  intro p_5 I_6 w_7 hp hs a_8
  replace r_2 := r_2.step hs
  replace r_4 := r_4.step hs
  refine ev_alloc hp rfl T31 ?_
  intro g_9 w_a hp hs
  replace a_8 := a_8.step hs
  replace r_2 := r_2.step hs
  replace r_4 := r_4.step hs
  apply go
  have hs := hp.stp (Ch.drew [] w_a)
  have hp := hp.drew
  replace a_8 := a_8.step hs
  replace r_2 := r_2.step hs
  replace r_4 := r_4.step hs
  refine W.held [(0, true), (1, true), (3, true), (4, true), (2, false), (5, false), (6, false)] (Stp I_6 w_a.drew I_6) MX (by kernel_rfl) (Stp.refl _ _) ?_
  have hz := Stp.refl I_6 w_a.drew
  refine evh0 (rn_field rfl rfl FO31_0) ?_
  refine evh (fun w' hw => rn_load rfl rfl (run_loadVarA T29 rfl (((a_8.step hw).drop 0).take 2))) ?_
  refine evh0 (rn_field rfl rfl FO31_1) ?_
  refine evh (fun w' hw => rn_load rfl rfl (run_loadVarA T29 rfl (((a_8.step hw).drop 2).take 2))) ?_
  obtain ⟨x_b, q_c, h⟩ := bind_some h
  refine ev_call rfl rfl C60 (((integer_Neg_ok n) _ _  (Int_2.mk x_0.Num.Neg x_0.Num.Mag) v_1 r_2 hp.imm _ q_c).mono ?_)
  rintro _ w_d ⟨I_e, v_f, hv, hq, r_g⟩
  replace hv := hv.symm
  subst hv
  have hs := hq.st
  have hp := hp.join0 hq
  replace hz := hz.trans hs
  replace r_4 := r_4.step hs
  refine ⟨Stp I_e w_d I_e, Stp.refl _ _, fun x hx => hz.held hx, ?_⟩
  have hz := Stp.refl I_e w_d
  obtain ⟨x_h, q_i, h⟩ := bind_some h
  refine ev_call rfl rfl C28 (((rational_New_ok n) _ _  x_b v_f r_g (Int_2.mk x_0.Den.Neg x_0.Den.Mag) v_3 r_4 hp.imm _ q_i).mono ?_)
  rintro _ w_j ⟨I_k, v_l, v_m, hv, hq, r_n, r_o⟩
  replace hv := hv.symm
  subst hv
  have hs := hq.st
  have hp := hp.join0 hq
  replace hz := hz.trans hs
  refine ⟨Stp I_k w_j I_k, Stp.refl _ _, fun x hx => hz.held hx, ?_⟩
  have hz := Stp.refl I_k w_j
  refine ev_storeA hp (i := 0) (off := 0) (vs := [(.bool x_h.Num.Neg), v_l, (.bool x_h.Den.Neg), v_m]) rfl rfl rfl rfl T31 rfl (Nat.le_of_ble_eq_true rfl) (ones_cons rfl (ones_cons r_n.one (ones_cons rfl (ones_cons r_o.one ones_nil)))) ?_
  intro w_p hp hs
  replace hz := hz.trans hs
  replace r_n := r_n.step hs
  replace r_o := r_o.step hs
  refine ⟨Stp I_k w_p I_k, Stp.refl _ _, fun x hx => hz.held hx, ?_⟩
  have hz := Stp.refl I_k w_p
  apply go
  obtain rfl := Option.some.inj h
  refine ⟨_, run_loadVarA T31 rfl (hp.at_ (i := 0) rfl), ?_⟩
  have hp := hp.sel [] (by decide)
  exact ⟨I_k, v_l, v_m, rfl, hp, r_n, r_o⟩

end Go.Proofs.YtcdboppghnchpaaDoor

namespace Go.Proofs.YtcdboppghnchpaaDoor
open Go Go.Proofs.YtcdboppghnchpaaDoor.Gw Go.RowKit
set_option linter.unusedVariables false
attribute [local irreducible] Ev EvQ EvS EvH
def rational_Sub_S (f : Rational → Rational → Option Rational) : Prop := ∀ (w0 : World) (I0 : Nat → Prop) (x_0 : Rational) (v_1 : Value) (r_2 : RepS (dI .u32) w0 I0 v_1 x_0.Num.Mag) (v_3 : Value) (r_4 : RepS (dI .u32) w0 I0 v_3 x_0.Den.Mag) (x_5 : Rational) (v_6 : Value) (r_7 : RepS (dI .u32) w0 I0 v_6 x_5.Num.Mag) (v_8 : Value) (r_9 : RepS (dI .u32) w0 I0 v_8 x_5.Den.Mag) (hI : ∀ g, I0 g → g < w0.heap.size) (r : Rational), f x_0 x_5 = some r →
    Ret Tryd.prog 38 #[(.agg #[(.bool x_0.Num.Neg), v_1, (.bool x_0.Den.Neg), v_3]), (.agg #[(.bool x_5.Num.Neg), v_6, (.bool x_5.Den.Neg), v_8])] w0 fun v w1 => ∃ (I1 : Nat → Prop) (u_a : Value) (u_b : Value), v = (.agg #[(.bool r.Num.Neg), u_a, (.bool r.Den.Neg), u_b]) ∧ Hp ⟨w0, I0, []⟩ I1 [] w1 ∧ RepS (dI .u32) w1 I1 u_a r.Num.Mag ∧ RepS (dI .u32) w1 I1 u_b r.Den.Mag
theorem rational_Sub_ok (n : Nat) : rational_Sub_S (rational_Sub n) := by
  intro w0 I0 x_0 v_1 r_2 v_3 r_4 x_5 v_6 r_7 v_8 r_9 hI r h
  unfold rational_Sub at h
  refine enter Tryd.func38 rfl (Nat.le_of_ble_eq_true rfl) ?_
  have hp : Hp ⟨w0, I0, []⟩ I0 [] w0 := Hp.start hI
  apply go
  apply go
  refine ev_boxI hp rfl rfl ?_
  intro p_a I_b w_c hp hs a_d
  replace r_7 := r_7.step hs
  replace r_9 := r_9.step hs
  replace r_2 := r_2.step hs
  replace r_4 := r_4.step hs
  refine ev_boxI hp rfl rfl ?_
  intro p_e I_f w_g hp hs a_h
  replace a_d := a_d.step hs
  replace r_2 := r_2.step hs
  replace r_4 := r_4.step hs
  replace r_7 := r_7.step hs
  replace r_9 := r_9.step hs
  refine ev_alloc hp rfl T31 ?_
  intro g_i w_j hp hs
  replace a_d := a_d.step hs
  replace r_2 := r_2.step hs
  replace r_4 := r_4.step hs
  replace a_h := a_h.step hs
  replace r_7 := r_7.step hs
  replace r_9 := r_9.step hs
  apply go
  have hs := hp.stp (Ch.drew [] w_j)
  have hp := hp.drew
  replace a_d := a_d.step hs
  replace r_2 := r_2.step hs
  replace r_4 := r_4.step hs
  replace a_h := a_h.step hs
  replace r_7 := r_7.step hs
  replace r_9 := r_9.step hs
  refine W.held [(0, true), (1, true), (2, false), (3, false), (4, false)] (Stp I_f w_j.drew I_f) MX (by kernel_rfl) (Stp.refl _ _) ?_
  have hz := Stp.refl I_f w_j.drew
  refine evh (fun w' hw => rn_load rfl rfl (run_loadVarA T31 rfl (a_d.step hw))) ?_
  refine evh (fun w' hw => rn_load rfl rfl (run_loadVarA T31 rfl (a_h.step hw))) ?_
  obtain ⟨x_k, q_l, h⟩ := bind_some h
  refine ev_call rfl rfl C41 (((rational_Neg_ok n) _ _  (Rational.mk (Int_2.mk x_5.Num.Neg x_5.Num.Mag) (Int_2.mk x_5.Den.Neg x_5.Den.Mag)) v_6 r_7 v_8 r_9 hp.imm _ q_l).mono ?_)
  rintro _ w_m ⟨I_n, v_o, v_p, hv, hq, r_q, r_r⟩
  replace hv := hv.symm
  subst hv
  have hs := hq.st
  have hp := hp.join0 hq
  replace hz := hz.trans hs
  replace r_2 := r_2.step hs
  replace r_4 := r_4.step hs
  refine ⟨Stp I_n w_m I_n, Stp.refl _ _, fun x hx => hz.held hx, ?_⟩
  have hz := Stp.refl I_n w_m
  obtain ⟨x_s, q_t, h⟩ := bind_some h
  refine ev_call rfl rfl C10 (((rational_Add_ok n) _ _  (Rational.mk (Int_2.mk x_0.Num.Neg x_0.Num.Mag) (Int_2.mk x_0.Den.Neg x_0.Den.Mag)) v_1 r_2 v_3 r_4 x_k v_o r_q v_p r_r hp.imm _ q_t).mono ?_)
  rintro _ w_u ⟨I_v, v_w, v_x, hv, hq, r_y, r_z⟩
  replace hv := hv.symm
  subst hv
  have hs := hq.st
  have hp := hp.join0 hq
  replace hz := hz.trans hs
  refine ⟨Stp I_v w_u I_v, Stp.refl _ _, fun x hx => hz.held hx, ?_⟩
  have hz := Stp.refl I_v w_u
  refine ev_storeA hp (i := 0) (off := 0) (vs := [(.bool x_s.Num.Neg), v_w, (.bool x_s.Den.Neg), v_x]) rfl rfl rfl rfl T31 rfl (Nat.le_of_ble_eq_true rfl) (ones_cons rfl (ones_cons r_y.one (ones_cons rfl (ones_cons r_z.one ones_nil)))) ?_
  intro w_10 hp hs
  replace hz := hz.trans hs
  replace r_y := r_y.step hs
  replace r_z := r_z.step hs
  refine ⟨Stp I_v w_10 I_v, Stp.refl _ _, fun x hx => hz.held hx, ?_⟩
  have hz := Stp.refl I_v w_10
  apply go
  obtain rfl := Option.some.inj h
  refine ⟨_, run_loadVarA T31 rfl (hp.at_ (i := 0) rfl), ?_⟩
  have hp := hp.sel [] (by decide)
  exact ⟨I_v, v_w, v_x, rfl, hp, r_y, r_z⟩

end Go.Proofs.YtcdboppghnchpaaDoor

namespace Go.Proofs.YtcdboppghnchpaaDoor
open Go Go.Proofs.YtcdboppghnchpaaDoor.Gw Go.RowKit
set_option linter.unusedVariables false
attribute [local irreducible] Ev EvQ EvS EvH
def rational_Mul_S (f : Rational → Rational → Option Rational) : Prop := ∀ (w0 : World) (I0 : Nat → Prop) (x_0 : Rational) (v_1 : Value) (r_2 : RepS (dI .u32) w0 I0 v_1 x_0.Num.Mag) (v_3 : Value) (r_4 : RepS (dI .u32) w0 I0 v_3 x_0.Den.Mag) (x_5 : Rational) (v_6 : Value) (r_7 : RepS (dI .u32) w0 I0 v_6 x_5.Num.Mag) (v_8 : Value) (r_9 : RepS (dI .u32) w0 I0 v_8 x_5.Den.Mag) (hI : ∀ g, I0 g → g < w0.heap.size) (r : Rational), f x_0 x_5 = some r →
    Ret Tryd.prog 39 #[(.agg #[(.bool x_0.Num.Neg), v_1, (.bool x_0.Den.Neg), v_3]), (.agg #[(.bool x_5.Num.Neg), v_6, (.bool x_5.Den.Neg), v_8])] w0 fun v w1 => ∃ (I1 : Nat → Prop) (u_a : Value) (u_b : Value), v = (.agg #[(.bool r.Num.Neg), u_a, (.bool r.Den.Neg), u_b]) ∧ Hp ⟨w0, I0, []⟩ I1 [] w1 ∧ RepS (dI .u32) w1 I1 u_a r.Num.Mag ∧ RepS (dI .u32) w1 I1 u_b r.Den.Mag
theorem rational_Mul_ok (n : Nat) : rational_Mul_S (rational_Mul n) := by
  intro w0 I0 x_0 v_1 r_2 v_3 r_4 x_5 v_6 r_7 v_8 r_9 hI r h
  unfold rational_Mul at h
  refine enter Tryd.func39 rfl (Nat.le_of_ble_eq_true rfl) ?_
  have hp : Hp ⟨w0, I0, []⟩ I0 [] w0 := Hp.start hI
  apply go
  apply go
  refine ev_boxI hp rfl rfl ?_
  intro p_a I_b w_c hp hs a_d
  replace r_7 := r_7.step hs
  replace r_9 := r_9.step hs
  replace r_2 := r_2.step hs
  replace r_4 := r_4.step hs
  refine ev_boxI hp rfl rfl ?_
  intro p_e I_f w_g hp hs a_h
  replace a_d := a_d.step hs
  replace r_2 := r_2.step hs
  replace r_4 := r_4.step hs
  replace r_7 := r_7.step hs
  replace r_9 := r_9.step hs
  refine ev_alloc hp rfl T31 ?_
  intro g_i w_j hp hs
  replace a_d := a_d.step hs
  replace r_2 := r_2.step hs
  replace r_4 := r_4.step hs
  replace a_h := a_h.step hs
  replace r_7 := r_7.step hs
  replace r_9 := r_9.step hs
  apply go
  have hs := hp.stp (Ch.drew [] w_j)
  have hp := hp.drew
  replace a_d := a_d.step hs
  replace r_2 := r_2.step hs
  replace r_4 := r_4.step hs
  replace a_h := a_h.step hs
  replace r_7 := r_7.step hs
  replace r_9 := r_9.step hs
  refine W.held [(0, true), (1, true), (2, true), (3, true), (5, true), (6, true), (7, true), (8, true), (4, false), (9, false), (10, false), (11, false)] (Stp I_f w_j.drew I_f) MX (by kernel_rfl) (Stp.refl _ _) ?_
  have hz := Stp.refl I_f w_j.drew
  refine evh0 (rn_field rfl rfl FO31_0) ?_
  refine evh (fun w' hw => rn_load rfl rfl (run_loadVarA T29 rfl (((a_d.step hw).drop 0).take 2))) ?_
  refine evh0 (rn_field rfl rfl FO31_0) ?_
  refine evh (fun w' hw => rn_load rfl rfl (run_loadVarA T29 rfl (((a_h.step hw).drop 0).take 2))) ?_
  refine evh0 (rn_field rfl rfl FO31_1) ?_
  refine evh (fun w' hw => rn_load rfl rfl (run_loadVarA T29 rfl (((a_d.step hw).drop 2).take 2))) ?_
  refine evh0 (rn_field rfl rfl FO31_1) ?_
  refine evh (fun w' hw => rn_load rfl rfl (run_loadVarA T29 rfl (((a_h.step hw).drop 2).take 2))) ?_
  obtain ⟨x_k, q_l, h⟩ := bind_some h
  refine ev_call rfl rfl C34 (((integer_Mul_ok n) _ _  (Int_2.mk x_0.Num.Neg x_0.Num.Mag) v_1 r_2 (Int_2.mk x_5.Num.Neg x_5.Num.Mag) v_6 r_7 hp.imm _ q_l).mono ?_)
  rintro _ w_m ⟨I_n, v_o, hv, hq, r_p⟩
  replace hv := hv.symm
  subst hv
  have hs := hq.st
  have hp := hp.join0 hq
  replace hz := hz.trans hs
  replace r_4 := r_4.step hs
  replace r_9 := r_9.step hs
  refine ⟨Stp I_n w_m I_n, Stp.refl _ _, fun x hx => hz.held hx, ?_⟩
  have hz := Stp.refl I_n w_m
  obtain ⟨x_q, q_r, h⟩ := bind_some h
  refine ev_call rfl rfl C34 (((integer_Mul_ok n) _ _  (Int_2.mk x_0.Den.Neg x_0.Den.Mag) v_3 r_4 (Int_2.mk x_5.Den.Neg x_5.Den.Mag) v_8 r_9 hp.imm _ q_r).mono ?_)
  rintro _ w_s ⟨I_t, v_u, hv, hq, r_v⟩
  replace hv := hv.symm
  subst hv
  have hs := hq.st
  have hp := hp.join0 hq
  replace hz := hz.trans hs
  replace r_p := r_p.step hs
  refine ⟨Stp I_t w_s I_t, Stp.refl _ _, fun x hx => hz.held hx, ?_⟩
  have hz := Stp.refl I_t w_s
  obtain ⟨x_w, q_x, h⟩ := bind_some h
  refine ev_call rfl rfl C28 (((rational_New_ok n) _ _  x_k v_o r_p x_q v_u r_v hp.imm _ q_x).mono ?_)
  rintro _ w_y ⟨I_z, v_10, v_11, hv, hq, r_12, r_13⟩
  replace hv := hv.symm
  subst hv
  have hs := hq.st
  have hp := hp.join0 hq
  replace hz := hz.trans hs
  refine ⟨Stp I_z w_y I_z, Stp.refl _ _, fun x hx => hz.held hx, ?_⟩
  have hz := Stp.refl I_z w_y
  refine ev_storeA hp (i := 0) (off := 0) (vs := [(.bool x_w.Num.Neg), v_10, (.bool x_w.Den.Neg), v_11]) rfl rfl rfl rfl T31 rfl (Nat.le_of_ble_eq_true rfl) (ones_cons rfl (ones_cons r_12.one (ones_cons rfl (ones_cons r_13.one ones_nil)))) ?_
  intro w_14 hp hs
  replace hz := hz.trans hs
  replace r_12 := r_12.step hs
  replace r_13 := r_13.step hs
  refine ⟨Stp I_z w_14 I_z, Stp.refl _ _, fun x hx => hz.held hx, ?_⟩
  have hz := Stp.refl I_z w_14
  apply go
  obtain rfl := Option.some.inj h
  refine ⟨_, run_loadVarA T31 rfl (hp.at_ (i := 0) rfl), ?_⟩
  have hp := hp.sel [] (by decide)
  exact ⟨I_z, v_10, v_11, rfl, hp, r_12, r_13⟩

end Go.Proofs.YtcdboppghnchpaaDoor

namespace Go.Proofs.YtcdboppghnchpaaDoor
open Go Go.Proofs.YtcdboppghnchpaaDoor.Gw Go.RowKit
set_option linter.unusedVariables false
attribute [local irreducible] Ev EvQ EvS EvH vch
def rotation_Turn_S (f : Rot → Rational → Rational → Option (Rational × Rational)) : Prop := ∀ (w0 : World) (I0 : Nat → Prop) (x_0 : Rot) (v_1 : Value) (r_2 : RepS (dI .u32) w0 I0 v_1 x_0.P.Mag) (v_3 : Value) (r_4 : RepS (dI .u32) w0 I0 v_3 x_0.Q.Mag) (x_5 : Rational) (v_6 : Value) (r_7 : RepS (dI .u32) w0 I0 v_6 x_5.Num.Mag) (v_8 : Value) (r_9 : RepS (dI .u32) w0 I0 v_8 x_5.Den.Mag) (x_a : Rational) (v_b : Value) (r_c : RepS (dI .u32) w0 I0 v_b x_a.Num.Mag) (v_d : Value) (r_e : RepS (dI .u32) w0 I0 v_d x_a.Den.Mag) (hI : ∀ g, I0 g → g < w0.heap.size) (r : (Rational × Rational)), f x_0 x_5 x_a = some r →
    Ret Tryd.prog 12 #[(.agg #[(.bool x_0.P.Neg), v_1, (.bool x_0.Q.Neg), v_3]), (.agg #[(.bool x_5.Num.Neg), v_6, (.bool x_5.Den.Neg), v_8]), (.agg #[(.bool x_a.Num.Neg), v_b, (.bool x_a.Den.Neg), v_d])] w0 fun v w1 => ∃ (I1 : Nat → Prop) (u_f : Value) (u_g : Value) (u_h : Value) (u_i : Value), v = (.tuple #[(.agg #[(.bool r.1.Num.Neg), u_f, (.bool r.1.Den.Neg), u_g]), (.agg #[(.bool r.2.Num.Neg), u_h, (.bool r.2.Den.Neg), u_i])]) ∧ Hp ⟨w0, I0, []⟩ I1 [] w1 ∧ RepS (dI .u32) w1 I1 u_f r.1.Num.Mag ∧ RepS (dI .u32) w1 I1 u_g r.1.Den.Mag ∧ RepS (dI .u32) w1 I1 u_h r.2.Num.Mag ∧ RepS (dI .u32) w1 I1 u_i r.2.Den.Mag
set_option maxHeartbeats 6400000 in
theorem rotation_Turn_ok (n : Nat) : rotation_Turn_S (rotation_Turn n) := by
  intro w0 I0 x_0 v_1 r_2 v_3 r_4 x_5 v_6 r_7 v_8 r_9 x_a v_b r_c v_d r_e hI r h
  unfold rotation_Turn at h
  refine enter Tryd.func12 rfl (Nat.le_of_ble_eq_true rfl) ?_
  have hp : Hp ⟨w0, I0, []⟩ I0 [] w0 := Hp.start hI
  apply go
  apply go
  refine ev_boxI hp rfl rfl ?_
  intro p_f I_g w_h hp hs a_i
  replace r_7 := r_7.step hs
  replace r_9 := r_9.step hs
  replace r_c := r_c.step hs
  replace r_e := r_e.step hs
  replace r_2 := r_2.step hs
  replace r_4 := r_4.step hs
  refine ev_boxI hp rfl rfl ?_
  intro p_j I_k w_l hp hs a_m
  replace r_c := r_c.step hs
  replace r_e := r_e.step hs
  replace a_i := a_i.step hs
  replace r_2 := r_2.step hs
  replace r_4 := r_4.step hs
  replace r_7 := r_7.step hs
  replace r_9 := r_9.step hs
  refine ev_boxI hp rfl rfl ?_
  intro p_n I_o w_p hp hs a_q
  replace a_i := a_i.step hs
  replace r_2 := r_2.step hs
  replace r_4 := r_4.step hs
  replace a_m := a_m.step hs
  replace r_7 := r_7.step hs
  replace r_9 := r_9.step hs
  replace r_c := r_c.step hs
  replace r_e := r_e.step hs
  refine ev_alloc hp rfl T31 ?_
  intro g_r w_s hp hs
  replace a_i := a_i.step hs
  replace r_2 := r_2.step hs
  replace r_4 := r_4.step hs
  replace a_m := a_m.step hs
  replace r_7 := r_7.step hs
  replace r_9 := r_9.step hs
  replace a_q := a_q.step hs
  replace r_c := r_c.step hs
  replace r_e := r_e.step hs
  refine ev_alloc hp rfl T31 ?_
  intro g_t w_u hp hs
  replace a_i := a_i.step hs
  replace r_2 := r_2.step hs
  replace r_4 := r_4.step hs
  replace a_m := a_m.step hs
  replace r_7 := r_7.step hs
  replace r_9 := r_9.step hs
  replace a_q := a_q.step hs
  replace r_c := r_c.step hs
  replace r_e := r_e.step hs
  obtain ⟨y_v, q_w, h⟩ := bind_some h
  refine W.cut (γ := (Bool × (List Int) × Bool × (List Int) × Bool × (List Int) × Bool × (List Int) × Nat × Value × Value × Nat × Value × Value × (Nat → Prop))) (fun g => [(4, (.pointer (some (p_j)))), (5, (.pointer (some (p_n)))), (6, (.pointer (some ⟨g_r, 0, none⟩))), (7, (.pointer (some ⟨g_t, 0, none⟩))), (8, (.pointer (some ⟨(g.2.2.2.2.2.2.2.2.1), 0, none⟩))), (9, (.pointer (some ⟨(g.2.2.2.2.2.2.2.2.2.2.2.1), 0, none⟩)))]) (fun g w' => y_v = ((g.1), (g.2.1), (g.2.2.1), (g.2.2.2.1), (g.2.2.2.2.1), (g.2.2.2.2.2.1), (g.2.2.2.2.2.2.1), (g.2.2.2.2.2.2.2.1)) ∧ Hp ⟨w0, I0, []⟩ (g.2.2.2.2.2.2.2.2.2.2.2.2.2.2) [some (g_r, [(.bool false), (.slice none 0 0), (.bool false), (.slice none 0 0)], 31), some (g_t, [(.bool false), (.slice none 0 0), (.bool false), (.slice none 0 0)], 31), some ((g.2.2.2.2.2.2.2.2.1), [(.bool (g.1)), (g.2.2.2.2.2.2.2.2.2.1), (.bool (g.2.2.1)), (g.2.2.2.2.2.2.2.2.2.2.1)], 31), some ((g.2.2.2.2.2.2.2.2.2.2.2.1), [(.bool (g.2.2.2.2.1)), (g.2.2.2.2.2.2.2.2.2.2.2.2.1), (.bool (g.2.2.2.2.2.2.1)), (g.2.2.2.2.2.2.2.2.2.2.2.2.2.1)], 31)] w' ∧ RepS (dI .u32) w' (g.2.2.2.2.2.2.2.2.2.2.2.2.2.2) v_6 x_5.Num.Mag ∧ RepS (dI .u32) w' (g.2.2.2.2.2.2.2.2.2.2.2.2.2.2) v_8 x_5.Den.Mag ∧ At w' (g.2.2.2.2.2.2.2.2.2.2.2.2.2.2) p_j [(.bool x_5.Num.Neg), v_6, (.bool x_5.Den.Neg), v_8] ∧ RepS (dI .u32) w' (g.2.2.2.2.2.2.2.2.2.2.2.2.2.2) v_b x_a.Num.Mag ∧ RepS (dI .u32) w' (g.2.2.2.2.2.2.2.2.2.2.2.2.2.2) v_d x_a.Den.Mag ∧ At w' (g.2.2.2.2.2.2.2.2.2.2.2.2.2.2) p_n [(.bool x_a.Num.Neg), v_b, (.bool x_a.Den.Neg), v_d] ∧ RepS (dI .u32) w' (g.2.2.2.2.2.2.2.2.2.2.2.2.2.2) (g.2.2.2.2.2.2.2.2.2.1) (g.2.1) ∧ RepS (dI .u32) w' (g.2.2.2.2.2.2.2.2.2.2.2.2.2.2) (g.2.2.2.2.2.2.2.2.2.2.1) (g.2.2.2.1) ∧ RepS (dI .u32) w' (g.2.2.2.2.2.2.2.2.2.2.2.2.2.2) (g.2.2.2.2.2.2.2.2.2.2.2.2.1) (g.2.2.2.2.2.1) ∧ RepS (dI .u32) w' (g.2.2.2.2.2.2.2.2.2.2.2.2.2.2) (g.2.2.2.2.2.2.2.2.2.2.2.2.2.1) (g.2.2.2.2.2.2.2.1)) ?_ ?_
  ·
    have hs := hp.stp (Ch.drew [] w_u)
    have hp := hp.drew
    replace a_i := a_i.step hs
    replace r_2 := r_2.step hs
    replace r_4 := r_4.step hs
    replace a_m := a_m.step hs
    replace r_7 := r_7.step hs
    replace r_9 := r_9.step hs
    replace a_q := a_q.step hs
    replace r_c := r_c.step hs
    replace r_e := r_e.step hs
    refine W.heldG (.q 0 (.q 2 (.l 1 (.l 3 (.l 4 (.l 5 (.l 6 (.l 7 .done .no) .no) .no) (.l 5 (.l 4 (.l 6 (.l 7 .done .no) .no) .no) .no)) (.l 4 (.l 3 (.l 5 (.l 6 (.l 7 .done .no) .no) .no) (.l 5 (.l 3 (.l 6 (.l 7 .done .no) .no) .no) .no)) (.l 5 (.l 3 (.l 4 (.l 6 (.l 7 .done .no) .no) .no) (.l 4 (.l 3 (.l 6 (.l 7 .done .no) .no) .no) .no)) .no))) (.l 4 (.l 1 (.l 3 (.l 5 (.l 6 (.l 7 .done .no) .no) .no) (.l 5 (.l 3 (.l 6 (.l 7 .done .no) .no) .no) .no)) (.l 5 (.l 1 (.l 3 (.l 6 (.l 7 .done .no) .no) .no) .no) .no)) (.l 5 (.l 1 (.l 3 (.l 4 (.l 6 (.l 7 .done .no) .no) .no) (.l 4 (.l 3 (.l 6 (.l 7 .done .no) .no) .no) .no)) (.l 4 (.l 1 (.l 3 (.l 6 (.l 7 .done .no) .no) .no) .no) .no)) .no))))) (SK (Stp I_o w_u.drew I_o) [] []) MX (by kernel_rfl) ⟨Stp.refl _ _, kp_nil⟩ ?_
    have hz := Stp.refl I_o w_u.drew
    refine ⟨SK.same (by kernel_rfl), ?_⟩
    refine evh (fun w' hw => rn_load rfl rfl (run_loadVarA T38 rfl (a_i.step (S0.si hw)))) ?_
    refine ⟨SK.same (by kernel_rfl), ?_⟩
    refine evh (fun w' hw => rn_load rfl rfl (run_loadVarA T38 rfl (a_i.step (S0.si hw)))) ?_
    refine ⟨?_, ?_⟩
    ·
      obtain ⟨x_x, q_y, q_w⟩ := bind_some q_w
      refine ev_call rfl rfl C37 (((rotation_Cosine_ok n) _ _  (Rot.mk (Int_2.mk x_0.P.Neg x_0.P.Mag) (Int_2.mk x_0.Q.Neg x_0.Q.Mag)) v_1 r_2 v_3 r_4 hp.imm _ q_y).mono ?_)
      rintro _ w_z ⟨I_10, v_11, v_12, hv, hq, r_13, r_14⟩
      replace hv := hv.symm
      subst hv
      have hs := hq.st
      have hp := hp.join0 hq
      replace hz := hz.trans hs
      replace a_m := a_m.step hs
      replace r_7 := r_7.step hs
      replace r_9 := r_9.step hs
      replace a_q := a_q.step hs
      replace r_c := r_c.step hs
      replace r_e := r_e.step hs
      replace r_2 := r_2.step hs
      replace r_4 := r_4.step hs
      refine ⟨SK (Stp I_10 w_z I_10) [] [], ⟨Stp.refl _ _, kp_nil⟩, fun L x h => ⟨hz.held h.1, h.2⟩, ?_⟩
      have hz := Stp.refl I_10 w_z
      refine ⟨?_, ?_⟩
      ·
        obtain ⟨x_15, q_16, q_w⟩ := bind_some q_w
        refine ev_call rfl rfl C27 (((rotation_Sine_ok n) _ _  (Rot.mk (Int_2.mk x_0.P.Neg x_0.P.Mag) (Int_2.mk x_0.Q.Neg x_0.Q.Mag)) v_1 r_2 v_3 r_4 hp.imm _ q_16).mono ?_)
        rintro _ w_17 ⟨I_18, v_19, v_1a, hv, hq, r_1b, r_1c⟩
        replace hv := hv.symm
        subst hv
        have hs := hq.st
        have hp := hp.join0 hq
        replace hz := hz.trans hs
        replace a_m := a_m.step hs
        replace r_7 := r_7.step hs
        replace r_9 := r_9.step hs
        replace a_q := a_q.step hs
        replace r_c := r_c.step hs
        replace r_e := r_e.step hs
        replace r_13 := r_13.step hs
        replace r_14 := r_14.step hs
        refine ⟨SK (Stp I_18 w_17 I_18) [] [], ⟨Stp.refl _ _, kp_nil⟩, fun L x h => ⟨hz.held h.1, h.2⟩, ?_⟩
        have hz := Stp.refl I_18 w_17
        refine ⟨?_, ?_⟩
        ·
          refine ev_alloc hp rfl T31 ?_
          intro g_1d w_1e hp hs
          replace hz := hz.trans hs
          replace a_m := a_m.step hs
          replace r_7 := r_7.step hs
          replace r_9 := r_9.step hs
          replace a_q := a_q.step hs
          replace r_c := r_c.step hs
          replace r_e := r_e.step hs
          replace r_13 := r_13.step hs
          replace r_14 := r_14.step hs
          replace r_1b := r_1b.step hs
          replace r_1c := r_1c.step hs
          refine ⟨SK (Stp I_18 w_1e I_18) [] [], ⟨Stp.refl _ _, kp_nil⟩, fun L x h => ⟨hz.held h.1, h.2⟩, ?_⟩
          have hz := Stp.refl I_18 w_1e
          refine ⟨?_, trivial⟩
          refine ev_alloc hp rfl T31 ?_
          intro g_1f w_1g hp hs
          replace hz := hz.trans hs
          replace a_m := a_m.step hs
          replace r_7 := r_7.step hs
          replace r_9 := r_9.step hs
          replace a_q := a_q.step hs
          replace r_c := r_c.step hs
          replace r_e := r_e.step hs
          replace r_13 := r_13.step hs
          replace r_14 := r_14.step hs
          replace r_1b := r_1b.step hs
          replace r_1c := r_1c.step hs
          refine ⟨SK (Stp I_18 w_1g I_18) [] [], ⟨Stp.refl _ _, kp_nil⟩, fun L x h => ⟨hz.held h.1, h.2⟩, ?_⟩
          have hz := Stp.refl I_18 w_1g
          refine ⟨?_, trivial⟩
          refine ev_storeA hp (i := 1) (off := 0) (vs := [(.bool x_x.Num.Neg), v_11, (.bool x_x.Den.Neg), v_12]) rfl rfl rfl rfl T31 rfl (Nat.le_of_ble_eq_true rfl) (ones_cons rfl (ones_cons r_13.one (ones_cons rfl (ones_cons r_14.one ones_nil)))) ?_
          intro w_1h hp hs
          replace hz := hz.trans hs
          replace a_m := a_m.step hs
          replace r_7 := r_7.step hs
          replace r_9 := r_9.step hs
          replace a_q := a_q.step hs
          replace r_c := r_c.step hs
          replace r_e := r_e.step hs
          replace r_1b := r_1b.step hs
          replace r_1c := r_1c.step hs
          replace r_13 := r_13.step hs
          replace r_14 := r_14.step hs
          refine ⟨SK (Stp I_18 w_1h I_18) [] [], ⟨Stp.refl _ _, kp_nil⟩, fun L x h => ⟨hz.held h.1, h.2⟩, ?_⟩
          have hz := Stp.refl I_18 w_1h
          refine ⟨?_, trivial⟩
          refine ev_storeA hp (i := 0) (off := 0) (vs := [(.bool x_15.Num.Neg), v_19, (.bool x_15.Den.Neg), v_1a]) rfl rfl rfl rfl T31 rfl (Nat.le_of_ble_eq_true rfl) (ones_cons rfl (ones_cons r_1b.one (ones_cons rfl (ones_cons r_1c.one ones_nil)))) ?_
          intro w_1i hp hs
          replace hz := hz.trans hs
          replace a_m := a_m.step hs
          replace r_7 := r_7.step hs
          replace r_9 := r_9.step hs
          replace a_q := a_q.step hs
          replace r_c := r_c.step hs
          replace r_e := r_e.step hs
          replace r_1b := r_1b.step hs
          replace r_1c := r_1c.step hs
          replace r_13 := r_13.step hs
          replace r_14 := r_14.step hs
          refine ⟨SK (Stp I_18 w_1i I_18) [] [], ⟨Stp.refl _ _, kp_nil⟩, fun L x h => ⟨hz.held h.1, h.2⟩, ?_⟩
          have hz := Stp.refl I_18 w_1i
          obtain rfl := Option.some.inj q_w
          have hp := hp.perm [3, 2, 1, 0] (by decide)
          exact ⟨(x_x.Num.Neg, x_x.Num.Mag, x_x.Den.Neg, x_x.Den.Mag, x_15.Num.Neg, x_15.Num.Mag, x_15.Den.Neg, x_15.Den.Mag, g_1d, v_11, v_12, g_1f, v_19, v_1a, I_18), (.c rfl (.c rfl (.c rfl (.c rfl (.c rfl (.c rfl .n)))))), rfl, hp, r_7, r_9, a_m, r_c, r_e, a_q, r_13, r_14, r_1b, r_1c⟩
        refine ⟨?_, trivial⟩
        refine ev_alloc hp rfl T31 ?_
        intro g_1j w_1k hp hs
        replace hz := hz.trans hs
        replace a_m := a_m.step hs
        replace r_7 := r_7.step hs
        replace r_9 := r_9.step hs
        replace a_q := a_q.step hs
        replace r_c := r_c.step hs
        replace r_e := r_e.step hs
        replace r_13 := r_13.step hs
        replace r_14 := r_14.step hs
        replace r_1b := r_1b.step hs
        replace r_1c := r_1c.step hs
        refine ⟨SK (Stp I_18 w_1k I_18) [] [], ⟨Stp.refl _ _, kp_nil⟩, fun L x h => ⟨hz.held h.1, h.2⟩, ?_⟩
        have hz := Stp.refl I_18 w_1k
        refine ⟨?_, trivial⟩
        refine ev_alloc hp rfl T31 ?_
        intro g_1l w_1m hp hs
        replace hz := hz.trans hs
        replace a_m := a_m.step hs
        replace r_7 := r_7.step hs
        replace r_9 := r_9.step hs
        replace a_q := a_q.step hs
        replace r_c := r_c.step hs
        replace r_e := r_e.step hs
        replace r_13 := r_13.step hs
        replace r_14 := r_14.step hs
        replace r_1b := r_1b.step hs
        replace r_1c := r_1c.step hs
        refine ⟨SK (Stp I_18 w_1m I_18) [] [], ⟨Stp.refl _ _, kp_nil⟩, fun L x h => ⟨hz.held h.1, h.2⟩, ?_⟩
        have hz := Stp.refl I_18 w_1m
        refine ⟨?_, trivial⟩
        refine ev_storeA hp (i := 0) (off := 0) (vs := [(.bool x_x.Num.Neg), v_11, (.bool x_x.Den.Neg), v_12]) rfl rfl rfl rfl T31 rfl (Nat.le_of_ble_eq_true rfl) (ones_cons rfl (ones_cons r_13.one (ones_cons rfl (ones_cons r_14.one ones_nil)))) ?_
        intro w_1n hp hs
        replace hz := hz.trans hs
        replace a_m := a_m.step hs
        replace r_7 := r_7.step hs
        replace r_9 := r_9.step hs
        replace a_q := a_q.step hs
        replace r_c := r_c.step hs
        replace r_e := r_e.step hs
        replace r_1b := r_1b.step hs
        replace r_1c := r_1c.step hs
        replace r_13 := r_13.step hs
        replace r_14 := r_14.step hs
        refine ⟨SK (Stp I_18 w_1n I_18) [] [], ⟨Stp.refl _ _, kp_nil⟩, fun L x h => ⟨hz.held h.1, h.2⟩, ?_⟩
        have hz := Stp.refl I_18 w_1n
        refine ⟨?_, trivial⟩
        refine ev_storeA hp (i := 1) (off := 0) (vs := [(.bool x_15.Num.Neg), v_19, (.bool x_15.Den.Neg), v_1a]) rfl rfl rfl rfl T31 rfl (Nat.le_of_ble_eq_true rfl) (ones_cons rfl (ones_cons r_1b.one (ones_cons rfl (ones_cons r_1c.one ones_nil)))) ?_
        intro w_1o hp hs
        replace hz := hz.trans hs
        replace a_m := a_m.step hs
        replace r_7 := r_7.step hs
        replace r_9 := r_9.step hs
        replace a_q := a_q.step hs
        replace r_c := r_c.step hs
        replace r_e := r_e.step hs
        replace r_13 := r_13.step hs
        replace r_14 := r_14.step hs
        replace r_1b := r_1b.step hs
        replace r_1c := r_1c.step hs
        refine ⟨SK (Stp I_18 w_1o I_18) [] [], ⟨Stp.refl _ _, kp_nil⟩, fun L x h => ⟨hz.held h.1, h.2⟩, ?_⟩
        have hz := Stp.refl I_18 w_1o
        obtain rfl := Option.some.inj q_w
        have hp := hp.perm [3, 2, 0, 1] (by decide)
        exact ⟨(x_x.Num.Neg, x_x.Num.Mag, x_x.Den.Neg, x_x.Den.Mag, x_15.Num.Neg, x_15.Num.Mag, x_15.Den.Neg, x_15.Den.Mag, g_1l, v_11, v_12, g_1j, v_19, v_1a, I_18), (.c rfl (.c rfl (.c rfl (.c rfl (.c rfl (.c rfl .n)))))), rfl, hp, r_7, r_9, a_m, r_c, r_e, a_q, r_13, r_14, r_1b, r_1c⟩
      refine ⟨?_, ?_⟩
      ·
        refine ev_alloc hp rfl T31 ?_
        intro g_1p w_1q hp hs
        replace hz := hz.trans hs
        replace a_m := a_m.step hs
        replace r_7 := r_7.step hs
        replace r_9 := r_9.step hs
        replace a_q := a_q.step hs
        replace r_c := r_c.step hs
        replace r_e := r_e.step hs
        replace r_2 := r_2.step hs
        replace r_4 := r_4.step hs
        replace r_13 := r_13.step hs
        replace r_14 := r_14.step hs
        refine ⟨SK (Stp I_10 w_1q I_10) [] [], ⟨Stp.refl _ _, kp_nil⟩, fun L x h => ⟨hz.held h.1, h.2⟩, ?_⟩
        have hz := Stp.refl I_10 w_1q
        refine ⟨?_, ?_⟩
        ·
          obtain ⟨x_1r, q_1s, q_w⟩ := bind_some q_w
          refine ev_call rfl rfl C27 (((rotation_Sine_ok n) _ _  (Rot.mk (Int_2.mk x_0.P.Neg x_0.P.Mag) (Int_2.mk x_0.Q.Neg x_0.Q.Mag)) v_1 r_2 v_3 r_4 hp.imm _ q_1s).mono ?_)
          rintro _ w_1t ⟨I_1u, v_1v, v_1w, hv, hq, r_1x, r_1y⟩
          replace hv := hv.symm
          subst hv
          have hs := hq.st
          have hp := hp.join0 hq
          replace hz := hz.trans hs
          replace a_m := a_m.step hs
          replace r_7 := r_7.step hs
          replace r_9 := r_9.step hs
          replace a_q := a_q.step hs
          replace r_c := r_c.step hs
          replace r_e := r_e.step hs
          replace r_13 := r_13.step hs
          replace r_14 := r_14.step hs
          refine ⟨SK (Stp I_1u w_1t I_1u) [] [], ⟨Stp.refl _ _, kp_nil⟩, fun L x h => ⟨hz.held h.1, h.2⟩, ?_⟩
          have hz := Stp.refl I_1u w_1t
          refine ⟨?_, trivial⟩
          refine ev_alloc hp rfl T31 ?_
          intro g_1z w_20 hp hs
          replace hz := hz.trans hs
          replace a_m := a_m.step hs
          replace r_7 := r_7.step hs
          replace r_9 := r_9.step hs
          replace a_q := a_q.step hs
          replace r_c := r_c.step hs
          replace r_e := r_e.step hs
          replace r_13 := r_13.step hs
          replace r_14 := r_14.step hs
          replace r_1x := r_1x.step hs
          replace r_1y := r_1y.step hs
          refine ⟨SK (Stp I_1u w_20 I_1u) [] [], ⟨Stp.refl _ _, kp_nil⟩, fun L x h => ⟨hz.held h.1, h.2⟩, ?_⟩
          have hz := Stp.refl I_1u w_20
          refine ⟨?_, trivial⟩
          refine ev_storeA hp (i := 1) (off := 0) (vs := [(.bool x_x.Num.Neg), v_11, (.bool x_x.Den.Neg), v_12]) rfl rfl rfl rfl T31 rfl (Nat.le_of_ble_eq_true rfl) (ones_cons rfl (ones_cons r_13.one (ones_cons rfl (ones_cons r_14.one ones_nil)))) ?_
          intro w_21 hp hs
          replace hz := hz.trans hs
          replace a_m := a_m.step hs
          replace r_7 := r_7.step hs
          replace r_9 := r_9.step hs
          replace a_q := a_q.step hs
          replace r_c := r_c.step hs
          replace r_e := r_e.step hs
          replace r_1x := r_1x.step hs
          replace r_1y := r_1y.step hs
          replace r_13 := r_13.step hs
          replace r_14 := r_14.step hs
          refine ⟨SK (Stp I_1u w_21 I_1u) [] [], ⟨Stp.refl _ _, kp_nil⟩, fun L x h => ⟨hz.held h.1, h.2⟩, ?_⟩
          have hz := Stp.refl I_1u w_21
          refine ⟨?_, trivial⟩
          refine ev_storeA hp (i := 0) (off := 0) (vs := [(.bool x_1r.Num.Neg), v_1v, (.bool x_1r.Den.Neg), v_1w]) rfl rfl rfl rfl T31 rfl (Nat.le_of_ble_eq_true rfl) (ones_cons rfl (ones_cons r_1x.one (ones_cons rfl (ones_cons r_1y.one ones_nil)))) ?_
          intro w_22 hp hs
          replace hz := hz.trans hs
          replace a_m := a_m.step hs
          replace r_7 := r_7.step hs
          replace r_9 := r_9.step hs
          replace a_q := a_q.step hs
          replace r_c := r_c.step hs
          replace r_e := r_e.step hs
          replace r_1x := r_1x.step hs
          replace r_1y := r_1y.step hs
          replace r_13 := r_13.step hs
          replace r_14 := r_14.step hs
          refine ⟨SK (Stp I_1u w_22 I_1u) [] [], ⟨Stp.refl _ _, kp_nil⟩, fun L x h => ⟨hz.held h.1, h.2⟩, ?_⟩
          have hz := Stp.refl I_1u w_22
          obtain rfl := Option.some.inj q_w
          have hp := hp.perm [3, 2, 1, 0] (by decide)
          exact ⟨(x_x.Num.Neg, x_x.Num.Mag, x_x.Den.Neg, x_x.Den.Mag, x_1r.Num.Neg, x_1r.Num.Mag, x_1r.Den.Neg, x_1r.Den.Mag, g_1p, v_11, v_12, g_1z, v_1v, v_1w, I_1u), (.c rfl (.c rfl (.c rfl (.c rfl (.c rfl (.c rfl .n)))))), rfl, hp, r_7, r_9, a_m, r_c, r_e, a_q, r_13, r_14, r_1x, r_1y⟩
        refine ⟨?_, trivial⟩
        refine ev_alloc hp rfl T31 ?_
        intro g_23 w_24 hp hs
        replace hz := hz.trans hs
        replace a_m := a_m.step hs
        replace r_7 := r_7.step hs
        replace r_9 := r_9.step hs
        replace a_q := a_q.step hs
        replace r_c := r_c.step hs
        replace r_e := r_e.step hs
        replace r_2 := r_2.step hs
        replace r_4 := r_4.step hs
        replace r_13 := r_13.step hs
        replace r_14 := r_14.step hs
        refine ⟨SK (Stp I_10 w_24 I_10) [] [], ⟨Stp.refl _ _, kp_nil⟩, fun L x h => ⟨hz.held h.1, h.2⟩, ?_⟩
        have hz := Stp.refl I_10 w_24
        refine ⟨?_, trivial⟩
        obtain ⟨x_25, q_26, q_w⟩ := bind_some q_w
        refine ev_call rfl rfl C27 (((rotation_Sine_ok n) _ _  (Rot.mk (Int_2.mk x_0.P.Neg x_0.P.Mag) (Int_2.mk x_0.Q.Neg x_0.Q.Mag)) v_1 r_2 v_3 r_4 hp.imm _ q_26).mono ?_)
        rintro _ w_27 ⟨I_28, v_29, v_2a, hv, hq, r_2b, r_2c⟩
        replace hv := hv.symm
        subst hv
        have hs := hq.st
        have hp := hp.join0 hq
        replace hz := hz.trans hs
        replace a_m := a_m.step hs
        replace r_7 := r_7.step hs
        replace r_9 := r_9.step hs
        replace a_q := a_q.step hs
        replace r_c := r_c.step hs
        replace r_e := r_e.step hs
        replace r_13 := r_13.step hs
        replace r_14 := r_14.step hs
        refine ⟨SK (Stp I_28 w_27 I_28) [] [], ⟨Stp.refl _ _, kp_nil⟩, fun L x h => ⟨hz.held h.1, h.2⟩, ?_⟩
        have hz := Stp.refl I_28 w_27
        refine ⟨?_, trivial⟩
        refine ev_storeA hp (i := 1) (off := 0) (vs := [(.bool x_x.Num.Neg), v_11, (.bool x_x.Den.Neg), v_12]) rfl rfl rfl rfl T31 rfl (Nat.le_of_ble_eq_true rfl) (ones_cons rfl (ones_cons r_13.one (ones_cons rfl (ones_cons r_14.one ones_nil)))) ?_
        intro w_2d hp hs
        replace hz := hz.trans hs
        replace a_m := a_m.step hs
        replace r_7 := r_7.step hs
        replace r_9 := r_9.step hs
        replace a_q := a_q.step hs
        replace r_c := r_c.step hs
        replace r_e := r_e.step hs
        replace r_2b := r_2b.step hs
        replace r_2c := r_2c.step hs
        replace r_13 := r_13.step hs
        replace r_14 := r_14.step hs
        refine ⟨SK (Stp I_28 w_2d I_28) [] [], ⟨Stp.refl _ _, kp_nil⟩, fun L x h => ⟨hz.held h.1, h.2⟩, ?_⟩
        have hz := Stp.refl I_28 w_2d
        refine ⟨?_, trivial⟩
        refine ev_storeA hp (i := 0) (off := 0) (vs := [(.bool x_25.Num.Neg), v_29, (.bool x_25.Den.Neg), v_2a]) rfl rfl rfl rfl T31 rfl (Nat.le_of_ble_eq_true rfl) (ones_cons rfl (ones_cons r_2b.one (ones_cons rfl (ones_cons r_2c.one ones_nil)))) ?_
        intro w_2e hp hs
        replace hz := hz.trans hs
        replace a_m := a_m.step hs
        replace r_7 := r_7.step hs
        replace r_9 := r_9.step hs
        replace a_q := a_q.step hs
        replace r_c := r_c.step hs
        replace r_e := r_e.step hs
        replace r_2b := r_2b.step hs
        replace r_2c := r_2c.step hs
        replace r_13 := r_13.step hs
        replace r_14 := r_14.step hs
        refine ⟨SK (Stp I_28 w_2e I_28) [] [], ⟨Stp.refl _ _, kp_nil⟩, fun L x h => ⟨hz.held h.1, h.2⟩, ?_⟩
        have hz := Stp.refl I_28 w_2e
        obtain rfl := Option.some.inj q_w
        have hp := hp.perm [3, 2, 1, 0] (by decide)
        exact ⟨(x_x.Num.Neg, x_x.Num.Mag, x_x.Den.Neg, x_x.Den.Mag, x_25.Num.Neg, x_25.Num.Mag, x_25.Den.Neg, x_25.Den.Mag, g_1p, v_11, v_12, g_23, v_29, v_2a, I_28), (.c rfl (.c rfl (.c rfl (.c rfl (.c rfl (.c rfl .n)))))), rfl, hp, r_7, r_9, a_m, r_c, r_e, a_q, r_13, r_14, r_2b, r_2c⟩
      refine ⟨?_, trivial⟩
      refine ev_alloc hp rfl T31 ?_
      intro g_2f w_2g hp hs
      replace hz := hz.trans hs
      replace a_m := a_m.step hs
      replace r_7 := r_7.step hs
      replace r_9 := r_9.step hs
      replace a_q := a_q.step hs
      replace r_c := r_c.step hs
      replace r_e := r_e.step hs
      replace r_2 := r_2.step hs
      replace r_4 := r_4.step hs
      replace r_13 := r_13.step hs
      replace r_14 := r_14.step hs
      refine ⟨SK (Stp I_10 w_2g I_10) [] [], ⟨Stp.refl _ _, kp_nil⟩, fun L x h => ⟨hz.held h.1, h.2⟩, ?_⟩
      have hz := Stp.refl I_10 w_2g
      refine ⟨?_, ?_⟩
      ·
        obtain ⟨x_2h, q_2i, q_w⟩ := bind_some q_w
        refine ev_call rfl rfl C27 (((rotation_Sine_ok n) _ _  (Rot.mk (Int_2.mk x_0.P.Neg x_0.P.Mag) (Int_2.mk x_0.Q.Neg x_0.Q.Mag)) v_1 r_2 v_3 r_4 hp.imm _ q_2i).mono ?_)
        rintro _ w_2j ⟨I_2k, v_2l, v_2m, hv, hq, r_2n, r_2o⟩
        replace hv := hv.symm
        subst hv
        have hs := hq.st
        have hp := hp.join0 hq
        replace hz := hz.trans hs
        replace a_m := a_m.step hs
        replace r_7 := r_7.step hs
        replace r_9 := r_9.step hs
        replace a_q := a_q.step hs
        replace r_c := r_c.step hs
        replace r_e := r_e.step hs
        replace r_13 := r_13.step hs
        replace r_14 := r_14.step hs
        refine ⟨SK (Stp I_2k w_2j I_2k) [] [], ⟨Stp.refl _ _, kp_nil⟩, fun L x h => ⟨hz.held h.1, h.2⟩, ?_⟩
        have hz := Stp.refl I_2k w_2j
        refine ⟨?_, trivial⟩
        refine ev_alloc hp rfl T31 ?_
        intro g_2p w_2q hp hs
        replace hz := hz.trans hs
        replace a_m := a_m.step hs
        replace r_7 := r_7.step hs
        replace r_9 := r_9.step hs
        replace a_q := a_q.step hs
        replace r_c := r_c.step hs
        replace r_e := r_e.step hs
        replace r_13 := r_13.step hs
        replace r_14 := r_14.step hs
        replace r_2n := r_2n.step hs
        replace r_2o := r_2o.step hs
        refine ⟨SK (Stp I_2k w_2q I_2k) [] [], ⟨Stp.refl _ _, kp_nil⟩, fun L x h => ⟨hz.held h.1, h.2⟩, ?_⟩
        have hz := Stp.refl I_2k w_2q
        refine ⟨?_, trivial⟩
        refine ev_storeA hp (i := 0) (off := 0) (vs := [(.bool x_x.Num.Neg), v_11, (.bool x_x.Den.Neg), v_12]) rfl rfl rfl rfl T31 rfl (Nat.le_of_ble_eq_true rfl) (ones_cons rfl (ones_cons r_13.one (ones_cons rfl (ones_cons r_14.one ones_nil)))) ?_
        intro w_2r hp hs
        replace hz := hz.trans hs
        replace a_m := a_m.step hs
        replace r_7 := r_7.step hs
        replace r_9 := r_9.step hs
        replace a_q := a_q.step hs
        replace r_c := r_c.step hs
        replace r_e := r_e.step hs
        replace r_2n := r_2n.step hs
        replace r_2o := r_2o.step hs
        replace r_13 := r_13.step hs
        replace r_14 := r_14.step hs
        refine ⟨SK (Stp I_2k w_2r I_2k) [] [], ⟨Stp.refl _ _, kp_nil⟩, fun L x h => ⟨hz.held h.1, h.2⟩, ?_⟩
        have hz := Stp.refl I_2k w_2r
        refine ⟨?_, trivial⟩
        refine ev_storeA hp (i := 1) (off := 0) (vs := [(.bool x_2h.Num.Neg), v_2l, (.bool x_2h.Den.Neg), v_2m]) rfl rfl rfl rfl T31 rfl (Nat.le_of_ble_eq_true rfl) (ones_cons rfl (ones_cons r_2n.one (ones_cons rfl (ones_cons r_2o.one ones_nil)))) ?_
        intro w_2s hp hs
        replace hz := hz.trans hs
        replace a_m := a_m.step hs
        replace r_7 := r_7.step hs
        replace r_9 := r_9.step hs
        replace a_q := a_q.step hs
        replace r_c := r_c.step hs
        replace r_e := r_e.step hs
        replace r_13 := r_13.step hs
        replace r_14 := r_14.step hs
        replace r_2n := r_2n.step hs
        replace r_2o := r_2o.step hs
        refine ⟨SK (Stp I_2k w_2s I_2k) [] [], ⟨Stp.refl _ _, kp_nil⟩, fun L x h => ⟨hz.held h.1, h.2⟩, ?_⟩
        have hz := Stp.refl I_2k w_2s
        obtain rfl := Option.some.inj q_w
        have hp := hp.perm [3, 2, 0, 1] (by decide)
        exact ⟨(x_x.Num.Neg, x_x.Num.Mag, x_x.Den.Neg, x_x.Den.Mag, x_2h.Num.Neg, x_2h.Num.Mag, x_2h.Den.Neg, x_2h.Den.Mag, g_2p, v_11, v_12, g_2f, v_2l, v_2m, I_2k), (.c rfl (.c rfl (.c rfl (.c rfl (.c rfl (.c rfl .n)))))), rfl, hp, r_7, r_9, a_m, r_c, r_e, a_q, r_13, r_14, r_2n, r_2o⟩
      refine ⟨?_, trivial⟩
      refine ev_alloc hp rfl T31 ?_
      intro g_2t w_2u hp hs
      replace hz := hz.trans hs
      replace a_m := a_m.step hs
      replace r_7 := r_7.step hs
      replace r_9 := r_9.step hs
      replace a_q := a_q.step hs
      replace r_c := r_c.step hs
      replace r_e := r_e.step hs
      replace r_2 := r_2.step hs
      replace r_4 := r_4.step hs
      replace r_13 := r_13.step hs
      replace r_14 := r_14.step hs
      refine ⟨SK (Stp I_10 w_2u I_10) [] [], ⟨Stp.refl _ _, kp_nil⟩, fun L x h => ⟨hz.held h.1, h.2⟩, ?_⟩
      have hz := Stp.refl I_10 w_2u
      refine ⟨?_, trivial⟩
      obtain ⟨x_2v, q_2w, q_w⟩ := bind_some q_w
      refine ev_call rfl rfl C27 (((rotation_Sine_ok n) _ _  (Rot.mk (Int_2.mk x_0.P.Neg x_0.P.Mag) (Int_2.mk x_0.Q.Neg x_0.Q.Mag)) v_1 r_2 v_3 r_4 hp.imm _ q_2w).mono ?_)
      rintro _ w_2x ⟨I_2y, v_2z, v_30, hv, hq, r_31, r_32⟩
      replace hv := hv.symm
      subst hv
      have hs := hq.st
      have hp := hp.join0 hq
      replace hz := hz.trans hs
      replace a_m := a_m.step hs
      replace r_7 := r_7.step hs
      replace r_9 := r_9.step hs
      replace a_q := a_q.step hs
      replace r_c := r_c.step hs
      replace r_e := r_e.step hs
      replace r_13 := r_13.step hs
      replace r_14 := r_14.step hs
      refine ⟨SK (Stp I_2y w_2x I_2y) [] [], ⟨Stp.refl _ _, kp_nil⟩, fun L x h => ⟨hz.held h.1, h.2⟩, ?_⟩
      have hz := Stp.refl I_2y w_2x
      refine ⟨?_, trivial⟩
      refine ev_storeA hp (i := 0) (off := 0) (vs := [(.bool x_x.Num.Neg), v_11, (.bool x_x.Den.Neg), v_12]) rfl rfl rfl rfl T31 rfl (Nat.le_of_ble_eq_true rfl) (ones_cons rfl (ones_cons r_13.one (ones_cons rfl (ones_cons r_14.one ones_nil)))) ?_
      intro w_33 hp hs
      replace hz := hz.trans hs
      replace a_m := a_m.step hs
      replace r_7 := r_7.step hs
      replace r_9 := r_9.step hs
      replace a_q := a_q.step hs
      replace r_c := r_c.step hs
      replace r_e := r_e.step hs
      replace r_31 := r_31.step hs
      replace r_32 := r_32.step hs
      replace r_13 := r_13.step hs
      replace r_14 := r_14.step hs
      refine ⟨SK (Stp I_2y w_33 I_2y) [] [], ⟨Stp.refl _ _, kp_nil⟩, fun L x h => ⟨hz.held h.1, h.2⟩, ?_⟩
      have hz := Stp.refl I_2y w_33
      refine ⟨?_, trivial⟩
      refine ev_storeA hp (i := 1) (off := 0) (vs := [(.bool x_2v.Num.Neg), v_2z, (.bool x_2v.Den.Neg), v_30]) rfl rfl rfl rfl T31 rfl (Nat.le_of_ble_eq_true rfl) (ones_cons rfl (ones_cons r_31.one (ones_cons rfl (ones_cons r_32.one ones_nil)))) ?_
      intro w_34 hp hs
      replace hz := hz.trans hs
      replace a_m := a_m.step hs
      replace r_7 := r_7.step hs
      replace r_9 := r_9.step hs
      replace a_q := a_q.step hs
      replace r_c := r_c.step hs
      replace r_e := r_e.step hs
      replace r_13 := r_13.step hs
      replace r_14 := r_14.step hs
      replace r_31 := r_31.step hs
      replace r_32 := r_32.step hs
      refine ⟨SK (Stp I_2y w_34 I_2y) [] [], ⟨Stp.refl _ _, kp_nil⟩, fun L x h => ⟨hz.held h.1, h.2⟩, ?_⟩
      have hz := Stp.refl I_2y w_34
      obtain rfl := Option.some.inj q_w
      have hp := hp.perm [3, 2, 0, 1] (by decide)
      exact ⟨(x_x.Num.Neg, x_x.Num.Mag, x_x.Den.Neg, x_x.Den.Mag, x_2v.Num.Neg, x_2v.Num.Mag, x_2v.Den.Neg, x_2v.Den.Mag, g_2t, v_11, v_12, g_2f, v_2z, v_30, I_2y), (.c rfl (.c rfl (.c rfl (.c rfl (.c rfl (.c rfl .n)))))), rfl, hp, r_7, r_9, a_m, r_c, r_e, a_q, r_13, r_14, r_31, r_32⟩
    refine ⟨?_, ?_⟩
    ·
      refine ev_alloc hp rfl T31 ?_
      intro g_35 w_36 hp hs
      replace hz := hz.trans hs
      replace a_m := a_m.step hs
      replace r_7 := r_7.step hs
      replace r_9 := r_9.step hs
      replace a_q := a_q.step hs
      replace r_c := r_c.step hs
      replace r_e := r_e.step hs
      replace r_2 := r_2.step hs
      replace r_4 := r_4.step hs
      refine ⟨SK (Stp I_o w_36 I_o) [] [], ⟨Stp.refl _ _, kp_nil⟩, fun L x h => ⟨hz.held h.1, h.2⟩, ?_⟩
      have hz := Stp.refl I_o w_36
      refine ⟨?_, ?_⟩
      ·
        obtain ⟨x_37, q_38, q_w⟩ := bind_some q_w
        refine ev_call rfl rfl C37 (((rotation_Cosine_ok n) _ _  (Rot.mk (Int_2.mk x_0.P.Neg x_0.P.Mag) (Int_2.mk x_0.Q.Neg x_0.Q.Mag)) v_1 r_2 v_3 r_4 hp.imm _ q_38).mono ?_)
        rintro _ w_39 ⟨I_3a, v_3b, v_3c, hv, hq, r_3d, r_3e⟩
        replace hv := hv.symm
        subst hv
        have hs := hq.st
        have hp := hp.join0 hq
        replace hz := hz.trans hs
        replace a_m := a_m.step hs
        replace r_7 := r_7.step hs
        replace r_9 := r_9.step hs
        replace a_q := a_q.step hs
        replace r_c := r_c.step hs
        replace r_e := r_e.step hs
        replace r_2 := r_2.step hs
        replace r_4 := r_4.step hs
        refine ⟨SK (Stp I_3a w_39 I_3a) [] [], ⟨Stp.refl _ _, kp_nil⟩, fun L x h => ⟨hz.held h.1, h.2⟩, ?_⟩
        have hz := Stp.refl I_3a w_39
        refine ⟨?_, ?_⟩
        ·
          obtain ⟨x_3f, q_3g, q_w⟩ := bind_some q_w
          refine ev_call rfl rfl C27 (((rotation_Sine_ok n) _ _  (Rot.mk (Int_2.mk x_0.P.Neg x_0.P.Mag) (Int_2.mk x_0.Q.Neg x_0.Q.Mag)) v_1 r_2 v_3 r_4 hp.imm _ q_3g).mono ?_)
          rintro _ w_3h ⟨I_3i, v_3j, v_3k, hv, hq, r_3l, r_3m⟩
          replace hv := hv.symm
          subst hv
          have hs := hq.st
          have hp := hp.join0 hq
          replace hz := hz.trans hs
          replace a_m := a_m.step hs
          replace r_7 := r_7.step hs
          replace r_9 := r_9.step hs
          replace a_q := a_q.step hs
          replace r_c := r_c.step hs
          replace r_e := r_e.step hs
          replace r_3d := r_3d.step hs
          replace r_3e := r_3e.step hs
          refine ⟨SK (Stp I_3i w_3h I_3i) [] [], ⟨Stp.refl _ _, kp_nil⟩, fun L x h => ⟨hz.held h.1, h.2⟩, ?_⟩
          have hz := Stp.refl I_3i w_3h
          refine ⟨?_, trivial⟩
          refine ev_alloc hp rfl T31 ?_
          intro g_3n w_3o hp hs
          replace hz := hz.trans hs
          replace a_m := a_m.step hs
          replace r_7 := r_7.step hs
          replace r_9 := r_9.step hs
          replace a_q := a_q.step hs
          replace r_c := r_c.step hs
          replace r_e := r_e.step hs
          replace r_3d := r_3d.step hs
          replace r_3e := r_3e.step hs
          replace r_3l := r_3l.step hs
          replace r_3m := r_3m.step hs
          refine ⟨SK (Stp I_3i w_3o I_3i) [] [], ⟨Stp.refl _ _, kp_nil⟩, fun L x h => ⟨hz.held h.1, h.2⟩, ?_⟩
          have hz := Stp.refl I_3i w_3o
          refine ⟨?_, trivial⟩
          refine ev_storeA hp (i := 1) (off := 0) (vs := [(.bool x_37.Num.Neg), v_3b, (.bool x_37.Den.Neg), v_3c]) rfl rfl rfl rfl T31 rfl (Nat.le_of_ble_eq_true rfl) (ones_cons rfl (ones_cons r_3d.one (ones_cons rfl (ones_cons r_3e.one ones_nil)))) ?_
          intro w_3p hp hs
          replace hz := hz.trans hs
          replace a_m := a_m.step hs
          replace r_7 := r_7.step hs
          replace r_9 := r_9.step hs
          replace a_q := a_q.step hs
          replace r_c := r_c.step hs
          replace r_e := r_e.step hs
          replace r_3l := r_3l.step hs
          replace r_3m := r_3m.step hs
          replace r_3d := r_3d.step hs
          replace r_3e := r_3e.step hs
          refine ⟨SK (Stp I_3i w_3p I_3i) [] [], ⟨Stp.refl _ _, kp_nil⟩, fun L x h => ⟨hz.held h.1, h.2⟩, ?_⟩
          have hz := Stp.refl I_3i w_3p
          refine ⟨?_, trivial⟩
          refine ev_storeA hp (i := 0) (off := 0) (vs := [(.bool x_3f.Num.Neg), v_3j, (.bool x_3f.Den.Neg), v_3k]) rfl rfl rfl rfl T31 rfl (Nat.le_of_ble_eq_true rfl) (ones_cons rfl (ones_cons r_3l.one (ones_cons rfl (ones_cons r_3m.one ones_nil)))) ?_
          intro w_3q hp hs
          replace hz := hz.trans hs
          replace a_m := a_m.step hs
          replace r_7 := r_7.step hs
          replace r_9 := r_9.step hs
          replace a_q := a_q.step hs
          replace r_c := r_c.step hs
          replace r_e := r_e.step hs
          replace r_3l := r_3l.step hs
          replace r_3m := r_3m.step hs
          replace r_3d := r_3d.step hs
          replace r_3e := r_3e.step hs
          refine ⟨SK (Stp I_3i w_3q I_3i) [] [], ⟨Stp.refl _ _, kp_nil⟩, fun L x h => ⟨hz.held h.1, h.2⟩, ?_⟩
          have hz := Stp.refl I_3i w_3q
          obtain rfl := Option.some.inj q_w
          have hp := hp.perm [3, 2, 1, 0] (by decide)
          exact ⟨(x_37.Num.Neg, x_37.Num.Mag, x_37.Den.Neg, x_37.Den.Mag, x_3f.Num.Neg, x_3f.Num.Mag, x_3f.Den.Neg, x_3f.Den.Mag, g_35, v_3b, v_3c, g_3n, v_3j, v_3k, I_3i), (.c rfl (.c rfl (.c rfl (.c rfl (.c rfl (.c rfl .n)))))), rfl, hp, r_7, r_9, a_m, r_c, r_e, a_q, r_3d, r_3e, r_3l, r_3m⟩
        refine ⟨?_, trivial⟩
        refine ev_alloc hp rfl T31 ?_
        intro g_3r w_3s hp hs
        replace hz := hz.trans hs
        replace a_m := a_m.step hs
        replace r_7 := r_7.step hs
        replace r_9 := r_9.step hs
        replace a_q := a_q.step hs
        replace r_c := r_c.step hs
        replace r_e := r_e.step hs
        replace r_2 := r_2.step hs
        replace r_4 := r_4.step hs
        replace r_3d := r_3d.step hs
        replace r_3e := r_3e.step hs
        refine ⟨SK (Stp I_3a w_3s I_3a) [] [], ⟨Stp.refl _ _, kp_nil⟩, fun L x h => ⟨hz.held h.1, h.2⟩, ?_⟩
        have hz := Stp.refl I_3a w_3s
        refine ⟨?_, trivial⟩
        obtain ⟨x_3t, q_3u, q_w⟩ := bind_some q_w
        refine ev_call rfl rfl C27 (((rotation_Sine_ok n) _ _  (Rot.mk (Int_2.mk x_0.P.Neg x_0.P.Mag) (Int_2.mk x_0.Q.Neg x_0.Q.Mag)) v_1 r_2 v_3 r_4 hp.imm _ q_3u).mono ?_)
        rintro _ w_3v ⟨I_3w, v_3x, v_3y, hv, hq, r_3z, r_40⟩
        replace hv := hv.symm
        subst hv
        have hs := hq.st
        have hp := hp.join0 hq
        replace hz := hz.trans hs
        replace a_m := a_m.step hs
        replace r_7 := r_7.step hs
        replace r_9 := r_9.step hs
        replace a_q := a_q.step hs
        replace r_c := r_c.step hs
        replace r_e := r_e.step hs
        replace r_3d := r_3d.step hs
        replace r_3e := r_3e.step hs
        refine ⟨SK (Stp I_3w w_3v I_3w) [] [], ⟨Stp.refl _ _, kp_nil⟩, fun L x h => ⟨hz.held h.1, h.2⟩, ?_⟩
        have hz := Stp.refl I_3w w_3v
        refine ⟨?_, trivial⟩
        refine ev_storeA hp (i := 1) (off := 0) (vs := [(.bool x_37.Num.Neg), v_3b, (.bool x_37.Den.Neg), v_3c]) rfl rfl rfl rfl T31 rfl (Nat.le_of_ble_eq_true rfl) (ones_cons rfl (ones_cons r_3d.one (ones_cons rfl (ones_cons r_3e.one ones_nil)))) ?_
        intro w_41 hp hs
        replace hz := hz.trans hs
        replace a_m := a_m.step hs
        replace r_7 := r_7.step hs
        replace r_9 := r_9.step hs
        replace a_q := a_q.step hs
        replace r_c := r_c.step hs
        replace r_e := r_e.step hs
        replace r_3z := r_3z.step hs
        replace r_40 := r_40.step hs
        replace r_3d := r_3d.step hs
        replace r_3e := r_3e.step hs
        refine ⟨SK (Stp I_3w w_41 I_3w) [] [], ⟨Stp.refl _ _, kp_nil⟩, fun L x h => ⟨hz.held h.1, h.2⟩, ?_⟩
        have hz := Stp.refl I_3w w_41
        refine ⟨?_, trivial⟩
        refine ev_storeA hp (i := 0) (off := 0) (vs := [(.bool x_3t.Num.Neg), v_3x, (.bool x_3t.Den.Neg), v_3y]) rfl rfl rfl rfl T31 rfl (Nat.le_of_ble_eq_true rfl) (ones_cons rfl (ones_cons r_3z.one (ones_cons rfl (ones_cons r_40.one ones_nil)))) ?_
        intro w_42 hp hs
        replace hz := hz.trans hs
        replace a_m := a_m.step hs
        replace r_7 := r_7.step hs
        replace r_9 := r_9.step hs
        replace a_q := a_q.step hs
        replace r_c := r_c.step hs
        replace r_e := r_e.step hs
        replace r_3z := r_3z.step hs
        replace r_40 := r_40.step hs
        replace r_3d := r_3d.step hs
        replace r_3e := r_3e.step hs
        refine ⟨SK (Stp I_3w w_42 I_3w) [] [], ⟨Stp.refl _ _, kp_nil⟩, fun L x h => ⟨hz.held h.1, h.2⟩, ?_⟩
        have hz := Stp.refl I_3w w_42
        obtain rfl := Option.some.inj q_w
        have hp := hp.perm [3, 2, 1, 0] (by decide)
        exact ⟨(x_37.Num.Neg, x_37.Num.Mag, x_37.Den.Neg, x_37.Den.Mag, x_3t.Num.Neg, x_3t.Num.Mag, x_3t.Den.Neg, x_3t.Den.Mag, g_35, v_3b, v_3c, g_3r, v_3x, v_3y, I_3w), (.c rfl (.c rfl (.c rfl (.c rfl (.c rfl (.c rfl .n)))))), rfl, hp, r_7, r_9, a_m, r_c, r_e, a_q, r_3d, r_3e, r_3z, r_40⟩
      refine ⟨?_, trivial⟩
      refine ev_alloc hp rfl T31 ?_
      intro g_43 w_44 hp hs
      replace hz := hz.trans hs
      replace a_m := a_m.step hs
      replace r_7 := r_7.step hs
      replace r_9 := r_9.step hs
      replace a_q := a_q.step hs
      replace r_c := r_c.step hs
      replace r_e := r_e.step hs
      replace r_2 := r_2.step hs
      replace r_4 := r_4.step hs
      refine ⟨SK (Stp I_o w_44 I_o) [] [], ⟨Stp.refl _ _, kp_nil⟩, fun L x h => ⟨hz.held h.1, h.2⟩, ?_⟩
      have hz := Stp.refl I_o w_44
      refine ⟨?_, trivial⟩
      obtain ⟨x_45, q_46, q_w⟩ := bind_some q_w
      refine ev_call rfl rfl C37 (((rotation_Cosine_ok n) _ _  (Rot.mk (Int_2.mk x_0.P.Neg x_0.P.Mag) (Int_2.mk x_0.Q.Neg x_0.Q.Mag)) v_1 r_2 v_3 r_4 hp.imm _ q_46).mono ?_)
      rintro _ w_47 ⟨I_48, v_49, v_4a, hv, hq, r_4b, r_4c⟩
      replace hv := hv.symm
      subst hv
      have hs := hq.st
      have hp := hp.join0 hq
      replace hz := hz.trans hs
      replace a_m := a_m.step hs
      replace r_7 := r_7.step hs
      replace r_9 := r_9.step hs
      replace a_q := a_q.step hs
      replace r_c := r_c.step hs
      replace r_e := r_e.step hs
      replace r_2 := r_2.step hs
      replace r_4 := r_4.step hs
      refine ⟨SK (Stp I_48 w_47 I_48) [] [], ⟨Stp.refl _ _, kp_nil⟩, fun L x h => ⟨hz.held h.1, h.2⟩, ?_⟩
      have hz := Stp.refl I_48 w_47
      refine ⟨?_, trivial⟩
      obtain ⟨x_4d, q_4e, q_w⟩ := bind_some q_w
      refine ev_call rfl rfl C27 (((rotation_Sine_ok n) _ _  (Rot.mk (Int_2.mk x_0.P.Neg x_0.P.Mag) (Int_2.mk x_0.Q.Neg x_0.Q.Mag)) v_1 r_2 v_3 r_4 hp.imm _ q_4e).mono ?_)
      rintro _ w_4f ⟨I_4g, v_4h, v_4i, hv, hq, r_4j, r_4k⟩
      replace hv := hv.symm
      subst hv
      have hs := hq.st
      have hp := hp.join0 hq
      replace hz := hz.trans hs
      replace a_m := a_m.step hs
      replace r_7 := r_7.step hs
      replace r_9 := r_9.step hs
      replace a_q := a_q.step hs
      replace r_c := r_c.step hs
      replace r_e := r_e.step hs
      replace r_4b := r_4b.step hs
      replace r_4c := r_4c.step hs
      refine ⟨SK (Stp I_4g w_4f I_4g) [] [], ⟨Stp.refl _ _, kp_nil⟩, fun L x h => ⟨hz.held h.1, h.2⟩, ?_⟩
      have hz := Stp.refl I_4g w_4f
      refine ⟨?_, trivial⟩
      refine ev_storeA hp (i := 1) (off := 0) (vs := [(.bool x_45.Num.Neg), v_49, (.bool x_45.Den.Neg), v_4a]) rfl rfl rfl rfl T31 rfl (Nat.le_of_ble_eq_true rfl) (ones_cons rfl (ones_cons r_4b.one (ones_cons rfl (ones_cons r_4c.one ones_nil)))) ?_
      intro w_4l hp hs
      replace hz := hz.trans hs
      replace a_m := a_m.step hs
      replace r_7 := r_7.step hs
      replace r_9 := r_9.step hs
      replace a_q := a_q.step hs
      replace r_c := r_c.step hs
      replace r_e := r_e.step hs
      replace r_4j := r_4j.step hs
      replace r_4k := r_4k.step hs
      replace r_4b := r_4b.step hs
      replace r_4c := r_4c.step hs
      refine ⟨SK (Stp I_4g w_4l I_4g) [] [], ⟨Stp.refl _ _, kp_nil⟩, fun L x h => ⟨hz.held h.1, h.2⟩, ?_⟩
      have hz := Stp.refl I_4g w_4l
      refine ⟨?_, trivial⟩
      refine ev_storeA hp (i := 0) (off := 0) (vs := [(.bool x_4d.Num.Neg), v_4h, (.bool x_4d.Den.Neg), v_4i]) rfl rfl rfl rfl T31 rfl (Nat.le_of_ble_eq_true rfl) (ones_cons rfl (ones_cons r_4j.one (ones_cons rfl (ones_cons r_4k.one ones_nil)))) ?_
      intro w_4m hp hs
      replace hz := hz.trans hs
      replace a_m := a_m.step hs
      replace r_7 := r_7.step hs
      replace r_9 := r_9.step hs
      replace a_q := a_q.step hs
      replace r_c := r_c.step hs
      replace r_e := r_e.step hs
      replace r_4j := r_4j.step hs
      replace r_4k := r_4k.step hs
      replace r_4b := r_4b.step hs
      replace r_4c := r_4c.step hs
      refine ⟨SK (Stp I_4g w_4m I_4g) [] [], ⟨Stp.refl _ _, kp_nil⟩, fun L x h => ⟨hz.held h.1, h.2⟩, ?_⟩
      have hz := Stp.refl I_4g w_4m
      obtain rfl := Option.some.inj q_w
      have hp := hp.perm [3, 2, 1, 0] (by decide)
      exact ⟨(x_45.Num.Neg, x_45.Num.Mag, x_45.Den.Neg, x_45.Den.Mag, x_4d.Num.Neg, x_4d.Num.Mag, x_4d.Den.Neg, x_4d.Den.Mag, g_35, v_49, v_4a, g_43, v_4h, v_4i, I_4g), (.c rfl (.c rfl (.c rfl (.c rfl (.c rfl (.c rfl .n)))))), rfl, hp, r_7, r_9, a_m, r_c, r_e, a_q, r_4b, r_4c, r_4j, r_4k⟩
    refine ⟨?_, trivial⟩
    refine ev_alloc hp rfl T31 ?_
    intro g_4n w_4o hp hs
    replace hz := hz.trans hs
    replace a_m := a_m.step hs
    replace r_7 := r_7.step hs
    replace r_9 := r_9.step hs
    replace a_q := a_q.step hs
    replace r_c := r_c.step hs
    replace r_e := r_e.step hs
    replace r_2 := r_2.step hs
    replace r_4 := r_4.step hs
    refine ⟨SK (Stp I_o w_4o I_o) [] [], ⟨Stp.refl _ _, kp_nil⟩, fun L x h => ⟨hz.held h.1, h.2⟩, ?_⟩
    have hz := Stp.refl I_o w_4o
    refine ⟨?_, ?_⟩
    ·
      obtain ⟨x_4p, q_4q, q_w⟩ := bind_some q_w
      refine ev_call rfl rfl C37 (((rotation_Cosine_ok n) _ _  (Rot.mk (Int_2.mk x_0.P.Neg x_0.P.Mag) (Int_2.mk x_0.Q.Neg x_0.Q.Mag)) v_1 r_2 v_3 r_4 hp.imm _ q_4q).mono ?_)
      rintro _ w_4r ⟨I_4s, v_4t, v_4u, hv, hq, r_4v, r_4w⟩
      replace hv := hv.symm
      subst hv
      have hs := hq.st
      have hp := hp.join0 hq
      replace hz := hz.trans hs
      replace a_m := a_m.step hs
      replace r_7 := r_7.step hs
      replace r_9 := r_9.step hs
      replace a_q := a_q.step hs
      replace r_c := r_c.step hs
      replace r_e := r_e.step hs
      replace r_2 := r_2.step hs
      replace r_4 := r_4.step hs
      refine ⟨SK (Stp I_4s w_4r I_4s) [] [], ⟨Stp.refl _ _, kp_nil⟩, fun L x h => ⟨hz.held h.1, h.2⟩, ?_⟩
      have hz := Stp.refl I_4s w_4r
      refine ⟨?_, ?_⟩
      ·
        obtain ⟨x_4x, q_4y, q_w⟩ := bind_some q_w
        refine ev_call rfl rfl C27 (((rotation_Sine_ok n) _ _  (Rot.mk (Int_2.mk x_0.P.Neg x_0.P.Mag) (Int_2.mk x_0.Q.Neg x_0.Q.Mag)) v_1 r_2 v_3 r_4 hp.imm _ q_4y).mono ?_)
        rintro _ w_4z ⟨I_50, v_51, v_52, hv, hq, r_53, r_54⟩
        replace hv := hv.symm
        subst hv
        have hs := hq.st
        have hp := hp.join0 hq
        replace hz := hz.trans hs
        replace a_m := a_m.step hs
        replace r_7 := r_7.step hs
        replace r_9 := r_9.step hs
        replace a_q := a_q.step hs
        replace r_c := r_c.step hs
        replace r_e := r_e.step hs
        replace r_4v := r_4v.step hs
        replace r_4w := r_4w.step hs
        refine ⟨SK (Stp I_50 w_4z I_50) [] [], ⟨Stp.refl _ _, kp_nil⟩, fun L x h => ⟨hz.held h.1, h.2⟩, ?_⟩
        have hz := Stp.refl I_50 w_4z
        refine ⟨?_, trivial⟩
        refine ev_alloc hp rfl T31 ?_
        intro g_55 w_56 hp hs
        replace hz := hz.trans hs
        replace a_m := a_m.step hs
        replace r_7 := r_7.step hs
        replace r_9 := r_9.step hs
        replace a_q := a_q.step hs
        replace r_c := r_c.step hs
        replace r_e := r_e.step hs
        replace r_4v := r_4v.step hs
        replace r_4w := r_4w.step hs
        replace r_53 := r_53.step hs
        replace r_54 := r_54.step hs
        refine ⟨SK (Stp I_50 w_56 I_50) [] [], ⟨Stp.refl _ _, kp_nil⟩, fun L x h => ⟨hz.held h.1, h.2⟩, ?_⟩
        have hz := Stp.refl I_50 w_56
        refine ⟨?_, trivial⟩
        refine ev_storeA hp (i := 0) (off := 0) (vs := [(.bool x_4p.Num.Neg), v_4t, (.bool x_4p.Den.Neg), v_4u]) rfl rfl rfl rfl T31 rfl (Nat.le_of_ble_eq_true rfl) (ones_cons rfl (ones_cons r_4v.one (ones_cons rfl (ones_cons r_4w.one ones_nil)))) ?_
        intro w_57 hp hs
        replace hz := hz.trans hs
        replace a_m := a_m.step hs
        replace r_7 := r_7.step hs
        replace r_9 := r_9.step hs
        replace a_q := a_q.step hs
        replace r_c := r_c.step hs
        replace r_e := r_e.step hs
        replace r_53 := r_53.step hs
        replace r_54 := r_54.step hs
        replace r_4v := r_4v.step hs
        replace r_4w := r_4w.step hs
        refine ⟨SK (Stp I_50 w_57 I_50) [] [], ⟨Stp.refl _ _, kp_nil⟩, fun L x h => ⟨hz.held h.1, h.2⟩, ?_⟩
        have hz := Stp.refl I_50 w_57
        refine ⟨?_, trivial⟩
        refine ev_storeA hp (i := 1) (off := 0) (vs := [(.bool x_4x.Num.Neg), v_51, (.bool x_4x.Den.Neg), v_52]) rfl rfl rfl rfl T31 rfl (Nat.le_of_ble_eq_true rfl) (ones_cons rfl (ones_cons r_53.one (ones_cons rfl (ones_cons r_54.one ones_nil)))) ?_
        intro w_58 hp hs
        replace hz := hz.trans hs
        replace a_m := a_m.step hs
        replace r_7 := r_7.step hs
        replace r_9 := r_9.step hs
        replace a_q := a_q.step hs
        replace r_c := r_c.step hs
        replace r_e := r_e.step hs
        replace r_4v := r_4v.step hs
        replace r_4w := r_4w.step hs
        replace r_53 := r_53.step hs
        replace r_54 := r_54.step hs
        refine ⟨SK (Stp I_50 w_58 I_50) [] [], ⟨Stp.refl _ _, kp_nil⟩, fun L x h => ⟨hz.held h.1, h.2⟩, ?_⟩
        have hz := Stp.refl I_50 w_58
        obtain rfl := Option.some.inj q_w
        have hp := hp.perm [3, 2, 0, 1] (by decide)
        exact ⟨(x_4p.Num.Neg, x_4p.Num.Mag, x_4p.Den.Neg, x_4p.Den.Mag, x_4x.Num.Neg, x_4x.Num.Mag, x_4x.Den.Neg, x_4x.Den.Mag, g_55, v_4t, v_4u, g_4n, v_51, v_52, I_50), (.c rfl (.c rfl (.c rfl (.c rfl (.c rfl (.c rfl .n)))))), rfl, hp, r_7, r_9, a_m, r_c, r_e, a_q, r_4v, r_4w, r_53, r_54⟩
      refine ⟨?_, trivial⟩
      refine ev_alloc hp rfl T31 ?_
      intro g_59 w_5a hp hs
      replace hz := hz.trans hs
      replace a_m := a_m.step hs
      replace r_7 := r_7.step hs
      replace r_9 := r_9.step hs
      replace a_q := a_q.step hs
      replace r_c := r_c.step hs
      replace r_e := r_e.step hs
      replace r_2 := r_2.step hs
      replace r_4 := r_4.step hs
      replace r_4v := r_4v.step hs
      replace r_4w := r_4w.step hs
      refine ⟨SK (Stp I_4s w_5a I_4s) [] [], ⟨Stp.refl _ _, kp_nil⟩, fun L x h => ⟨hz.held h.1, h.2⟩, ?_⟩
      have hz := Stp.refl I_4s w_5a
      refine ⟨?_, trivial⟩
      obtain ⟨x_5b, q_5c, q_w⟩ := bind_some q_w
      refine ev_call rfl rfl C27 (((rotation_Sine_ok n) _ _  (Rot.mk (Int_2.mk x_0.P.Neg x_0.P.Mag) (Int_2.mk x_0.Q.Neg x_0.Q.Mag)) v_1 r_2 v_3 r_4 hp.imm _ q_5c).mono ?_)
      rintro _ w_5d ⟨I_5e, v_5f, v_5g, hv, hq, r_5h, r_5i⟩
      replace hv := hv.symm
      subst hv
      have hs := hq.st
      have hp := hp.join0 hq
      replace hz := hz.trans hs
      replace a_m := a_m.step hs
      replace r_7 := r_7.step hs
      replace r_9 := r_9.step hs
      replace a_q := a_q.step hs
      replace r_c := r_c.step hs
      replace r_e := r_e.step hs
      replace r_4v := r_4v.step hs
      replace r_4w := r_4w.step hs
      refine ⟨SK (Stp I_5e w_5d I_5e) [] [], ⟨Stp.refl _ _, kp_nil⟩, fun L x h => ⟨hz.held h.1, h.2⟩, ?_⟩
      have hz := Stp.refl I_5e w_5d
      refine ⟨?_, trivial⟩
      refine ev_storeA hp (i := 0) (off := 0) (vs := [(.bool x_4p.Num.Neg), v_4t, (.bool x_4p.Den.Neg), v_4u]) rfl rfl rfl rfl T31 rfl (Nat.le_of_ble_eq_true rfl) (ones_cons rfl (ones_cons r_4v.one (ones_cons rfl (ones_cons r_4w.one ones_nil)))) ?_
      intro w_5j hp hs
      replace hz := hz.trans hs
      replace a_m := a_m.step hs
      replace r_7 := r_7.step hs
      replace r_9 := r_9.step hs
      replace a_q := a_q.step hs
      replace r_c := r_c.step hs
      replace r_e := r_e.step hs
      replace r_5h := r_5h.step hs
      replace r_5i := r_5i.step hs
      replace r_4v := r_4v.step hs
      replace r_4w := r_4w.step hs
      refine ⟨SK (Stp I_5e w_5j I_5e) [] [], ⟨Stp.refl _ _, kp_nil⟩, fun L x h => ⟨hz.held h.1, h.2⟩, ?_⟩
      have hz := Stp.refl I_5e w_5j
      refine ⟨?_, trivial⟩
      refine ev_storeA hp (i := 1) (off := 0) (vs := [(.bool x_5b.Num.Neg), v_5f, (.bool x_5b.Den.Neg), v_5g]) rfl rfl rfl rfl T31 rfl (Nat.le_of_ble_eq_true rfl) (ones_cons rfl (ones_cons r_5h.one (ones_cons rfl (ones_cons r_5i.one ones_nil)))) ?_
      intro w_5k hp hs
      replace hz := hz.trans hs
      replace a_m := a_m.step hs
      replace r_7 := r_7.step hs
      replace r_9 := r_9.step hs
      replace a_q := a_q.step hs
      replace r_c := r_c.step hs
      replace r_e := r_e.step hs
      replace r_4v := r_4v.step hs
      replace r_4w := r_4w.step hs
      replace r_5h := r_5h.step hs
      replace r_5i := r_5i.step hs
      refine ⟨SK (Stp I_5e w_5k I_5e) [] [], ⟨Stp.refl _ _, kp_nil⟩, fun L x h => ⟨hz.held h.1, h.2⟩, ?_⟩
      have hz := Stp.refl I_5e w_5k
      obtain rfl := Option.some.inj q_w
      have hp := hp.perm [3, 2, 0, 1] (by decide)
      exact ⟨(x_4p.Num.Neg, x_4p.Num.Mag, x_4p.Den.Neg, x_4p.Den.Mag, x_5b.Num.Neg, x_5b.Num.Mag, x_5b.Den.Neg, x_5b.Den.Mag, g_59, v_4t, v_4u, g_4n, v_5f, v_5g, I_5e), (.c rfl (.c rfl (.c rfl (.c rfl (.c rfl (.c rfl .n)))))), rfl, hp, r_7, r_9, a_m, r_c, r_e, a_q, r_4v, r_4w, r_5h, r_5i⟩
    refine ⟨?_, trivial⟩
    refine ev_alloc hp rfl T31 ?_
    intro g_5l w_5m hp hs
    replace hz := hz.trans hs
    replace a_m := a_m.step hs
    replace r_7 := r_7.step hs
    replace r_9 := r_9.step hs
    replace a_q := a_q.step hs
    replace r_c := r_c.step hs
    replace r_e := r_e.step hs
    replace r_2 := r_2.step hs
    replace r_4 := r_4.step hs
    refine ⟨SK (Stp I_o w_5m I_o) [] [], ⟨Stp.refl _ _, kp_nil⟩, fun L x h => ⟨hz.held h.1, h.2⟩, ?_⟩
    have hz := Stp.refl I_o w_5m
    refine ⟨?_, trivial⟩
    obtain ⟨x_5n, q_5o, q_w⟩ := bind_some q_w
    refine ev_call rfl rfl C37 (((rotation_Cosine_ok n) _ _  (Rot.mk (Int_2.mk x_0.P.Neg x_0.P.Mag) (Int_2.mk x_0.Q.Neg x_0.Q.Mag)) v_1 r_2 v_3 r_4 hp.imm _ q_5o).mono ?_)
    rintro _ w_5p ⟨I_5q, v_5r, v_5s, hv, hq, r_5t, r_5u⟩
    replace hv := hv.symm
    subst hv
    have hs := hq.st
    have hp := hp.join0 hq
    replace hz := hz.trans hs
    replace a_m := a_m.step hs
    replace r_7 := r_7.step hs
    replace r_9 := r_9.step hs
    replace a_q := a_q.step hs
    replace r_c := r_c.step hs
    replace r_e := r_e.step hs
    replace r_2 := r_2.step hs
    replace r_4 := r_4.step hs
    refine ⟨SK (Stp I_5q w_5p I_5q) [] [], ⟨Stp.refl _ _, kp_nil⟩, fun L x h => ⟨hz.held h.1, h.2⟩, ?_⟩
    have hz := Stp.refl I_5q w_5p
    refine ⟨?_, trivial⟩
    obtain ⟨x_5v, q_5w, q_w⟩ := bind_some q_w
    refine ev_call rfl rfl C27 (((rotation_Sine_ok n) _ _  (Rot.mk (Int_2.mk x_0.P.Neg x_0.P.Mag) (Int_2.mk x_0.Q.Neg x_0.Q.Mag)) v_1 r_2 v_3 r_4 hp.imm _ q_5w).mono ?_)
    rintro _ w_5x ⟨I_5y, v_5z, v_60, hv, hq, r_61, r_62⟩
    replace hv := hv.symm
    subst hv
    have hs := hq.st
    have hp := hp.join0 hq
    replace hz := hz.trans hs
    replace a_m := a_m.step hs
    replace r_7 := r_7.step hs
    replace r_9 := r_9.step hs
    replace a_q := a_q.step hs
    replace r_c := r_c.step hs
    replace r_e := r_e.step hs
    replace r_5t := r_5t.step hs
    replace r_5u := r_5u.step hs
    refine ⟨SK (Stp I_5y w_5x I_5y) [] [], ⟨Stp.refl _ _, kp_nil⟩, fun L x h => ⟨hz.held h.1, h.2⟩, ?_⟩
    have hz := Stp.refl I_5y w_5x
    refine ⟨?_, trivial⟩
    refine ev_storeA hp (i := 0) (off := 0) (vs := [(.bool x_5n.Num.Neg), v_5r, (.bool x_5n.Den.Neg), v_5s]) rfl rfl rfl rfl T31 rfl (Nat.le_of_ble_eq_true rfl) (ones_cons rfl (ones_cons r_5t.one (ones_cons rfl (ones_cons r_5u.one ones_nil)))) ?_
    intro w_63 hp hs
    replace hz := hz.trans hs
    replace a_m := a_m.step hs
    replace r_7 := r_7.step hs
    replace r_9 := r_9.step hs
    replace a_q := a_q.step hs
    replace r_c := r_c.step hs
    replace r_e := r_e.step hs
    replace r_61 := r_61.step hs
    replace r_62 := r_62.step hs
    replace r_5t := r_5t.step hs
    replace r_5u := r_5u.step hs
    refine ⟨SK (Stp I_5y w_63 I_5y) [] [], ⟨Stp.refl _ _, kp_nil⟩, fun L x h => ⟨hz.held h.1, h.2⟩, ?_⟩
    have hz := Stp.refl I_5y w_63
    refine ⟨?_, trivial⟩
    refine ev_storeA hp (i := 1) (off := 0) (vs := [(.bool x_5v.Num.Neg), v_5z, (.bool x_5v.Den.Neg), v_60]) rfl rfl rfl rfl T31 rfl (Nat.le_of_ble_eq_true rfl) (ones_cons rfl (ones_cons r_61.one (ones_cons rfl (ones_cons r_62.one ones_nil)))) ?_
    intro w_64 hp hs
    replace hz := hz.trans hs
    replace a_m := a_m.step hs
    replace r_7 := r_7.step hs
    replace r_9 := r_9.step hs
    replace a_q := a_q.step hs
    replace r_c := r_c.step hs
    replace r_e := r_e.step hs
    replace r_5t := r_5t.step hs
    replace r_5u := r_5u.step hs
    replace r_61 := r_61.step hs
    replace r_62 := r_62.step hs
    refine ⟨SK (Stp I_5y w_64 I_5y) [] [], ⟨Stp.refl _ _, kp_nil⟩, fun L x h => ⟨hz.held h.1, h.2⟩, ?_⟩
    have hz := Stp.refl I_5y w_64
    obtain rfl := Option.some.inj q_w
    have hp := hp.perm [3, 2, 0, 1] (by decide)
    exact ⟨(x_5n.Num.Neg, x_5n.Num.Mag, x_5n.Den.Neg, x_5n.Den.Mag, x_5v.Num.Neg, x_5v.Num.Mag, x_5v.Den.Neg, x_5v.Den.Mag, g_5l, v_5r, v_5s, g_4n, v_5z, v_60, I_5y), (.c rfl (.c rfl (.c rfl (.c rfl (.c rfl (.c rfl .n)))))), rfl, hp, r_7, r_9, a_m, r_c, r_e, a_q, r_5t, r_5u, r_61, r_62⟩
  ·
    rintro ⟨x_65, x_66, x_67, x_68, x_69, x_6a, x_6b, x_6c, g_6d, v_6e, v_6f, g_6g, v_6h, v_6i, I_6j⟩ w_6k ⟨hy, hp, r_7, r_9, a_m, r_c, r_e, a_q, r_6l, r_6m, r_6n, r_6o⟩
    replace hy := hy.symm
    subst hy
    apply go
    have hs := hp.stp (Ch.drew [] w_6k)
    have hp := hp.drew
    replace a_m := a_m.step hs
    replace r_7 := r_7.step hs
    replace r_9 := r_9.step hs
    replace a_q := a_q.step hs
    replace r_c := r_c.step hs
    replace r_e := r_e.step hs
    replace r_6l := r_6l.step hs
    replace r_6m := r_6m.step hs
    replace r_6n := r_6n.step hs
    replace r_6o := r_6o.step hs
    refine W.heldT [(0, true), (1, true), (3, true), (4, true), (7, true), (8, true), (10, true), (11, true), (2, false), (5, false), (6, false), (9, false), (12, false), (13, false), (14, false), (15, false)] (fun x => Stp I_6j w_6k.drew I_6j x ∧ OwnK [(g_6d, [(.bool x_65), v_6e, (.bool x_67), v_6f], 31), (g_6g, [(.bool x_69), v_6h, (.bool x_6b), v_6i], 31)] x) MX (by kernel_rfl) ⟨Stp.refl _ _, (OwnK.cons (hp.own 2 _ _ _ rfl).1 (OwnK.cons (hp.own 3 _ _ _ rfl).1 OwnK.nil))⟩ ?_
    have hz := Stp.refl I_6j w_6k.drew
    intro ops hops
    have e0 : nthO ops 0 = some _ := (hops 0).trans rfl
    have e1 : nthO ops 1 = some _ := (hops 1).trans rfl
    have e2 : nthO ops 2 = some _ := (hops 2).trans rfl
    have e3 : nthO ops 3 = some _ := (hops 3).trans rfl
    have e4 : nthO ops 4 = some _ := (hops 4).trans rfl
    have e5 : nthO ops 5 = some _ := (hops 5).trans rfl
    have e6 : nthO ops 6 = some _ := (hops 6).trans rfl
    have e7 : nthO ops 7 = some _ := (hops 7).trans rfl
    have e8 : nthO ops 8 = some _ := (hops 8).trans rfl
    have e9 : nthO ops 9 = some _ := (hops 9).trans rfl
    have e10 : nthO ops 10 = some _ := (hops 10).trans rfl
    have e11 : nthO ops 11 = some _ := (hops 11).trans rfl
    have e12 : nthO ops 12 = some _ := (hops 12).trans rfl
    have e13 : nthO ops 13 = some _ := (hops 13).trans rfl
    have e14 : nthO ops 14 = some _ := (hops 14).trans rfl
    have e15 : nthO ops 15 = some _ := (hops 15).trans rfl
    clear hops
    refine vch_q e0 rfl ?_
    refine evh (fun w' hw => rn_load rfl rfl (run_loadVarA T31 rfl (hw.2.at_ (i := 0) rfl))) ?_
    refine vch_q e1 rfl ?_
    refine evh (fun w' hw => rn_load rfl rfl (run_loadVarA T31 rfl (a_m.step hw.1))) ?_
    refine vch_q e3 rfl ?_
    refine evh (fun w' hw => rn_load rfl rfl (run_loadVarA T31 rfl (hw.2.at_ (i := 1) rfl))) ?_
    refine vch_q e4 rfl ?_
    refine evh (fun w' hw => rn_load rfl rfl (run_loadVarA T31 rfl (a_q.step hw.1))) ?_
    refine vch_q e7 rfl ?_
    refine evh (fun w' hw => rn_load rfl rfl (run_loadVarA T31 rfl (hw.2.at_ (i := 1) rfl))) ?_
    refine vch_q e8 rfl ?_
    refine evh (fun w' hw => rn_load rfl rfl (run_loadVarA T31 rfl (a_m.step hw.1))) ?_
    refine vch_q e10 rfl ?_
    refine evh (fun w' hw => rn_load rfl rfl (run_loadVarA T31 rfl (hw.2.at_ (i := 0) rfl))) ?_
    refine vch_q e11 rfl ?_
    refine evh (fun w' hw => rn_load rfl rfl (run_loadVarA T31 rfl (a_q.step hw.1))) ?_
    refine vch_l e2 rfl ?_
    obtain ⟨x_6p, q_6q, h⟩ := bind_some h
    refine ev_call rfl rfl C39 (((rational_Mul_ok n) _ _  (Rational.mk (Int_2.mk x_65 x_66) (Int_2.mk x_67 x_68)) v_6e r_6l v_6f r_6m (Rational.mk (Int_2.mk x_5.Num.Neg x_5.Num.Mag) (Int_2.mk x_5.Den.Neg x_5.Den.Mag)) v_6 r_7 v_8 r_9 hp.imm _ q_6q).mono ?_)
    rintro _ w_6r ⟨I_6s, v_6t, v_6u, hv, hq, r_6v, r_6w⟩
    replace hv := hv.symm
    subst hv
    have hs := hq.st
    have hp := hp.join0 hq
    replace hz := hz.trans hs
    replace r_6n := r_6n.step hs
    replace r_6o := r_6o.step hs
    replace r_c := r_c.step hs
    replace r_e := r_e.step hs
    replace r_7 := r_7.step hs
    replace r_9 := r_9.step hs
    replace r_6l := r_6l.step hs
    replace r_6m := r_6m.step hs
    refine ⟨fun x => Stp I_6s w_6r I_6s x ∧ OwnK [(g_6d, [(.bool x_65), v_6e, (.bool x_67), v_6f], 31), (g_6g, [(.bool x_69), v_6h, (.bool x_6b), v_6i], 31)] x, ⟨Stp.refl _ _, (OwnK.cons (hp.own 2 _ _ _ rfl).1 (OwnK.cons (hp.own 3 _ _ _ rfl).1 OwnK.nil))⟩, fun x hx => ⟨hz.held hx.1, hx.2⟩, ?_⟩
    have hz := Stp.refl I_6s w_6r
    refine vch_l e5 rfl ?_
    obtain ⟨x_6x, q_6y, h⟩ := bind_some h
    refine ev_call rfl rfl C39 (((rational_Mul_ok n) _ _  (Rational.mk (Int_2.mk x_69 x_6a) (Int_2.mk x_6b x_6c)) v_6h r_6n v_6i r_6o (Rational.mk (Int_2.mk x_a.Num.Neg x_a.Num.Mag) (Int_2.mk x_a.Den.Neg x_a.Den.Mag)) v_b r_c v_d r_e hp.imm _ q_6y).mono ?_)
    rintro _ w_6z ⟨I_70, v_71, v_72, hv, hq, r_73, r_74⟩
    replace hv := hv.symm
    subst hv
    have hs := hq.st
    have hp := hp.join0 hq
    replace hz := hz.trans hs
    replace r_6n := r_6n.step hs
    replace r_6o := r_6o.step hs
    replace r_7 := r_7.step hs
    replace r_9 := r_9.step hs
    replace r_6l := r_6l.step hs
    replace r_6m := r_6m.step hs
    replace r_c := r_c.step hs
    replace r_e := r_e.step hs
    replace r_6v := r_6v.step hs
    replace r_6w := r_6w.step hs
    refine ⟨fun x => Stp I_70 w_6z I_70 x ∧ OwnK [(g_6d, [(.bool x_65), v_6e, (.bool x_67), v_6f], 31), (g_6g, [(.bool x_69), v_6h, (.bool x_6b), v_6i], 31)] x, ⟨Stp.refl _ _, (OwnK.cons (hp.own 2 _ _ _ rfl).1 (OwnK.cons (hp.own 3 _ _ _ rfl).1 OwnK.nil))⟩, fun x hx => ⟨hz.held hx.1, hx.2⟩, ?_⟩
    have hz := Stp.refl I_70 w_6z
    refine vch_l e6 rfl ?_
    obtain ⟨x_75, q_76, h⟩ := bind_some h
    refine ev_call rfl rfl C38 (((rational_Sub_ok n) _ _  x_6p v_6t r_6v v_6u r_6w x_6x v_71 r_73 v_72 r_74 hp.imm _ q_76).mono ?_)
    rintro _ w_77 ⟨I_78, v_79, v_7a, hv, hq, r_7b, r_7c⟩
    replace hv := hv.symm
    subst hv
    have hs := hq.st
    have hp := hp.join0 hq
    replace hz := hz.trans hs
    replace r_6n := r_6n.step hs
    replace r_6o := r_6o.step hs
    replace r_7 := r_7.step hs
    replace r_9 := r_9.step hs
    replace r_6l := r_6l.step hs
    replace r_6m := r_6m.step hs
    replace r_c := r_c.step hs
    replace r_e := r_e.step hs
    refine ⟨fun x => Stp I_78 w_77 I_78 x ∧ OwnK [(g_6d, [(.bool x_65), v_6e, (.bool x_67), v_6f], 31), (g_6g, [(.bool x_69), v_6h, (.bool x_6b), v_6i], 31)] x, ⟨Stp.refl _ _, (OwnK.cons (hp.own 2 _ _ _ rfl).1 (OwnK.cons (hp.own 3 _ _ _ rfl).1 OwnK.nil))⟩, fun x hx => ⟨hz.held hx.1, hx.2⟩, ?_⟩
    have hz := Stp.refl I_78 w_77
    refine vch_l e9 rfl ?_
    obtain ⟨x_7d, q_7e, h⟩ := bind_some h
    refine ev_call rfl rfl C39 (((rational_Mul_ok n) _ _  (Rational.mk (Int_2.mk x_69 x_6a) (Int_2.mk x_6b x_6c)) v_6h r_6n v_6i r_6o (Rational.mk (Int_2.mk x_5.Num.Neg x_5.Num.Mag) (Int_2.mk x_5.Den.Neg x_5.Den.Mag)) v_6 r_7 v_8 r_9 hp.imm _ q_7e).mono ?_)
    rintro _ w_7f ⟨I_7g, v_7h, v_7i, hv, hq, r_7j, r_7k⟩
    replace hv := hv.symm
    subst hv
    have hs := hq.st
    have hp := hp.join0 hq
    replace hz := hz.trans hs
    replace r_6l := r_6l.step hs
    replace r_6m := r_6m.step hs
    replace r_c := r_c.step hs
    replace r_e := r_e.step hs
    replace r_7b := r_7b.step hs
    replace r_7c := r_7c.step hs
    replace r_6n := r_6n.step hs
    replace r_6o := r_6o.step hs
    refine ⟨fun x => Stp I_7g w_7f I_7g x ∧ OwnK [(g_6d, [(.bool x_65), v_6e, (.bool x_67), v_6f], 31), (g_6g, [(.bool x_69), v_6h, (.bool x_6b), v_6i], 31)] x, ⟨Stp.refl _ _, (OwnK.cons (hp.own 2 _ _ _ rfl).1 (OwnK.cons (hp.own 3 _ _ _ rfl).1 OwnK.nil))⟩, fun x hx => ⟨hz.held hx.1, hx.2⟩, ?_⟩
    have hz := Stp.refl I_7g w_7f
    refine vch_l e12 rfl ?_
    obtain ⟨x_7l, q_7m, h⟩ := bind_some h
    refine ev_call rfl rfl C39 (((rational_Mul_ok n) _ _  (Rational.mk (Int_2.mk x_65 x_66) (Int_2.mk x_67 x_68)) v_6e r_6l v_6f r_6m (Rational.mk (Int_2.mk x_a.Num.Neg x_a.Num.Mag) (Int_2.mk x_a.Den.Neg x_a.Den.Mag)) v_b r_c v_d r_e hp.imm _ q_7m).mono ?_)
    rintro _ w_7n ⟨I_7o, v_7p, v_7q, hv, hq, r_7r, r_7s⟩
    replace hv := hv.symm
    subst hv
    have hs := hq.st
    have hp := hp.join0 hq
    replace hz := hz.trans hs
    replace r_7b := r_7b.step hs
    replace r_7c := r_7c.step hs
    replace r_7j := r_7j.step hs
    replace r_7k := r_7k.step hs
    replace r_6l := r_6l.step hs
    replace r_6m := r_6m.step hs
    replace r_6n := r_6n.step hs
    replace r_6o := r_6o.step hs
    refine ⟨fun x => Stp I_7o w_7n I_7o x ∧ OwnK [(g_6d, [(.bool x_65), v_6e, (.bool x_67), v_6f], 31), (g_6g, [(.bool x_69), v_6h, (.bool x_6b), v_6i], 31)] x, ⟨Stp.refl _ _, (OwnK.cons (hp.own 2 _ _ _ rfl).1 (OwnK.cons (hp.own 3 _ _ _ rfl).1 OwnK.nil))⟩, fun x hx => ⟨hz.held hx.1, hx.2⟩, ?_⟩
    have hz := Stp.refl I_7o w_7n
    refine vch_l e13 rfl ?_
    obtain ⟨x_7t, q_7u, h⟩ := bind_some h
    refine ev_call rfl rfl C10 (((rational_Add_ok n) _ _  x_7d v_7h r_7j v_7i r_7k x_7l v_7p r_7r v_7q r_7s hp.imm _ q_7u).mono ?_)
    rintro _ w_7v ⟨I_7w, v_7x, v_7y, hv, hq, r_7z, r_80⟩
    replace hv := hv.symm
    subst hv
    have hs := hq.st
    have hp := hp.join0 hq
    replace hz := hz.trans hs
    replace r_7b := r_7b.step hs
    replace r_7c := r_7c.step hs
    replace r_6l := r_6l.step hs
    replace r_6m := r_6m.step hs
    replace r_6n := r_6n.step hs
    replace r_6o := r_6o.step hs
    refine ⟨fun x => Stp I_7w w_7v I_7w x ∧ OwnK [(g_6d, [(.bool x_65), v_6e, (.bool x_67), v_6f], 31), (g_6g, [(.bool x_69), v_6h, (.bool x_6b), v_6i], 31)] x, ⟨Stp.refl _ _, (OwnK.cons (hp.own 2 _ _ _ rfl).1 (OwnK.cons (hp.own 3 _ _ _ rfl).1 OwnK.nil))⟩, fun x hx => ⟨hz.held hx.1, hx.2⟩, ?_⟩
    have hz := Stp.refl I_7w w_7v
    refine vch_l e14 rfl ?_
    refine ev_storeA hp (i := 0) (off := 0) (vs := [(.bool x_75.Num.Neg), v_79, (.bool x_75.Den.Neg), v_7a]) rfl rfl rfl rfl T31 rfl (Nat.le_of_ble_eq_true rfl) (ones_cons rfl (ones_cons r_7b.one (ones_cons rfl (ones_cons r_7c.one ones_nil)))) ?_
    intro w_81 hp hs
    replace hz := hz.trans hs
    replace r_7z := r_7z.step hs
    replace r_80 := r_80.step hs
    replace r_7b := r_7b.step hs
    replace r_7c := r_7c.step hs
    replace r_6l := r_6l.step hs
    replace r_6m := r_6m.step hs
    replace r_6n := r_6n.step hs
    replace r_6o := r_6o.step hs
    refine ⟨fun x => Stp I_7w w_81 I_7w x ∧ OwnK [(g_6d, [(.bool x_65), v_6e, (.bool x_67), v_6f], 31), (g_6g, [(.bool x_69), v_6h, (.bool x_6b), v_6i], 31)] x, ⟨Stp.refl _ _, (OwnK.cons (hp.own 2 _ _ _ rfl).1 (OwnK.cons (hp.own 3 _ _ _ rfl).1 OwnK.nil))⟩, fun x hx => ⟨hz.held hx.1, hx.2⟩, ?_⟩
    have hz := Stp.refl I_7w w_81
    refine vch_l e15 rfl ?_
    refine ev_storeA hp (i := 1) (off := 0) (vs := [(.bool x_7t.Num.Neg), v_7x, (.bool x_7t.Den.Neg), v_7y]) rfl rfl rfl rfl T31 rfl (Nat.le_of_ble_eq_true rfl) (ones_cons rfl (ones_cons r_7z.one (ones_cons rfl (ones_cons r_80.one ones_nil)))) ?_
    intro w_82 hp hs
    replace hz := hz.trans hs
    replace r_7b := r_7b.step hs
    replace r_7c := r_7c.step hs
    replace r_7z := r_7z.step hs
    replace r_80 := r_80.step hs
    replace r_6l := r_6l.step hs
    replace r_6m := r_6m.step hs
    replace r_6n := r_6n.step hs
    replace r_6o := r_6o.step hs
    refine ⟨fun x => Stp I_7w w_82 I_7w x ∧ OwnK [(g_6d, [(.bool x_65), v_6e, (.bool x_67), v_6f], 31), (g_6g, [(.bool x_69), v_6h, (.bool x_6b), v_6i], 31)] x, ⟨Stp.refl _ _, (OwnK.cons (hp.own 2 _ _ _ rfl).1 (OwnK.cons (hp.own 3 _ _ _ rfl).1 OwnK.nil))⟩, fun x hx => ⟨hz.held hx.1, hx.2⟩, ?_⟩
    have hz := Stp.refl I_7w w_82
    refine vch_end ?_
    apply go
    obtain rfl := Option.some.inj h
    refine ⟨_, run_loadVarA T31 rfl (hp.at_ (i := 0) rfl), ?_⟩
    refine ⟨_, run_loadVarA T31 rfl (hp.at_ (i := 1) rfl), ?_⟩
    have hp := hp.sel [] (by decide)
    exact ⟨I_7w, v_79, v_7a, v_7x, v_7y, rfl, hp, r_7b, r_7c, r_7z, r_80⟩

end Go.Proofs.YtcdboppghnchpaaDoor

namespace Go.Proofs.YtcdboppghnchpaaDoor
open Go Go.Proofs.YtcdboppghnchpaaDoor.Gw Go.RowKit
set_option linter.unusedVariables false
attribute [local irreducible] Ev EvQ EvS EvH
def rotation_Act_S (f : Transform → Rational → Rational → Option (Rational × Rational)) : Prop := ∀ (w0 : World) (I0 : Nat → Prop) (x_0 : Transform) (v_1 : Value) (r_2 : RepS (dI .u32) w0 I0 v_1 x_0.R.P.Mag) (v_3 : Value) (r_4 : RepS (dI .u32) w0 I0 v_3 x_0.R.Q.Mag) (v_5 : Value) (r_6 : RepS (dI .u32) w0 I0 v_5 x_0.X.Num.Mag) (v_7 : Value) (r_8 : RepS (dI .u32) w0 I0 v_7 x_0.X.Den.Mag) (v_9 : Value) (r_a : RepS (dI .u32) w0 I0 v_9 x_0.Y.Num.Mag) (v_b : Value) (r_c : RepS (dI .u32) w0 I0 v_b x_0.Y.Den.Mag) (x_d : Rational) (v_e : Value) (r_f : RepS (dI .u32) w0 I0 v_e x_d.Num.Mag) (v_g : Value) (r_h : RepS (dI .u32) w0 I0 v_g x_d.Den.Mag) (x_i : Rational) (v_j : Value) (r_k : RepS (dI .u32) w0 I0 v_j x_i.Num.Mag) (v_l : Value) (r_m : RepS (dI .u32) w0 I0 v_l x_i.Den.Mag) (hI : ∀ g, I0 g → g < w0.heap.size) (r : (Rational × Rational)), f x_0 x_d x_i = some r →
    Ret Tryd.prog 13 #[(.agg #[(.bool x_0.R.P.Neg), v_1, (.bool x_0.R.Q.Neg), v_3, (.bool x_0.X.Num.Neg), v_5, (.bool x_0.X.Den.Neg), v_7, (.bool x_0.Y.Num.Neg), v_9, (.bool x_0.Y.Den.Neg), v_b]), (.agg #[(.bool x_d.Num.Neg), v_e, (.bool x_d.Den.Neg), v_g]), (.agg #[(.bool x_i.Num.Neg), v_j, (.bool x_i.Den.Neg), v_l])] w0 fun v w1 => ∃ (I1 : Nat → Prop) (u_n : Value) (u_o : Value) (u_p : Value) (u_q : Value), v = (.tuple #[(.agg #[(.bool r.1.Num.Neg), u_n, (.bool r.1.Den.Neg), u_o]), (.agg #[(.bool r.2.Num.Neg), u_p, (.bool r.2.Den.Neg), u_q])]) ∧ Hp ⟨w0, I0, []⟩ I1 [] w1 ∧ RepS (dI .u32) w1 I1 u_n r.1.Num.Mag ∧ RepS (dI .u32) w1 I1 u_o r.1.Den.Mag ∧ RepS (dI .u32) w1 I1 u_p r.2.Num.Mag ∧ RepS (dI .u32) w1 I1 u_q r.2.Den.Mag
theorem rotation_Act_ok (n : Nat) : rotation_Act_S (rotation_Act n) := by
  intro w0 I0 x_0 v_1 r_2 v_3 r_4 v_5 r_6 v_7 r_8 v_9 r_a v_b r_c x_d v_e r_f v_g r_h x_i v_j r_k v_l r_m hI r h
  unfold rotation_Act at h
  refine enter Tryd.func13 rfl (Nat.le_of_ble_eq_true rfl) ?_
  have hp : Hp ⟨w0, I0, []⟩ I0 [] w0 := Hp.start hI
  apply go
  apply go
  refine ev_boxI hp rfl rfl ?_
  intro p_n I_o w_p hp hs a_q
  replace r_f := r_f.step hs
  replace r_h := r_h.step hs
  replace r_k := r_k.step hs
  replace r_m := r_m.step hs
  replace r_2 := r_2.step hs
  replace r_4 := r_4.step hs
  replace r_6 := r_6.step hs
  replace r_8 := r_8.step hs
  replace r_a := r_a.step hs
  replace r_c := r_c.step hs
  refine ev_boxI hp rfl rfl ?_
  intro p_r I_s w_t hp hs a_u
  replace r_k := r_k.step hs
  replace r_m := r_m.step hs
  replace a_q := a_q.step hs
  replace r_2 := r_2.step hs
  replace r_4 := r_4.step hs
  replace r_6 := r_6.step hs
  replace r_8 := r_8.step hs
  replace r_a := r_a.step hs
  replace r_c := r_c.step hs
  replace r_f := r_f.step hs
  replace r_h := r_h.step hs
  refine ev_boxI hp rfl rfl ?_
  intro p_v I_w w_x hp hs a_y
  replace a_q := a_q.step hs
  replace r_2 := r_2.step hs
  replace r_4 := r_4.step hs
  replace r_6 := r_6.step hs
  replace r_8 := r_8.step hs
  replace r_a := r_a.step hs
  replace r_c := r_c.step hs
  replace a_u := a_u.step hs
  replace r_f := r_f.step hs
  replace r_h := r_h.step hs
  replace r_k := r_k.step hs
  replace r_m := r_m.step hs
  refine ev_alloc hp rfl T31 ?_
  intro g_z w_10 hp hs
  replace a_q := a_q.step hs
  replace r_2 := r_2.step hs
  replace r_4 := r_4.step hs
  replace r_6 := r_6.step hs
  replace r_8 := r_8.step hs
  replace r_a := r_a.step hs
  replace r_c := r_c.step hs
  replace a_u := a_u.step hs
  replace r_f := r_f.step hs
  replace r_h := r_h.step hs
  replace a_y := a_y.step hs
  replace r_k := r_k.step hs
  replace r_m := r_m.step hs
  refine ev_alloc hp rfl T31 ?_
  intro g_11 w_12 hp hs
  replace a_q := a_q.step hs
  replace r_2 := r_2.step hs
  replace r_4 := r_4.step hs
  replace r_6 := r_6.step hs
  replace r_8 := r_8.step hs
  replace r_a := r_a.step hs
  replace r_c := r_c.step hs
  replace a_u := a_u.step hs
  replace r_f := r_f.step hs
  replace r_h := r_h.step hs
  replace a_y := a_y.step hs
  replace r_k := r_k.step hs
  replace r_m := r_m.step hs
  apply go
  apply go
  refine ev0 (rn_field rfl rfl FO41_0) ?_
  refine ev (rn_load rfl rfl (run_loadVarA T38 rfl ((a_q.drop 0).take 4))) ?_
  refine ev (rn_load rfl rfl (run_loadVarA T31 rfl a_u)) ?_
  refine ev (rn_load rfl rfl (run_loadVarA T31 rfl a_y)) ?_
  obtain ⟨⟨x_13, x_14⟩, q_15, h⟩ := bind_some h
  refine ev_call rfl rfl C12 (((rotation_Turn_ok n) _ _  (Rot.mk (Int_2.mk x_0.R.P.Neg x_0.R.P.Mag) (Int_2.mk x_0.R.Q.Neg x_0.R.Q.Mag)) v_1 r_2 v_3 r_4 (Rational.mk (Int_2.mk x_d.Num.Neg x_d.Num.Mag) (Int_2.mk x_d.Den.Neg x_d.Den.Mag)) v_e r_f v_g r_h (Rational.mk (Int_2.mk x_i.Num.Neg x_i.Num.Mag) (Int_2.mk x_i.Den.Neg x_i.Den.Mag)) v_j r_k v_l r_m hp.imm _ q_15).mono ?_)
  rintro _ w_16 ⟨I_17, v_18, v_19, v_1a, v_1b, hv, hq, r_1c, r_1d, r_1e, r_1f⟩
  replace hv := hv.symm
  subst hv
  have hs := hq.st
  have hp := hp.join0 hq
  replace a_q := a_q.step hs
  replace r_2 := r_2.step hs
  replace r_4 := r_4.step hs
  replace r_6 := r_6.step hs
  replace r_8 := r_8.step hs
  replace r_a := r_a.step hs
  replace r_c := r_c.step hs
  refine ev_alloc hp rfl T31 ?_
  intro g_1g w_1h hp hs
  replace a_q := a_q.step hs
  replace r_2 := r_2.step hs
  replace r_4 := r_4.step hs
  replace r_6 := r_6.step hs
  replace r_8 := r_8.step hs
  replace r_a := r_a.step hs
  replace r_c := r_c.step hs
  replace r_1c := r_1c.step hs
  replace r_1d := r_1d.step hs
  replace r_1e := r_1e.step hs
  replace r_1f := r_1f.step hs
  refine ev_alloc hp rfl T31 ?_
  intro g_1i w_1j hp hs
  replace a_q := a_q.step hs
  replace r_2 := r_2.step hs
  replace r_4 := r_4.step hs
  replace r_6 := r_6.step hs
  replace r_8 := r_8.step hs
  replace r_a := r_a.step hs
  replace r_c := r_c.step hs
  replace r_1c := r_1c.step hs
  replace r_1d := r_1d.step hs
  replace r_1e := r_1e.step hs
  replace r_1f := r_1f.step hs
  refine ev_storeA hp (i := 1) (off := 0) (vs := [(.bool x_13.Num.Neg), v_18, (.bool x_13.Den.Neg), v_19]) rfl rfl rfl rfl T31 rfl (Nat.le_of_ble_eq_true rfl) (ones_cons rfl (ones_cons r_1c.one (ones_cons rfl (ones_cons r_1d.one ones_nil)))) ?_
  intro w_1k hp hs
  replace a_q := a_q.step hs
  replace r_2 := r_2.step hs
  replace r_4 := r_4.step hs
  replace r_6 := r_6.step hs
  replace r_8 := r_8.step hs
  replace r_a := r_a.step hs
  replace r_c := r_c.step hs
  replace r_1e := r_1e.step hs
  replace r_1f := r_1f.step hs
  replace r_1c := r_1c.step hs
  replace r_1d := r_1d.step hs
  refine ev_storeA hp (i := 0) (off := 0) (vs := [(.bool x_14.Num.Neg), v_1a, (.bool x_14.Den.Neg), v_1b]) rfl rfl rfl rfl T31 rfl (Nat.le_of_ble_eq_true rfl) (ones_cons rfl (ones_cons r_1e.one (ones_cons rfl (ones_cons r_1f.one ones_nil)))) ?_
  intro w_1l hp hs
  replace a_q := a_q.step hs
  replace r_2 := r_2.step hs
  replace r_4 := r_4.step hs
  replace r_6 := r_6.step hs
  replace r_8 := r_8.step hs
  replace r_a := r_a.step hs
  replace r_c := r_c.step hs
  replace r_1e := r_1e.step hs
  replace r_1f := r_1f.step hs
  replace r_1c := r_1c.step hs
  replace r_1d := r_1d.step hs
  apply go
  have hs := hp.stp (Ch.drew [] w_1l)
  have hp := hp.drew
  replace a_q := a_q.step hs
  replace r_2 := r_2.step hs
  replace r_4 := r_4.step hs
  replace r_6 := r_6.step hs
  replace r_8 := r_8.step hs
  replace r_a := r_a.step hs
  replace r_c := r_c.step hs
  replace r_1e := r_1e.step hs
  replace r_1f := r_1f.step hs
  replace r_1c := r_1c.step hs
  replace r_1d := r_1d.step hs
  refine W.held [(0, true), (1, true), (2, true), (4, true), (5, true), (6, true), (3, false), (7, false), (8, false), (9, false)] (fun x => Stp I_17 w_1l.drew I_17 x ∧ OwnK [(g_1g, [(.bool x_13.Num.Neg), v_18, (.bool x_13.Den.Neg), v_19], 31), (g_1i, [(.bool x_14.Num.Neg), v_1a, (.bool x_14.Den.Neg), v_1b], 31)] x) MX (by kernel_rfl) ⟨Stp.refl _ _, (OwnK.cons (hp.own 1 _ _ _ rfl).1 (OwnK.cons (hp.own 0 _ _ _ rfl).1 OwnK.nil))⟩ ?_
  have hz := Stp.refl I_17 w_1l.drew
  refine evh (fun w' hw => rn_load rfl rfl (run_loadVarA T31 rfl (hw.2.at_ (i := 0) rfl))) ?_
  refine evh0 (rn_field rfl rfl FO41_1) ?_
  refine evh (fun w' hw => rn_load rfl rfl (run_loadVarA T31 rfl (((a_q.step hw.1).drop 4).take 4))) ?_
  refine evh (fun w' hw => rn_load rfl rfl (run_loadVarA T31 rfl (hw.2.at_ (i := 1) rfl))) ?_
  refine evh0 (rn_field rfl rfl FO41_2) ?_
  refine evh (fun w' hw => rn_load rfl rfl (run_loadVarA T31 rfl (((a_q.step hw.1).drop 8).take 4))) ?_
  obtain ⟨x_1m, q_1n, h⟩ := bind_some h
  refine ev_call rfl rfl C10 (((rational_Add_ok n) _ _  (Rational.mk (Int_2.mk x_13.Num.Neg x_13.Num.Mag) (Int_2.mk x_13.Den.Neg x_13.Den.Mag)) v_18 r_1c v_19 r_1d (Rational.mk (Int_2.mk x_0.X.Num.Neg x_0.X.Num.Mag) (Int_2.mk x_0.X.Den.Neg x_0.X.Den.Mag)) v_5 r_6 v_7 r_8 hp.imm _ q_1n).mono ?_)
  rintro _ w_1o ⟨I_1p, v_1q, v_1r, hv, hq, r_1s, r_1t⟩
  replace hv := hv.symm
  subst hv
  have hs := hq.st
  have hp := hp.join0 hq
  replace hz := hz.trans hs
  replace r_1e := r_1e.step hs
  replace r_1f := r_1f.step hs
  replace r_a := r_a.step hs
  replace r_c := r_c.step hs
  replace r_1c := r_1c.step hs
  replace r_1d := r_1d.step hs
  refine ⟨fun x => Stp I_1p w_1o I_1p x ∧ OwnK [(g_1g, [(.bool x_13.Num.Neg), v_18, (.bool x_13.Den.Neg), v_19], 31), (g_1i, [(.bool x_14.Num.Neg), v_1a, (.bool x_14.Den.Neg), v_1b], 31)] x, ⟨Stp.refl _ _, (OwnK.cons (hp.own 1 _ _ _ rfl).1 (OwnK.cons (hp.own 0 _ _ _ rfl).1 OwnK.nil))⟩, fun x hx => ⟨hz.held hx.1, hx.2⟩, ?_⟩
  have hz := Stp.refl I_1p w_1o
  obtain ⟨x_1u, q_1v, h⟩ := bind_some h
  refine ev_call rfl rfl C10 (((rational_Add_ok n) _ _  (Rational.mk (Int_2.mk x_14.Num.Neg x_14.Num.Mag) (Int_2.mk x_14.Den.Neg x_14.Den.Mag)) v_1a r_1e v_1b r_1f (Rational.mk (Int_2.mk x_0.Y.Num.Neg x_0.Y.Num.Mag) (Int_2.mk x_0.Y.Den.Neg x_0.Y.Den.Mag)) v_9 r_a v_b r_c hp.imm _ q_1v).mono ?_)
  rintro _ w_1w ⟨I_1x, v_1y, v_1z, hv, hq, r_20, r_21⟩
  replace hv := hv.symm
  subst hv
  have hs := hq.st
  have hp := hp.join0 hq
  replace hz := hz.trans hs
  replace r_1s := r_1s.step hs
  replace r_1t := r_1t.step hs
  replace r_1e := r_1e.step hs
  replace r_1f := r_1f.step hs
  replace r_1c := r_1c.step hs
  replace r_1d := r_1d.step hs
  refine ⟨fun x => Stp I_1x w_1w I_1x x ∧ OwnK [(g_1g, [(.bool x_13.Num.Neg), v_18, (.bool x_13.Den.Neg), v_19], 31), (g_1i, [(.bool x_14.Num.Neg), v_1a, (.bool x_14.Den.Neg), v_1b], 31)] x, ⟨Stp.refl _ _, (OwnK.cons (hp.own 1 _ _ _ rfl).1 (OwnK.cons (hp.own 0 _ _ _ rfl).1 OwnK.nil))⟩, fun x hx => ⟨hz.held hx.1, hx.2⟩, ?_⟩
  have hz := Stp.refl I_1x w_1w
  refine ev_storeA hp (i := 3) (off := 0) (vs := [(.bool x_1m.Num.Neg), v_1q, (.bool x_1m.Den.Neg), v_1r]) rfl rfl rfl rfl T31 rfl (Nat.le_of_ble_eq_true rfl) (ones_cons rfl (ones_cons r_1s.one (ones_cons rfl (ones_cons r_1t.one ones_nil)))) ?_
  intro w_22 hp hs
  replace hz := hz.trans hs
  replace r_20 := r_20.step hs
  replace r_21 := r_21.step hs
  replace r_1e := r_1e.step hs
  replace r_1f := r_1f.step hs
  replace r_1c := r_1c.step hs
  replace r_1d := r_1d.step hs
  replace r_1s := r_1s.step hs
  replace r_1t := r_1t.step hs
  refine ⟨fun x => Stp I_1x w_22 I_1x x ∧ OwnK [(g_1g, [(.bool x_13.Num.Neg), v_18, (.bool x_13.Den.Neg), v_19], 31), (g_1i, [(.bool x_14.Num.Neg), v_1a, (.bool x_14.Den.Neg), v_1b], 31)] x, ⟨Stp.refl _ _, (OwnK.cons (hp.own 1 _ _ _ rfl).1 (OwnK.cons (hp.own 0 _ _ _ rfl).1 OwnK.nil))⟩, fun x hx => ⟨hz.held hx.1, hx.2⟩, ?_⟩
  have hz := Stp.refl I_1x w_22
  refine ev_storeA hp (i := 2) (off := 0) (vs := [(.bool x_1u.Num.Neg), v_1y, (.bool x_1u.Den.Neg), v_1z]) rfl rfl rfl rfl T31 rfl (Nat.le_of_ble_eq_true rfl) (ones_cons rfl (ones_cons r_20.one (ones_cons rfl (ones_cons r_21.one ones_nil)))) ?_
  intro w_23 hp hs
  replace hz := hz.trans hs
  replace r_1e := r_1e.step hs
  replace r_1f := r_1f.step hs
  replace r_1c := r_1c.step hs
  replace r_1d := r_1d.step hs
  replace r_20 := r_20.step hs
  replace r_21 := r_21.step hs
  replace r_1s := r_1s.step hs
  replace r_1t := r_1t.step hs
  refine ⟨fun x => Stp I_1x w_23 I_1x x ∧ OwnK [(g_1g, [(.bool x_13.Num.Neg), v_18, (.bool x_13.Den.Neg), v_19], 31), (g_1i, [(.bool x_14.Num.Neg), v_1a, (.bool x_14.Den.Neg), v_1b], 31)] x, ⟨Stp.refl _ _, (OwnK.cons (hp.own 1 _ _ _ rfl).1 (OwnK.cons (hp.own 0 _ _ _ rfl).1 OwnK.nil))⟩, fun x hx => ⟨hz.held hx.1, hx.2⟩, ?_⟩
  have hz := Stp.refl I_1x w_23
  apply go
  obtain rfl := Option.some.inj h
  refine ⟨_, run_loadVarA T31 rfl (hp.at_ (i := 3) rfl), ?_⟩
  refine ⟨_, run_loadVarA T31 rfl (hp.at_ (i := 2) rfl), ?_⟩
  have hp := hp.sel [] (by decide)
  exact ⟨I_1x, v_1q, v_1r, v_1y, v_1z, rfl, hp, r_1s, r_1t, r_20, r_21⟩

end Go.Proofs.YtcdboppghnchpaaDoor

namespace Go.Proofs.YtcdboppghnchpaaDoor
open Go Go.Proofs.YtcdboppghnchpaaDoor.Gw Go.RowKit
set_option linter.unusedVariables false
attribute [local irreducible] Ev EvQ EvS EvH
def rotation_Compose_S (f : Transform → Transform → Option Transform) : Prop := ∀ (w0 : World) (I0 : Nat → Prop) (x_0 : Transform) (v_1 : Value) (r_2 : RepS (dI .u32) w0 I0 v_1 x_0.R.P.Mag) (v_3 : Value) (r_4 : RepS (dI .u32) w0 I0 v_3 x_0.R.Q.Mag) (v_5 : Value) (r_6 : RepS (dI .u32) w0 I0 v_5 x_0.X.Num.Mag) (v_7 : Value) (r_8 : RepS (dI .u32) w0 I0 v_7 x_0.X.Den.Mag) (v_9 : Value) (r_a : RepS (dI .u32) w0 I0 v_9 x_0.Y.Num.Mag) (v_b : Value) (r_c : RepS (dI .u32) w0 I0 v_b x_0.Y.Den.Mag) (x_d : Transform) (v_e : Value) (r_f : RepS (dI .u32) w0 I0 v_e x_d.R.P.Mag) (v_g : Value) (r_h : RepS (dI .u32) w0 I0 v_g x_d.R.Q.Mag) (v_i : Value) (r_j : RepS (dI .u32) w0 I0 v_i x_d.X.Num.Mag) (v_k : Value) (r_l : RepS (dI .u32) w0 I0 v_k x_d.X.Den.Mag) (v_m : Value) (r_n : RepS (dI .u32) w0 I0 v_m x_d.Y.Num.Mag) (v_o : Value) (r_p : RepS (dI .u32) w0 I0 v_o x_d.Y.Den.Mag) (hI : ∀ g, I0 g → g < w0.heap.size) (r : Transform), f x_0 x_d = some r →
    Ret Tryd.prog 14 #[(.agg #[(.bool x_0.R.P.Neg), v_1, (.bool x_0.R.Q.Neg), v_3, (.bool x_0.X.Num.Neg), v_5, (.bool x_0.X.Den.Neg), v_7, (.bool x_0.Y.Num.Neg), v_9, (.bool x_0.Y.Den.Neg), v_b]), (.agg #[(.bool x_d.R.P.Neg), v_e, (.bool x_d.R.Q.Neg), v_g, (.bool x_d.X.Num.Neg), v_i, (.bool x_d.X.Den.Neg), v_k, (.bool x_d.Y.Num.Neg), v_m, (.bool x_d.Y.Den.Neg), v_o])] w0 fun v w1 => ∃ (I1 : Nat → Prop) (u_q : Value) (u_r : Value) (u_s : Value) (u_t : Value) (u_u : Value) (u_v : Value), v = (.agg #[(.bool r.R.P.Neg), u_q, (.bool r.R.Q.Neg), u_r, (.bool r.X.Num.Neg), u_s, (.bool r.X.Den.Neg), u_t, (.bool r.Y.Num.Neg), u_u, (.bool r.Y.Den.Neg), u_v]) ∧ Hp ⟨w0, I0, []⟩ I1 [] w1 ∧ RepS (dI .u32) w1 I1 u_q r.R.P.Mag ∧ RepS (dI .u32) w1 I1 u_r r.R.Q.Mag ∧ RepS (dI .u32) w1 I1 u_s r.X.Num.Mag ∧ RepS (dI .u32) w1 I1 u_t r.X.Den.Mag ∧ RepS (dI .u32) w1 I1 u_u r.Y.Num.Mag ∧ RepS (dI .u32) w1 I1 u_v r.Y.Den.Mag
theorem rotation_Compose_ok (n : Nat) : rotation_Compose_S (rotation_Compose n) := by
  intro w0 I0 x_0 v_1 r_2 v_3 r_4 v_5 r_6 v_7 r_8 v_9 r_a v_b r_c x_d v_e r_f v_g r_h v_i r_j v_k r_l v_m r_n v_o r_p hI r h
  unfold rotation_Compose at h
  refine enter Tryd.func14 rfl (Nat.le_of_ble_eq_true rfl) ?_
  have hp : Hp ⟨w0, I0, []⟩ I0 [] w0 := Hp.start hI
  apply go
  apply go
  refine ev_boxI hp rfl rfl ?_
  intro p_q I_r w_s hp hs a_t
  replace r_f := r_f.step hs
  replace r_h := r_h.step hs
  replace r_j := r_j.step hs
  replace r_l := r_l.step hs
  replace r_n := r_n.step hs
  replace r_p := r_p.step hs
  replace r_2 := r_2.step hs
  replace r_4 := r_4.step hs
  replace r_6 := r_6.step hs
  replace r_8 := r_8.step hs
  replace r_a := r_a.step hs
  replace r_c := r_c.step hs
  refine ev_boxI hp rfl rfl ?_
  intro p_u I_v w_w hp hs a_x
  replace a_t := a_t.step hs
  replace r_2 := r_2.step hs
  replace r_4 := r_4.step hs
  replace r_6 := r_6.step hs
  replace r_8 := r_8.step hs
  replace r_a := r_a.step hs
  replace r_c := r_c.step hs
  replace r_f := r_f.step hs
  replace r_h := r_h.step hs
  replace r_j := r_j.step hs
  replace r_l := r_l.step hs
  replace r_n := r_n.step hs
  replace r_p := r_p.step hs
  refine ev_alloc hp rfl T41 ?_
  intro g_y w_z hp hs
  replace a_t := a_t.step hs
  replace r_2 := r_2.step hs
  replace r_4 := r_4.step hs
  replace r_6 := r_6.step hs
  replace r_8 := r_8.step hs
  replace r_a := r_a.step hs
  replace r_c := r_c.step hs
  replace a_x := a_x.step hs
  replace r_f := r_f.step hs
  replace r_h := r_h.step hs
  replace r_j := r_j.step hs
  replace r_l := r_l.step hs
  replace r_n := r_n.step hs
  replace r_p := r_p.step hs
  apply go
  apply go
  refine ev (rn_load rfl rfl (run_loadVarA T41 rfl a_t)) ?_
  refine ev0 (rn_field rfl rfl FO41_1) ?_
  refine ev (rn_load rfl rfl (run_loadVarA T31 rfl ((a_x.drop 4).take 4))) ?_
  refine ev0 (rn_field rfl rfl FO41_2) ?_
  refine ev (rn_load rfl rfl (run_loadVarA T31 rfl ((a_x.drop 8).take 4))) ?_
  obtain ⟨⟨x_10, x_11⟩, q_12, h⟩ := bind_some h
  refine ev_call rfl rfl C13 (((rotation_Act_ok n) _ _  (Transform.mk (Rot.mk (Int_2.mk x_0.R.P.Neg x_0.R.P.Mag) (Int_2.mk x_0.R.Q.Neg x_0.R.Q.Mag)) (Rational.mk (Int_2.mk x_0.X.Num.Neg x_0.X.Num.Mag) (Int_2.mk x_0.X.Den.Neg x_0.X.Den.Mag)) (Rational.mk (Int_2.mk x_0.Y.Num.Neg x_0.Y.Num.Mag) (Int_2.mk x_0.Y.Den.Neg x_0.Y.Den.Mag))) v_1 r_2 v_3 r_4 v_5 r_6 v_7 r_8 v_9 r_a v_b r_c (Rational.mk (Int_2.mk x_d.X.Num.Neg x_d.X.Num.Mag) (Int_2.mk x_d.X.Den.Neg x_d.X.Den.Mag)) v_i r_j v_k r_l (Rational.mk (Int_2.mk x_d.Y.Num.Neg x_d.Y.Num.Mag) (Int_2.mk x_d.Y.Den.Neg x_d.Y.Den.Mag)) v_m r_n v_o r_p hp.imm _ q_12).mono ?_)
  rintro _ w_13 ⟨I_14, v_15, v_16, v_17, v_18, hv, hq, r_19, r_1a, r_1b, r_1c⟩
  replace hv := hv.symm
  subst hv
  have hs := hq.st
  have hp := hp.join0 hq
  replace a_t := a_t.step hs
  replace r_2 := r_2.step hs
  replace r_4 := r_4.step hs
  replace r_6 := r_6.step hs
  replace r_8 := r_8.step hs
  replace r_a := r_a.step hs
  replace r_c := r_c.step hs
  replace a_x := a_x.step hs
  replace r_f := r_f.step hs
  replace r_h := r_h.step hs
  replace r_j := r_j.step hs
  replace r_l := r_l.step hs
  replace r_n := r_n.step hs
  replace r_p := r_p.step hs
  refine ev_alloc hp rfl T31 ?_
  intro g_1d w_1e hp hs
  replace a_t := a_t.step hs
  replace r_2 := r_2.step hs
  replace r_4 := r_4.step hs
  replace r_6 := r_6.step hs
  replace r_8 := r_8.step hs
  replace r_a := r_a.step hs
  replace r_c := r_c.step hs
  replace a_x := a_x.step hs
  replace r_f := r_f.step hs
  replace r_h := r_h.step hs
  replace r_j := r_j.step hs
  replace r_l := r_l.step hs
  replace r_n := r_n.step hs
  replace r_p := r_p.step hs
  replace r_19 := r_19.step hs
  replace r_1a := r_1a.step hs
  replace r_1b := r_1b.step hs
  replace r_1c := r_1c.step hs
  refine ev_alloc hp rfl T31 ?_
  intro g_1f w_1g hp hs
  replace a_t := a_t.step hs
  replace r_2 := r_2.step hs
  replace r_4 := r_4.step hs
  replace r_6 := r_6.step hs
  replace r_8 := r_8.step hs
  replace r_a := r_a.step hs
  replace r_c := r_c.step hs
  replace a_x := a_x.step hs
  replace r_f := r_f.step hs
  replace r_h := r_h.step hs
  replace r_j := r_j.step hs
  replace r_l := r_l.step hs
  replace r_n := r_n.step hs
  replace r_p := r_p.step hs
  replace r_19 := r_19.step hs
  replace r_1a := r_1a.step hs
  replace r_1b := r_1b.step hs
  replace r_1c := r_1c.step hs
  refine ev_storeA hp (i := 1) (off := 0) (vs := [(.bool x_10.Num.Neg), v_15, (.bool x_10.Den.Neg), v_16]) rfl rfl rfl rfl T31 rfl (Nat.le_of_ble_eq_true rfl) (ones_cons rfl (ones_cons r_19.one (ones_cons rfl (ones_cons r_1a.one ones_nil)))) ?_
  intro w_1h hp hs
  replace a_t := a_t.step hs
  replace r_2 := r_2.step hs
  replace r_4 := r_4.step hs
  replace r_6 := r_6.step hs
  replace r_8 := r_8.step hs
  replace r_a := r_a.step hs
  replace r_c := r_c.step hs
  replace a_x := a_x.step hs
  replace r_f := r_f.step hs
  replace r_h := r_h.step hs
  replace r_j := r_j.step hs
  replace r_l := r_l.step hs
  replace r_n := r_n.step hs
  replace r_p := r_p.step hs
  replace r_1b := r_1b.step hs
  replace r_1c := r_1c.step hs
  replace r_19 := r_19.step hs
  replace r_1a := r_1a.step hs
  refine ev_storeA hp (i := 0) (off := 0) (vs := [(.bool x_11.Num.Neg), v_17, (.bool x_11.Den.Neg), v_18]) rfl rfl rfl rfl T31 rfl (Nat.le_of_ble_eq_true rfl) (ones_cons rfl (ones_cons r_1b.one (ones_cons rfl (ones_cons r_1c.one ones_nil)))) ?_
  intro w_1i hp hs
  replace a_t := a_t.step hs
  replace r_2 := r_2.step hs
  replace r_4 := r_4.step hs
  replace r_6 := r_6.step hs
  replace r_8 := r_8.step hs
  replace r_a := r_a.step hs
  replace r_c := r_c.step hs
  replace a_x := a_x.step hs
  replace r_f := r_f.step hs
  replace r_h := r_h.step hs
  replace r_j := r_j.step hs
  replace r_l := r_l.step hs
  replace r_n := r_n.step hs
  replace r_p := r_p.step hs
  replace r_1b := r_1b.step hs
  replace r_1c := r_1c.step hs
  replace r_19 := r_19.step hs
  replace r_1a := r_1a.step hs
  apply go
  have hs := hp.stp (Ch.drew [] w_1i)
  have hp := hp.drew
  replace a_t := a_t.step hs
  replace r_2 := r_2.step hs
  replace r_4 := r_4.step hs
  replace r_6 := r_6.step hs
  replace r_8 := r_8.step hs
  replace r_a := r_a.step hs
  replace r_c := r_c.step hs
  replace a_x := a_x.step hs
  replace r_f := r_f.step hs
  replace r_h := r_h.step hs
  replace r_j := r_j.step hs
  replace r_l := r_l.step hs
  replace r_n := r_n.step hs
  replace r_p := r_p.step hs
  replace r_1b := r_1b.step hs
  replace r_1c := r_1c.step hs
  replace r_19 := r_19.step hs
  replace r_1a := r_1a.step hs
  refine W.held [(0, true), (1, true), (2, true), (3, true), (5, true), (6, true), (4, false), (7, true), (8, false)] (fun x => Stp I_14 w_1i.drew I_14 x ∧ OwnK [(g_1d, [(.bool x_10.Num.Neg), v_15, (.bool x_10.Den.Neg), v_16], 31), (g_1f, [(.bool x_11.Num.Neg), v_17, (.bool x_11.Den.Neg), v_18], 31)] x) MX (by kernel_rfl) ⟨Stp.refl _ _, (OwnK.cons (hp.own 1 _ _ _ rfl).1 (OwnK.cons (hp.own 0 _ _ _ rfl).1 OwnK.nil))⟩ ?_
  have hz := Stp.refl I_14 w_1i.drew
  refine evh0 (rn_field rfl rfl FO41_0) ?_
  refine evh (fun w' hw => rn_load rfl rfl (run_loadVarA T38 rfl (((a_t.step hw.1).drop 0).take 4))) ?_
  refine evh0 (rn_field rfl rfl FO41_0) ?_
  refine evh (fun w' hw => rn_load rfl rfl (run_loadVarA T38 rfl (((a_x.step hw.1).drop 0).take 4))) ?_
  refine evh (fun w' hw => rn_load rfl rfl (run_loadVarA T31 rfl (hw.2.at_ (i := 0) rfl))) ?_
  refine evh (fun w' hw => rn_load rfl rfl (run_loadVarA T31 rfl (hw.2.at_ (i := 1) rfl))) ?_
  obtain ⟨x_1j, q_1k, h⟩ := bind_some h
  refine ev_call rfl rfl C36 (((rotation_Then_ok n) _ _  (Rot.mk (Int_2.mk x_0.R.P.Neg x_0.R.P.Mag) (Int_2.mk x_0.R.Q.Neg x_0.R.Q.Mag)) v_1 r_2 v_3 r_4 (Rot.mk (Int_2.mk x_d.R.P.Neg x_d.R.P.Mag) (Int_2.mk x_d.R.Q.Neg x_d.R.Q.Mag)) v_e r_f v_g r_h hp.imm _ q_1k).mono ?_)
  rintro _ w_1l ⟨I_1m, v_1n, v_1o, hv, hq, r_1p, r_1q⟩
  replace hv := hv.symm
  subst hv
  have hs := hq.st
  have hp := hp.join0 hq
  replace hz := hz.trans hs
  replace r_19 := r_19.step hs
  replace r_1a := r_1a.step hs
  replace r_1b := r_1b.step hs
  replace r_1c := r_1c.step hs
  refine ⟨fun x => Stp I_1m w_1l I_1m x ∧ OwnK [(g_1d, [(.bool x_10.Num.Neg), v_15, (.bool x_10.Den.Neg), v_16], 31), (g_1f, [(.bool x_11.Num.Neg), v_17, (.bool x_11.Den.Neg), v_18], 31)] x, ⟨Stp.refl _ _, (OwnK.cons (hp.own 1 _ _ _ rfl).1 (OwnK.cons (hp.own 0 _ _ _ rfl).1 OwnK.nil))⟩, fun x hx => ⟨hz.held hx.1, hx.2⟩, ?_⟩
  have hz := Stp.refl I_1m w_1l
  obtain ⟨A_1r, m_1s, m_1t, rfl⟩ := r_1p.isSl
  obtain ⟨A_1u, m_1v, m_1w, rfl⟩ := r_1q.isSl
  obtain ⟨A_1x, m_1y, m_1z, rfl⟩ := r_19.isSl
  obtain ⟨A_20, m_21, m_22, rfl⟩ := r_1a.isSl
  obtain ⟨A_23, m_24, m_25, rfl⟩ := r_1b.isSl
  obtain ⟨A_26, m_27, m_28, rfl⟩ := r_1c.isSl
  refine evh0 (fun w => rn_build (cs := [(.bool x_1j.P.Neg), (.slice A_1r m_1s m_1t), (.bool x_1j.Q.Neg), (.slice A_1u m_1v m_1w), (.bool x_10.Num.Neg), (.slice A_1x m_1y m_1z), (.bool x_10.Den.Neg), (.slice A_20 m_21 m_22), (.bool x_11.Num.Neg), (.slice A_23 m_24 m_25), (.bool x_11.Den.Neg), (.slice A_26 m_27 m_28)]) rfl rfl T41 PL41 (by kernel_rfl)) ?_
  refine ev_storeA hp (i := 2) (off := 0) (vs := [(.bool x_1j.P.Neg), (.slice A_1r m_1s m_1t), (.bool x_1j.Q.Neg), (.slice A_1u m_1v m_1w), (.bool x_10.Num.Neg), (.slice A_1x m_1y m_1z), (.bool x_10.Den.Neg), (.slice A_20 m_21 m_22), (.bool x_11.Num.Neg), (.slice A_23 m_24 m_25), (.bool x_11.Den.Neg), (.slice A_26 m_27 m_28)]) rfl rfl rfl rfl T41 rfl (Nat.le_of_ble_eq_true rfl) (ones_cons rfl (ones_cons r_1p.one (ones_cons rfl (ones_cons r_1q.one (ones_cons rfl (ones_cons r_19.one (ones_cons rfl (ones_cons r_1a.one (ones_cons rfl (ones_cons r_1b.one (ones_cons rfl (ones_cons r_1c.one ones_nil)))))))))))) ?_
  intro w_29 hp hs
  replace hz := hz.trans hs
  replace r_1b := r_1b.step hs
  replace r_1c := r_1c.step hs
  replace r_19 := r_19.step hs
  replace r_1a := r_1a.step hs
  replace r_1p := r_1p.step hs
  replace r_1q := r_1q.step hs
  refine ⟨fun x => Stp I_1m w_29 I_1m x ∧ OwnK [(g_1d, [(.bool x_10.Num.Neg), (.slice A_1x m_1y m_1z), (.bool x_10.Den.Neg), (.slice A_20 m_21 m_22)], 31), (g_1f, [(.bool x_11.Num.Neg), (.slice A_23 m_24 m_25), (.bool x_11.Den.Neg), (.slice A_26 m_27 m_28)], 31)] x, ⟨Stp.refl _ _, (OwnK.cons (hp.own 1 _ _ _ rfl).1 (OwnK.cons (hp.own 0 _ _ _ rfl).1 OwnK.nil))⟩, fun x hx => ⟨hz.held hx.1, hx.2⟩, ?_⟩
  have hz := Stp.refl I_1m w_29
  apply go
  obtain rfl := Option.some.inj h
  refine ⟨_, run_loadVarA T41 rfl (hp.at_ (i := 2) rfl), ?_⟩
  have hp := hp.sel [] (by decide)
  exact ⟨I_1m, (.slice A_1r m_1s m_1t), (.slice A_1u m_1v m_1w), (.slice A_1x m_1y m_1z), (.slice A_20 m_21 m_22), (.slice A_23 m_24 m_25), (.slice A_26 m_27 m_28), rfl, hp, r_1p, r_1q, r_19, r_1a, r_1b, r_1c⟩

end Go.Proofs.YtcdboppghnchpaaDoor
