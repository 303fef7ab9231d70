/-
  Each function of the program computes the plain function of its name.
-/
import Derived.Test.YtepadjfmcbjkmaaGreatDoorFactsA
import Derived.Test.YtepadjfmcbjkmaaGreatDoorWalkA
import Derived.Test.YtepadjfmcbjkmaaGreatDoorWalkB
import Derived.Test.YtepadjfmcbjkmaaGreatDoorCoreA
namespace Go.Proofs.YtepadjfmcbjkmaaGreatDoor
open Go Go.Proofs.YtepadjfmcbjkmaaGreatDoor.Gw Go.RowKit
set_option linter.unusedVariables false
attribute [local irreducible] Ev EvQ EvS EvH
def base_Int_S (f : Int_2 → Int_2 → Option Bool) : Prop := ∀ (w0 : World) (I0 : Nat → Prop) (x28835 : Int_2) (v28836 : Value) (r28837 : RepS (dI .u32) w0 I0 v28836 x28835.Mag) (x28838 : Int_2) (v28839 : Value) (r28840 : RepS (dI .u32) w0 I0 v28839 x28838.Mag) (hI : ∀ g, I0 g → g < w0.heap.size) (r : Bool), f x28835 x28838 = some r →
    Ret Tryz.prog 17 #[(.agg #[(.bool x28835.Neg), v28836]), (.agg #[(.bool x28838.Neg), v28839])] w0 fun v w1 => v = (.bool r) ∧ Ch [] w0 w1
theorem base_Int_ok (n : Nat) : base_Int_S (base_Int n) := by
  intro w0 I0 x28835 v28836 r28837 x28838 v28839 r28840 hI r h
  unfold base_Int at h
  refine enter Tryz.func17 rfl (Nat.le_of_ble_eq_true rfl) ?_
  have hp : Hp ⟨w0, I0, []⟩ I0 [] w0 := Hp.start hI
  apply go
  apply go
  refine ev_boxI hp rfl rfl ?_
  intro p28843 I28844 w28842 hp hs a28845
  replace r28840 := r28840.step hs
  replace r28837 := r28837.step hs
  refine ev_boxI hp rfl rfl ?_
  intro p28848 I28849 w28847 hp hs a28850
  replace a28845 := a28845.step hs
  replace r28837 := r28837.step hs
  replace r28840 := r28840.step hs
  apply go
  obtain ⟨y28852, q28853, h⟩ := bind_some h
  refine W.cut (γ := Bool) (fun g => [(2, (.pointer (some (p28843)))), (3, (.pointer (some (p28848)))), (19, (.bool (g)))]) (fun g w' => y28852 = (g) ∧ w28847 = w') ?_ ?_
  ·
    apply go
    refine ev0 (rn_field rfl rfl FO24_0) ?_
    refine ev (rn_load rfl rfl (run_loadVar1 T4 (a28845.2 0 _ rfl))) ?_
    refine ev0 (rn_field rfl rfl FO24_0) ?_
    refine ev (rn_load rfl rfl (run_loadVar1 T4 (a28850.2 0 _ rfl))) ?_
    refine ev0 (rn_neB rfl rfl rfl Tryz.underlying4) ?_
    refine sel_of (fun hc => ?_) (fun hc => ?_)
    ·
      have q28853 := cond_t q28853 hc
      obtain rfl := Option.some.inj q28853
      exact ⟨true, (.c rfl (.c rfl (.c rfl .n))), rfl, rfl⟩
    ·
      have q28853 := cond_f q28853 hc
      refine ev0 (rn_field rfl rfl FO24_1) ?_
      refine ev (rn_load rfl rfl (run_loadVar1 T22 (a28845.2 1 _ rfl))) ?_
      refine ev0 (rn_len rfl rfl Tryz.underlying22 r28837) ?_
      refine ev0 (rn_field rfl rfl FO24_1) ?_
      refine ev (rn_load rfl rfl (run_loadVar1 T22 (a28850.2 1 _ rfl))) ?_
      refine ev0 (rn_len rfl rfl Tryz.underlying22 r28840) ?_
      obtain rfl := Option.some.inj q28853
      exact ⟨((x28835.Mag.length : Int) != (x28838.Mag.length : Int)), (.c rfl (.c rfl (.c rfl .n))), rfl, rfl⟩
  ·
    rintro x28851 _ ⟨hy, rfl⟩
    replace hy := hy.symm
    subst hy
    apply go
    refine sel_of (fun hc => ?_) (fun hc => ?_)
    ·
      have h := cond_t h hc
      apply go
      apply go
      apply go
      obtain rfl := Option.some.inj h
      exact ⟨rfl, hp.ch⟩
    ·
      have h := cond_f h hc
      apply go
      obtain ⟨y28902, q28903, h⟩ := bind_some h
      refine W.cut (γ := Unit) (fun _ => []) (fun _ w' => y28902 = .go () ∧ Hp ⟨w0, I0, []⟩ I28849 [] w') ?_ ?_
      ·
        apply go
        apply go
        apply go
        refine W.loop q28903 (γ := Unit) (fun s _ => [(2, (.pointer (some (p28843)))), (3, (.pointer (some (p28848)))), (5, (.int .i64 (s)))]) (fun s _ w' => Hp ⟨w0, I0, []⟩ I28849 [] w' ∧ RepS (dI .u32) w' I28849 v28836 x28835.Mag ∧ At w' I28849 p28843 [(.bool x28835.Neg), v28836] ∧ RepS (dI .u32) w' I28849 v28839 x28838.Mag ∧ At w' I28849 p28848 [(.bool x28838.Neg), v28839]) () (.c rfl (.c rfl (.c rfl .n))) ⟨hp, r28837, a28845, r28840, a28850⟩ ?_
        rintro x28917 ⟨⟩ w28932 y28933 ⟨hp, r28837, a28845, r28840, a28850⟩ q28934 q28935
        unfold base_Int_L1 at q28934
        apply go
        apply go
        apply go
        refine ev0 (rn_field rfl rfl FO24_1) ?_
        refine ev (rn_load rfl rfl (run_loadVar1 T22 (a28845.2 1 _ rfl))) ?_
        refine ev0 (rn_len rfl rfl Tryz.underlying22 r28837) ?_
        apply go
        refine sel_of (fun hc => ?_) (fun hc => ?_)
        ·
          have q28934 := cond_t q28934 hc
          apply go
          apply go
          apply go
          apply go
          refine W.quiet (fun w' => Ch [] w28932 w') MX (by kernel_rfl) (Ch.drew [] w28932) ?_
          refine evq0 (rn_field rfl rfl FO24_1) ?_
          refine evq (fun w' hw => rn_load rfl rfl (run_loadVar1 T22 ((a28845.step (hp.stp hw)).2 1 _ rfl))) ?_
          obtain ⟨x28936, q28937, q28934⟩ := bind_some q28934
          refine evq_index rfl rfl rfl Tryz.underlying22 T46 r28837 q28937 ?_
          intro p28938 c28939 d28940 a28941
          obtain rfl : c28939 = [(.int .u32 x28936)] := d28940
          refine evq (fun w' hw => rn_load rfl rfl (run_loadVar1 T46 ((a28941.step (hp.stp hw)).2 0 _ rfl))) ?_
          refine evq0 (rn_field rfl rfl FO24_1) ?_
          refine evq (fun w' hw => rn_load rfl rfl (run_loadVar1 T22 ((a28850.step (hp.stp hw)).2 1 _ rfl))) ?_
          obtain ⟨x28942, q28943, q28934⟩ := bind_some q28934
          refine evq_index rfl rfl rfl Tryz.underlying22 T46 r28840 q28943 ?_
          intro p28944 c28945 d28946 a28947
          obtain rfl : c28945 = [(.int .u32 x28942)] := d28946
          refine evq (fun w' hw => rn_load rfl rfl (run_loadVar1 T46 ((a28947.step (hp.stp hw)).2 0 _ rfl))) ?_
          intro w28948 hc
          have hs := hp.stp hc
          replace hp := hp.ext hc
          replace a28845 := a28845.step hs
          replace r28837 := r28837.step hs
          replace a28850 := a28850.step hs
          replace r28840 := r28840.step hs
          apply go
          refine sel_of (fun hc => ?_) (fun hc => ?_)
          ·
            have q28934 := cond_t q28934 hc
            apply go
            apply go
            apply go
            have q28949 := congrArg some (q28935 _ (Option.some.inj q28934).symm)
            obtain rfl := Option.some.inj q28949
            obtain rfl := Option.some.inj h
            exact ⟨rfl, hp.ch⟩
          ·
            have q28934 := cond_f q28934 hc
            apply go
            apply go
            exact ⟨_, (Option.some.inj q28934).symm, (), (.c rfl (.c rfl (.c rfl .n))), ⟨hp, r28837, a28845, r28840, a28850⟩⟩
        ·
          have q28934 := cond_f q28934 hc
          apply go
          have q28950 := congrArg some (q28935 _ (Option.some.inj q28934).symm)
          obtain rfl := Option.some.inj q28950
          exact ⟨(), .n, rfl, hp⟩
      ·
        rintro ⟨⟩ w28901 ⟨hy, hp⟩
        replace hy := hy.symm
        subst hy
        apply go
        apply go
        apply go
        obtain rfl := Option.some.inj h
        exact ⟨rfl, hp.ch⟩

end Go.Proofs.YtepadjfmcbjkmaaGreatDoor

namespace Go.Proofs.YtepadjfmcbjkmaaGreatDoor
open Go Go.Proofs.YtepadjfmcbjkmaaGreatDoor.Gw Go.RowKit
set_option linter.unusedVariables false
attribute [local irreducible] Ev EvQ EvS EvH
def base_Rational_S (f : Rational → Rational → Option Bool) : Prop := ∀ (w0 : World) (I0 : Nat → Prop) (x28951 : Rational) (v28952 : Value) (r28953 : RepS (dI .u32) w0 I0 v28952 x28951.Num.Mag) (v28954 : Value) (r28955 : RepS (dI .u32) w0 I0 v28954 x28951.Den.Mag) (x28956 : Rational) (v28957 : Value) (r28958 : RepS (dI .u32) w0 I0 v28957 x28956.Num.Mag) (v28959 : Value) (r28960 : RepS (dI .u32) w0 I0 v28959 x28956.Den.Mag) (hI : ∀ g, I0 g → g < w0.heap.size) (r : Bool), f x28951 x28956 = some r →
    Ret Tryz.prog 14 #[(.agg #[(.bool x28951.Num.Neg), v28952, (.bool x28951.Den.Neg), v28954]), (.agg #[(.bool x28956.Num.Neg), v28957, (.bool x28956.Den.Neg), v28959])] w0 fun v w1 => v = (.bool r) ∧ Ch [] w0 w1
theorem base_Rational_ok (n : Nat) : base_Rational_S (base_Rational n) := by
  intro w0 I0 x28951 v28952 r28953 v28954 r28955 x28956 v28957 r28958 v28959 r28960 hI r h
  unfold base_Rational at h
  refine enter Tryz.func14 rfl (Nat.le_of_ble_eq_true rfl) ?_
  have hp : Hp ⟨w0, I0, []⟩ I0 [] w0 := Hp.start hI
  apply go
  apply go
  refine ev_boxI hp rfl rfl ?_
  intro p28963 I28964 w28962 hp hs a28965
  replace r28958 := r28958.step hs
  replace r28960 := r28960.step hs
  replace r28953 := r28953.step hs
  replace r28955 := r28955.step hs
  refine ev_boxI hp rfl rfl ?_
  intro p28968 I28969 w28967 hp hs a28970
  replace a28965 := a28965.step hs
  replace r28953 := r28953.step hs
  replace r28955 := r28955.step hs
  replace r28958 := r28958.step hs
  replace r28960 := r28960.step hs
  obtain ⟨y28979, q28980, h⟩ := bind_some h
  refine W.cut (γ := Bool) (fun g => [(4, (.bool (g)))]) (fun g w' => y28979 = (g) ∧ Hp ⟨w0, I0, []⟩ I28969 [] w') ?_ ?_
  ·
    apply go
    refine ev0 (rn_field rfl rfl FO26_0) ?_
    refine ev (rn_load rfl rfl (run_loadVarA T24 rfl ((a28965.drop 0).take 2))) ?_
    refine ev0 (rn_field rfl rfl FO26_0) ?_
    refine ev (rn_load rfl rfl (run_loadVarA T24 rfl ((a28970.drop 0).take 2))) ?_
    obtain ⟨x28981, q28982, q28980⟩ := bind_some q28980
    refine ev_call rfl rfl C17 (((base_Int_ok n) _ _  (Int_2.mk x28951.Num.Neg x28951.Num.Mag) v28952 r28953 (Int_2.mk x28956.Num.Neg x28956.Num.Mag) v28957 r28958 hp.imm _ q28982).mono ?_)
    rintro _ w28983 ⟨rfl, hc⟩
    have hs := hp.stp hc
    replace hp := hp.ext hc
    replace a28965 := a28965.step hs
    replace r28953 := r28953.step hs
    replace r28955 := r28955.step hs
    replace a28970 := a28970.step hs
    replace r28958 := r28958.step hs
    replace r28960 := r28960.step hs
    refine sel_of (fun hc => ?_) (fun hc => ?_)
    ·
      have q28980 := cond_t q28980 hc
      refine ev0 (rn_field rfl rfl FO26_1) ?_
      refine ev (rn_load rfl rfl (run_loadVarA T24 rfl ((a28965.drop 2).take 2))) ?_
      refine ev0 (rn_field rfl rfl FO26_1) ?_
      refine ev (rn_load rfl rfl (run_loadVarA T24 rfl ((a28970.drop 2).take 2))) ?_
      obtain ⟨x28984, q28985, q28980⟩ := bind_some q28980
      refine ev_call rfl rfl C17 (((base_Int_ok n) _ _  (Int_2.mk x28951.Den.Neg x28951.Den.Mag) v28954 r28955 (Int_2.mk x28956.Den.Neg x28956.Den.Mag) v28959 r28960 hp.imm _ q28985).mono ?_)
      rintro _ w28986 ⟨rfl, hc⟩
      have hs := hp.stp hc
      replace hp := hp.ext hc
      obtain rfl := Option.some.inj q28980
      exact ⟨x28984, (.c rfl .n), rfl, hp⟩
    ·
      have q28980 := cond_f q28980 hc
      obtain rfl := Option.some.inj q28980
      exact ⟨false, (.c rfl .n), rfl, hp⟩
  ·
    rintro x28977 w28978 ⟨hy, hp⟩
    replace hy := hy.symm
    subst hy
    apply go
    obtain rfl := Option.some.inj h
    exact ⟨rfl, hp.ch⟩

end Go.Proofs.YtepadjfmcbjkmaaGreatDoor

namespace Go.Proofs.YtepadjfmcbjkmaaGreatDoor
open Go Go.Proofs.YtepadjfmcbjkmaaGreatDoor.Gw Go.RowKit
set_option linter.unusedVariables false
attribute [local irreducible] Ev EvQ EvS EvH
def rational_Cmp_S (f : Rational → Rational → Option Int) : Prop := ∀ (w0 : World) (I0 : Nat → Prop) (x28987 : Rational) (v28988 : Value) (r28989 : RepS (dI .u32) w0 I0 v28988 x28987.Num.Mag) (v28990 : Value) (r28991 : RepS (dI .u32) w0 I0 v28990 x28987.Den.Mag) (x28992 : Rational) (v28993 : Value) (r28994 : RepS (dI .u32) w0 I0 v28993 x28992.Num.Mag) (v28995 : Value) (r28996 : RepS (dI .u32) w0 I0 v28995 x28992.Den.Mag) (hI : ∀ g, I0 g → g < w0.heap.size) (r : Int), f x28987 x28992 = some r →
    Ret Tryz.prog 15 #[(.agg #[(.bool x28987.Num.Neg), v28988, (.bool x28987.Den.Neg), v28990]), (.agg #[(.bool x28992.Num.Neg), v28993, (.bool x28992.Den.Neg), v28995])] w0 fun v w1 => v = (.int .i64 r) ∧ Ch [] w0 w1
theorem rational_Cmp_ok (n : Nat) : rational_Cmp_S (rational_Cmp n) := by
  intro w0 I0 x28987 v28988 r28989 v28990 r28991 x28992 v28993 r28994 v28995 r28996 hI r h
  unfold rational_Cmp at h
  refine enter Tryz.func15 rfl (Nat.le_of_ble_eq_true rfl) ?_
  have hp : Hp ⟨w0, I0, []⟩ I0 [] w0 := Hp.start hI
  apply go
  apply go
  refine ev_box hp rfl rfl ?_
  intro g28997 w28998 hp hs
  replace r28994 := r28994.step hs
  replace r28996 := r28996.step hs
  replace r28989 := r28989.step hs
  replace r28991 := r28991.step hs
  refine ev_box hp rfl rfl ?_
  intro g28999 w29000 hp hs
  replace r28994 := r28994.step hs
  replace r28996 := r28996.step hs
  replace r28989 := r28989.step hs
  replace r28991 := r28991.step hs
  apply go
  have hs := hp.stp (Ch.drew [] w29000)
  have hp := hp.drew
  replace r28994 := r28994.step hs
  replace r28996 := r28996.step hs
  replace r28989 := r28989.step hs
  replace r28991 := r28991.step hs
  refine W.heldG (.q 0 (.q 2 (.l 1 (.l 3 (.l 4 (.l 5 .done .no) .no) .no) .no))) (SK (Stp I0 w29000.drew I0) [(g28997, [(.bool x28987.Num.Neg), v28988, (.bool x28987.Den.Neg), v28990], 26), (g28999, [(.bool x28992.Num.Neg), v28993, (.bool x28992.Den.Neg), v28995], 26)] [[4], [5]]) MX (by kernel_rfl) ⟨Stp.refl _ _, (kp_cons (fun _ => (hp.own 1 _ _ _ rfl).1) (kp_cons (fun _ => (hp.own 0 _ _ _ rfl).1) kp_nil))⟩ ?_
  have hz := Stp.refl I0 w29000.drew
  refine ⟨SK.same (by kernel_rfl), ?_⟩
  refine evh (fun w' hw => rn_load rfl rfl (run_loadVarA T26 rfl ((S0.keep (p := 0) hw rfl rfl (by kernel_rfl)).at_ (i := 0) rfl))) ?_
  refine ⟨SK.same (by kernel_rfl), ?_⟩
  refine evh (fun w' hw => rn_load rfl rfl (run_loadVarA T26 rfl ((S0.keep (p := 1) hw rfl rfl (by kernel_rfl)).at_ (i := 0) rfl))) ?_
  refine ⟨?_, trivial⟩
  obtain ⟨x29019, q29020, h⟩ := bind_some h
  refine ev_call rfl rfl C38 (((rational_Norm_ok n) _ _  (Rational.mk (Int_2.mk x28987.Num.Neg x28987.Num.Mag) (Int_2.mk x28987.Den.Neg x28987.Den.Mag)) v28988 r28989 v28990 r28991 hp.imm _ q29020).mono ?_)
  rintro _ w29021 ⟨I29022, v29023, v29025, hv, hq, r29024, r29026⟩
  replace hv := hv.symm
  subst hv
  have hs := hq.st
  have hp := hp.join0 hq
  replace hz := hz.trans hs
  replace r28994 := r28994.step hs
  replace r28996 := r28996.step hs
  replace r28989 := r28989.step hs
  replace r28991 := r28991.step hs
  refine ⟨SK (Stp I29022 w29021 I29022) [(g28997, [(.bool x28987.Num.Neg), v28988, (.bool x28987.Den.Neg), v28990], 26), (g28999, [(.bool x28992.Num.Neg), v28993, (.bool x28992.Den.Neg), v28995], 26)] [[4], [5]], ⟨Stp.refl _ _, (kp_cons (fun _ => (hp.own 1 _ _ _ rfl).1) (kp_cons (fun _ => (hp.own 0 _ _ _ rfl).1) kp_nil))⟩, fun L x h => ⟨hz.held h.1, h.2⟩, ?_⟩
  have hz := Stp.refl I29022 w29021
  refine ⟨?_, trivial⟩
  obtain ⟨x29027, q29028, h⟩ := bind_some h
  refine ev_call rfl rfl C38 (((rational_Norm_ok n) _ _  (Rational.mk (Int_2.mk x28992.Num.Neg x28992.Num.Mag) (Int_2.mk x28992.Den.Neg x28992.Den.Mag)) v28993 r28994 v28995 r28996 hp.imm _ q29028).mono ?_)
  rintro _ w29029 ⟨I29030, v29031, v29033, hv, hq, r29032, r29034⟩
  replace hv := hv.symm
  subst hv
  have hs := hq.st
  have hp := hp.join0 hq
  replace hz := hz.trans hs
  replace r29024 := r29024.step hs
  replace r29026 := r29026.step hs
  replace r28994 := r28994.step hs
  replace r28996 := r28996.step hs
  replace r28989 := r28989.step hs
  replace r28991 := r28991.step hs
  refine ⟨SK (Stp I29030 w29029 I29030) [(g28997, [(.bool x28987.Num.Neg), v28988, (.bool x28987.Den.Neg), v28990], 26), (g28999, [(.bool x28992.Num.Neg), v28993, (.bool x28992.Den.Neg), v28995], 26)] [[4], [5]], ⟨Stp.refl _ _, (kp_cons (fun _ => (hp.own 1 _ _ _ rfl).1) (kp_cons (fun _ => (hp.own 0 _ _ _ rfl).1) kp_nil))⟩, fun L x h => ⟨hz.held h.1, h.2⟩, ?_⟩
  have hz := Stp.refl I29030 w29029
  refine ⟨?_, trivial⟩
  refine ev_storeA hp (i := 1) (off := 0) (vs := [(.bool x29019.Num.Neg), v29023, (.bool x29019.Den.Neg), v29025]) rfl rfl rfl rfl T26 rfl (Nat.le_of_ble_eq_true rfl) (ones_cons rfl (ones_cons r29024.one (ones_cons rfl (ones_cons r29026.one ones_nil)))) ?_
  intro w29035 hp hs
  replace hz := hz.trans hs
  replace r29032 := r29032.step hs
  replace r29034 := r29034.step hs
  replace r28994 := r28994.step hs
  replace r28996 := r28996.step hs
  replace r29024 := r29024.step hs
  replace r29026 := r29026.step hs
  refine ⟨SK (Stp I29030 w29035 I29030) [(g28997, [(.bool x28987.Num.Neg), v28988, (.bool x28987.Den.Neg), v28990], 26), (g28999, [(.bool x28992.Num.Neg), v28993, (.bool x28992.Den.Neg), v28995], 26)] [[4], [5]], ⟨Stp.refl _ _, (kp_cons (kp_off (by kernel_rfl)) (kp_cons (fun _ => (hp.own 0 _ _ _ rfl).1) kp_nil))⟩, fun L x h => ⟨hz.held h.1, h.2⟩, ?_⟩
  have hz := Stp.refl I29030 w29035
  refine ⟨?_, trivial⟩
  refine ev_storeA hp (i := 0) (off := 0) (vs := [(.bool x29027.Num.Neg), v29031, (.bool x29027.Den.Neg), v29033]) rfl rfl rfl rfl T26 rfl (Nat.le_of_ble_eq_true rfl) (ones_cons rfl (ones_cons r29032.one (ones_cons rfl (ones_cons r29034.one ones_nil)))) ?_
  intro w29036 hp hs
  replace hz := hz.trans hs
  replace r29032 := r29032.step hs
  replace r29034 := r29034.step hs
  replace r29024 := r29024.step hs
  replace r29026 := r29026.step hs
  refine ⟨SK (Stp I29030 w29036 I29030) [(g28997, [(.bool x28987.Num.Neg), v28988, (.bool x28987.Den.Neg), v28990], 26), (g28999, [(.bool x28992.Num.Neg), v28993, (.bool x28992.Den.Neg), v28995], 26)] [[4], [5]], ⟨Stp.refl _ _, (kp_cons (kp_off (by kernel_rfl)) (kp_cons (kp_off (by kernel_rfl)) kp_nil))⟩, fun L x h => ⟨hz.held h.1, h.2⟩, ?_⟩
  have hz := Stp.refl I29030 w29036
  apply go
  have hs := hp.stp (Ch.drew [] w29036)
  have hp := hp.drew
  replace r29032 := r29032.step hs
  replace r29034 := r29034.step hs
  replace r29024 := r29024.step hs
  replace r29026 := r29026.step hs
  refine W.held [(0, true), (1, true), (2, true), (3, true), (5, true), (6, true), (7, true), (8, true), (4, false), (9, false), (10, false), (11, true)] (fun x => Stp I29030 w29036.drew I29030 x ∧ OwnK [(g28997, [(.bool x29019.Num.Neg), v29023, (.bool x29019.Den.Neg), v29025], 26), (g28999, [(.bool x29027.Num.Neg), v29031, (.bool x29027.Den.Neg), v29033], 26)] x) MX (by kernel_rfl) ⟨Stp.refl _ _, (OwnK.cons (hp.own 1 _ _ _ rfl).1 (OwnK.cons (hp.own 0 _ _ _ rfl).1 OwnK.nil))⟩ ?_
  have hz := Stp.refl I29030 w29036.drew
  refine evh0 (rn_field rfl rfl FO26_0) ?_
  refine evh (fun w' hw => rn_load rfl rfl (run_loadVarA T24 rfl (((hw.2.at_ (i := 0) rfl).drop 0).take 2))) ?_
  refine evh0 (rn_field rfl rfl FO26_1) ?_
  refine evh (fun w' hw => rn_load rfl rfl (run_loadVarA T24 rfl (((hw.2.at_ (i := 1) rfl).drop 2).take 2))) ?_
  refine evh0 (rn_field rfl rfl FO26_0) ?_
  refine evh (fun w' hw => rn_load rfl rfl (run_loadVarA T24 rfl (((hw.2.at_ (i := 1) rfl).drop 0).take 2))) ?_
  refine evh0 (rn_field rfl rfl FO26_1) ?_
  refine evh (fun w' hw => rn_load rfl rfl (run_loadVarA T24 rfl (((hw.2.at_ (i := 0) rfl).drop 2).take 2))) ?_
  obtain ⟨x29052, q29053, h⟩ := bind_some h
  refine ev_call rfl rfl C47 (((integer_Mul_ok n) _ _  (Int_2.mk x29019.Num.Neg x29019.Num.Mag) v29023 r29024 (Int_2.mk x29027.Den.Neg x29027.Den.Mag) v29033 r29034 hp.imm _ q29053).mono ?_)
  rintro _ w29054 ⟨I29055, v29056, hv, hq, r29057⟩
  replace hv := hv.symm
  subst hv
  have hs := hq.st
  have hp := hp.join0 hq
  replace hz := hz.trans hs
  replace r29032 := r29032.step hs
  replace r29026 := r29026.step hs
  replace r29034 := r29034.step hs
  replace r29024 := r29024.step hs
  refine ⟨fun x => Stp I29055 w29054 I29055 x ∧ OwnK [(g28997, [(.bool x29019.Num.Neg), v29023, (.bool x29019.Den.Neg), v29025], 26), (g28999, [(.bool x29027.Num.Neg), v29031, (.bool x29027.Den.Neg), v29033], 26)] x, ⟨Stp.refl _ _, (OwnK.cons (hp.own 1 _ _ _ rfl).1 (OwnK.cons (hp.own 0 _ _ _ rfl).1 OwnK.nil))⟩, fun x hx => ⟨hz.held hx.1, hx.2⟩, ?_⟩
  have hz := Stp.refl I29055 w29054
  obtain ⟨x29058, q29059, h⟩ := bind_some h
  refine ev_call rfl rfl C47 (((integer_Mul_ok n) _ _  (Int_2.mk x29027.Num.Neg x29027.Num.Mag) v29031 r29032 (Int_2.mk x29019.Den.Neg x29019.Den.Mag) v29025 r29026 hp.imm _ q29059).mono ?_)
  rintro _ w29060 ⟨I29061, v29062, hv, hq, r29063⟩
  replace hv := hv.symm
  subst hv
  have hs := hq.st
  have hp := hp.join0 hq
  replace hz := hz.trans hs
  replace r29057 := r29057.step hs
  replace r29032 := r29032.step hs
  replace r29034 := r29034.step hs
  replace r29024 := r29024.step hs
  replace r29026 := r29026.step hs
  refine ⟨fun x => Stp I29061 w29060 I29061 x ∧ OwnK [(g28997, [(.bool x29019.Num.Neg), v29023, (.bool x29019.Den.Neg), v29025], 26), (g28999, [(.bool x29027.Num.Neg), v29031, (.bool x29027.Den.Neg), v29033], 26)] x, ⟨Stp.refl _ _, (OwnK.cons (hp.own 1 _ _ _ rfl).1 (OwnK.cons (hp.own 0 _ _ _ rfl).1 OwnK.nil))⟩, fun x hx => ⟨hz.held hx.1, hx.2⟩, ?_⟩
  have hz := Stp.refl I29061 w29060
  obtain ⟨x29064, q29065, h⟩ := bind_some h
  refine ev_call rfl rfl C46 (((integer_Cmp_ok n) _ _  x29052 v29056 r29057 x29058 v29062 r29063 hp.imm _ q29065).mono ?_)
  rintro _ w29066 ⟨rfl, hc⟩
  have hs := hp.stp hc
  replace hp := hp.ext hc
  replace hz := hz.trans hs
  replace r29032 := r29032.step hs
  replace r29034 := r29034.step hs
  replace r29024 := r29024.step hs
  replace r29026 := r29026.step hs
  refine ⟨fun x => Stp I29061 w29066 I29061 x ∧ OwnK [(g28997, [(.bool x29019.Num.Neg), v29023, (.bool x29019.Den.Neg), v29025], 26), (g28999, [(.bool x29027.Num.Neg), v29031, (.bool x29027.Den.Neg), v29033], 26)] x, ⟨Stp.refl _ _, (OwnK.cons (hp.own 1 _ _ _ rfl).1 (OwnK.cons (hp.own 0 _ _ _ rfl).1 OwnK.nil))⟩, fun x hx => ⟨hz.held hx.1, hx.2⟩, ?_⟩
  have hz := Stp.refl I29061 w29066
  apply go
  obtain rfl := Option.some.inj h
  exact ⟨rfl, hp.ch⟩

end Go.Proofs.YtepadjfmcbjkmaaGreatDoor

namespace Go.Proofs.YtepadjfmcbjkmaaGreatDoor
open Go Go.Proofs.YtepadjfmcbjkmaaGreatDoor.Gw Go.RowKit
set_option linter.unusedVariables false
attribute [local irreducible] Ev EvQ EvS EvH vch
def ref02_Add_S (f : Rational → Rational → Option Rational) : Prop := ∀ (w0 : World) (I0 : Nat → Prop) (x29122 : Rational) (v29123 : Value) (r29124 : RepS (dI .u32) w0 I0 v29123 x29122.Num.Mag) (v29125 : Value) (r29126 : RepS (dI .u32) w0 I0 v29125 x29122.Den.Mag) (x29127 : Rational) (v29128 : Value) (r29129 : RepS (dI .u32) w0 I0 v29128 x29127.Num.Mag) (v29130 : Value) (r29131 : RepS (dI .u32) w0 I0 v29130 x29127.Den.Mag) (hI : ∀ g, I0 g → g < w0.heap.size) (r : Rational), f x29122 x29127 = some r →
    Ret Tryz.prog 53 #[(.agg #[(.bool x29122.Num.Neg), v29123, (.bool x29122.Den.Neg), v29125]), (.agg #[(.bool x29127.Num.Neg), v29128, (.bool x29127.Den.Neg), v29130])] w0 fun v w1 => ∃ (I1 : Nat → Prop) (u29132 : Value) (u29133 : Value), v = (.agg #[(.bool r.Num.Neg), u29132, (.bool r.Den.Neg), u29133]) ∧ Hp ⟨w0, I0, []⟩ I1 [] w1 ∧ RepS (dI .u32) w1 I1 u29132 r.Num.Mag ∧ RepS (dI .u32) w1 I1 u29133 r.Den.Mag
theorem ref02_Add_ok (n : Nat) : ref02_Add_S (ref02_Add n) := by
  intro w0 I0 x29122 v29123 r29124 v29125 r29126 x29127 v29128 r29129 v29130 r29131 hI r h
  unfold ref02_Add at h
  refine enter Tryz.func53 rfl (Nat.le_of_ble_eq_true rfl) ?_
  have hp : Hp ⟨w0, I0, []⟩ I0 [] w0 := Hp.start hI
  apply go
  apply go
  refine ev_boxI hp rfl rfl ?_
  intro p29136 I29137 w29135 hp hs a29138
  replace r29129 := r29129.step hs
  replace r29131 := r29131.step hs
  replace r29124 := r29124.step hs
  replace r29126 := r29126.step hs
  refine ev_boxI hp rfl rfl ?_
  intro p29141 I29142 w29140 hp hs a29143
  replace a29138 := a29138.step hs
  replace r29124 := r29124.step hs
  replace r29126 := r29126.step hs
  replace r29129 := r29129.step hs
  replace r29131 := r29131.step hs
  refine ev_alloc hp rfl T26 ?_
  intro g29144 w29145 hp hs
  replace a29138 := a29138.step hs
  replace r29124 := r29124.step hs
  replace r29126 := r29126.step hs
  replace a29143 := a29143.step hs
  replace r29129 := r29129.step hs
  replace r29131 := r29131.step hs
  apply go
  apply go
  refine ev (rn_load rfl rfl (run_loadVarA T26 rfl a29138)) ?_
  obtain ⟨x29146, q29147, h⟩ := bind_some h
  refine ev_call rfl rfl C35 (((ref02_Norm_ok n) _ _  (Rational.mk (Int_2.mk x29122.Num.Neg x29122.Num.Mag) (Int_2.mk x29122.Den.Neg x29122.Den.Mag)) v29123 r29124 v29125 r29126 hp.imm _ q29147).mono ?_)
  rintro _ w29148 ⟨I29149, v29150, v29152, hv, hq, r29151, r29153⟩
  replace hv := hv.symm
  subst hv
  have hs := hq.st
  have hp := hp.join0 hq
  replace a29143 := a29143.step hs
  replace r29129 := r29129.step hs
  replace r29131 := r29131.step hs
  refine ev_alloc hp rfl T26 ?_
  intro g29154 w29155 hp hs
  replace a29143 := a29143.step hs
  replace r29129 := r29129.step hs
  replace r29131 := r29131.step hs
  replace r29151 := r29151.step hs
  replace r29153 := r29153.step hs
  refine ev_storeA hp (i := 0) (off := 0) (vs := [(.bool x29146.Num.Neg), v29150, (.bool x29146.Den.Neg), v29152]) rfl rfl rfl rfl T26 rfl (Nat.le_of_ble_eq_true rfl) (ones_cons rfl (ones_cons r29151.one (ones_cons rfl (ones_cons r29153.one ones_nil)))) ?_
  intro w29156 hp hs
  replace a29143 := a29143.step hs
  replace r29129 := r29129.step hs
  replace r29131 := r29131.step hs
  replace r29151 := r29151.step hs
  replace r29153 := r29153.step hs
  apply go
  apply go
  refine ev (rn_load rfl rfl (run_loadVarA T26 rfl a29143)) ?_
  obtain ⟨x29157, q29158, h⟩ := bind_some h
  refine ev_call rfl rfl C35 (((ref02_Norm_ok n) _ _  (Rational.mk (Int_2.mk x29127.Num.Neg x29127.Num.Mag) (Int_2.mk x29127.Den.Neg x29127.Den.Mag)) v29128 r29129 v29130 r29131 hp.imm _ q29158).mono ?_)
  rintro _ w29159 ⟨I29160, v29161, v29163, hv, hq, r29162, r29164⟩
  replace hv := hv.symm
  subst hv
  have hs := hq.st
  have hp := hp.join0 hq
  replace r29151 := r29151.step hs
  replace r29153 := r29153.step hs
  refine ev_alloc hp rfl T26 ?_
  intro g29165 w29166 hp hs
  replace r29162 := r29162.step hs
  replace r29164 := r29164.step hs
  replace r29151 := r29151.step hs
  replace r29153 := r29153.step hs
  refine ev_storeA hp (i := 0) (off := 0) (vs := [(.bool x29157.Num.Neg), v29161, (.bool x29157.Den.Neg), v29163]) rfl rfl rfl rfl T26 rfl (Nat.le_of_ble_eq_true rfl) (ones_cons rfl (ones_cons r29162.one (ones_cons rfl (ones_cons r29164.one ones_nil)))) ?_
  intro w29167 hp hs
  replace r29162 := r29162.step hs
  replace r29164 := r29164.step hs
  replace r29151 := r29151.step hs
  replace r29153 := r29153.step hs
  apply go
  have hs := hp.stp (Ch.drew [] w29167)
  have hp := hp.drew
  replace r29162 := r29162.step hs
  replace r29164 := r29164.step hs
  replace r29151 := r29151.step hs
  replace r29153 := r29153.step hs
  refine W.heldT [(0, true), (1, true), (2, true), (3, true), (5, true), (6, true), (7, true), (8, true), (11, true), (12, true), (13, true), (14, true), (4, false), (9, false), (10, false), (15, false), (16, false), (17, false)] (fun x => Stp I29160 w29167.drew I29160 x ∧ OwnK [(g29154, [(.bool x29146.Num.Neg), v29150, (.bool x29146.Den.Neg), v29152], 26), (g29165, [(.bool x29157.Num.Neg), v29161, (.bool x29157.Den.Neg), v29163], 26)] x) MX (by kernel_rfl) ⟨Stp.refl _ _, (OwnK.cons (hp.own 1 _ _ _ rfl).1 (OwnK.cons (hp.own 0 _ _ _ rfl).1 OwnK.nil))⟩ ?_
  have hz := Stp.refl I29160 w29167.drew
  intro ops hops
  have e0 : nthO ops 0 = some _ := (hops 0).trans rfl
  have e1 : nthO ops 1 = some _ := (hops 1).trans rfl
  have e2 : nthO ops 2 = some _ := (hops 2).trans rfl
  have e3 : nthO ops 3 = some _ := (hops 3).trans rfl
  have e4 : nthO ops 4 = some _ := (hops 4).trans rfl
  have e5 : nthO ops 5 = some _ := (hops 5).trans rfl
  have e6 : nthO ops 6 = some _ := (hops 6).trans rfl
  have e7 : nthO ops 7 = some _ := (hops 7).trans rfl
  have e8 : nthO ops 8 = some _ := (hops 8).trans rfl
  have e9 : nthO ops 9 = some _ := (hops 9).trans rfl
  have e10 : nthO ops 10 = some _ := (hops 10).trans rfl
  have e11 : nthO ops 11 = some _ := (hops 11).trans rfl
  have e12 : nthO ops 12 = some _ := (hops 12).trans rfl
  have e13 : nthO ops 13 = some _ := (hops 13).trans rfl
  have e14 : nthO ops 14 = some _ := (hops 14).trans rfl
  have e15 : nthO ops 15 = some _ := (hops 15).trans rfl
  have e16 : nthO ops 16 = some _ := (hops 16).trans rfl
  have e17 : nthO ops 17 = some _ := (hops 17).trans rfl
  clear hops
  refine vch_q e0 rfl ?_
  refine evh0 (rn_field rfl rfl FO26_0) ?_
  refine vch_q e1 rfl ?_
  refine evh (fun w' hw => rn_load rfl rfl (run_loadVarA T24 rfl (((hw.2.at_ (i := 0) rfl).drop 0).take 2))) ?_
  refine vch_q e2 rfl ?_
  refine evh0 (rn_field rfl rfl FO26_1) ?_
  refine vch_q e3 rfl ?_
  refine evh (fun w' hw => rn_load rfl rfl (run_loadVarA T24 rfl (((hw.2.at_ (i := 1) rfl).drop 2).take 2))) ?_
  refine vch_q e5 rfl ?_
  refine evh0 (rn_field rfl rfl FO26_0) ?_
  refine vch_q e6 rfl ?_
  refine evh (fun w' hw => rn_load rfl rfl (run_loadVarA T24 rfl (((hw.2.at_ (i := 1) rfl).drop 0).take 2))) ?_
  refine vch_q e7 rfl ?_
  refine evh0 (rn_field rfl rfl FO26_1) ?_
  refine vch_q e8 rfl ?_
  refine evh (fun w' hw => rn_load rfl rfl (run_loadVarA T24 rfl (((hw.2.at_ (i := 0) rfl).drop 2).take 2))) ?_
  refine vch_q e11 rfl ?_
  refine evh0 (rn_field rfl rfl FO26_1) ?_
  refine vch_q e12 rfl ?_
  refine evh (fun w' hw => rn_load rfl rfl (run_loadVarA T24 rfl (((hw.2.at_ (i := 0) rfl).drop 2).take 2))) ?_
  refine vch_q e13 rfl ?_
  refine evh0 (rn_field rfl rfl FO26_1) ?_
  refine vch_q e14 rfl ?_
  refine evh (fun w' hw => rn_load rfl rfl (run_loadVarA T24 rfl (((hw.2.at_ (i := 1) rfl).drop 2).take 2))) ?_
  refine vch_l e4 rfl ?_
  obtain ⟨x29201, q29202, h⟩ := bind_some h
  refine ev_call rfl rfl C42 (((ref01_Mul_ok n) _ _  (Int_2.mk x29146.Num.Neg x29146.Num.Mag) v29150 r29151 (Int_2.mk x29157.Den.Neg x29157.Den.Mag) v29163 r29164 hp.imm _ q29202).mono ?_)
  rintro _ w29203 ⟨I29204, v29205, hv, hq, r29206⟩
  replace hv := hv.symm
  subst hv
  have hs := hq.st
  have hp := hp.join0 hq
  replace hz := hz.trans hs
  replace r29162 := r29162.step hs
  replace r29153 := r29153.step hs
  replace r29164 := r29164.step hs
  replace r29151 := r29151.step hs
  refine ⟨fun x => Stp I29204 w29203 I29204 x ∧ OwnK [(g29154, [(.bool x29146.Num.Neg), v29150, (.bool x29146.Den.Neg), v29152], 26), (g29165, [(.bool x29157.Num.Neg), v29161, (.bool x29157.Den.Neg), v29163], 26)] x, ⟨Stp.refl _ _, (OwnK.cons (hp.own 1 _ _ _ rfl).1 (OwnK.cons (hp.own 0 _ _ _ rfl).1 OwnK.nil))⟩, fun x hx => ⟨hz.held hx.1, hx.2⟩, ?_⟩
  have hz := Stp.refl I29204 w29203
  refine vch_l e9 rfl ?_
  obtain ⟨x29207, q29208, h⟩ := bind_some h
  refine ev_call rfl rfl C42 (((ref01_Mul_ok n) _ _  (Int_2.mk x29157.Num.Neg x29157.Num.Mag) v29161 r29162 (Int_2.mk x29146.Den.Neg x29146.Den.Mag) v29152 r29153 hp.imm _ q29208).mono ?_)
  rintro _ w29209 ⟨I29210, v29211, hv, hq, r29212⟩
  replace hv := hv.symm
  subst hv
  have hs := hq.st
  have hp := hp.join0 hq
  replace hz := hz.trans hs
  replace r29153 := r29153.step hs
  replace r29164 := r29164.step hs
  replace r29206 := r29206.step hs
  replace r29162 := r29162.step hs
  replace r29151 := r29151.step hs
  refine ⟨fun x => Stp I29210 w29209 I29210 x ∧ OwnK [(g29154, [(.bool x29146.Num.Neg), v29150, (.bool x29146.Den.Neg), v29152], 26), (g29165, [(.bool x29157.Num.Neg), v29161, (.bool x29157.Den.Neg), v29163], 26)] x, ⟨Stp.refl _ _, (OwnK.cons (hp.own 1 _ _ _ rfl).1 (OwnK.cons (hp.own 0 _ _ _ rfl).1 OwnK.nil))⟩, fun x hx => ⟨hz.held hx.1, hx.2⟩, ?_⟩
  have hz := Stp.refl I29210 w29209
  refine vch_l e10 rfl ?_
  obtain ⟨x29213, q29214, h⟩ := bind_some h
  refine ev_call rfl rfl C84 (((ref01_Add_ok n) _ _  x29201 v29205 r29206 x29207 v29211 r29212 hp.imm _ q29214).mono ?_)
  rintro _ w29215 ⟨I29216, v29217, hv, hq, r29218⟩
  replace hv := hv.symm
  subst hv
  have hs := hq.st
  have hp := hp.join0 hq
  replace hz := hz.trans hs
  replace r29153 := r29153.step hs
  replace r29164 := r29164.step hs
  replace r29162 := r29162.step hs
  replace r29151 := r29151.step hs
  refine ⟨fun x => Stp I29216 w29215 I29216 x ∧ OwnK [(g29154, [(.bool x29146.Num.Neg), v29150, (.bool x29146.Den.Neg), v29152], 26), (g29165, [(.bool x29157.Num.Neg), v29161, (.bool x29157.Den.Neg), v29163], 26)] x, ⟨Stp.refl _ _, (OwnK.cons (hp.own 1 _ _ _ rfl).1 (OwnK.cons (hp.own 0 _ _ _ rfl).1 OwnK.nil))⟩, fun x hx => ⟨hz.held hx.1, hx.2⟩, ?_⟩
  have hz := Stp.refl I29216 w29215
  refine vch_l e15 rfl ?_
  obtain ⟨x29219, q29220, h⟩ := bind_some h
  refine ev_call rfl rfl C42 (((ref01_Mul_ok n) _ _  (Int_2.mk x29146.Den.Neg x29146.Den.Mag) v29152 r29153 (Int_2.mk x29157.Den.Neg x29157.Den.Mag) v29163 r29164 hp.imm _ q29220).mono ?_)
  rintro _ w29221 ⟨I29222, v29223, hv, hq, r29224⟩
  replace hv := hv.symm
  subst hv
  have hs := hq.st
  have hp := hp.join0 hq
  replace hz := hz.trans hs
  replace r29218 := r29218.step hs
  replace r29162 := r29162.step hs
  replace r29164 := r29164.step hs
  replace r29151 := r29151.step hs
  replace r29153 := r29153.step hs
  refine ⟨fun x => Stp I29222 w29221 I29222 x ∧ OwnK [(g29154, [(.bool x29146.Num.Neg), v29150, (.bool x29146.Den.Neg), v29152], 26), (g29165, [(.bool x29157.Num.Neg), v29161, (.bool x29157.Den.Neg), v29163], 26)] x, ⟨Stp.refl _ _, (OwnK.cons (hp.own 1 _ _ _ rfl).1 (OwnK.cons (hp.own 0 _ _ _ rfl).1 OwnK.nil))⟩, fun x hx => ⟨hz.held hx.1, hx.2⟩, ?_⟩
  have hz := Stp.refl I29222 w29221
  refine vch_l e16 rfl ?_
  obtain ⟨x29225, q29226, h⟩ := bind_some h
  refine ev_call rfl rfl C41 (((ref02_New_ok n) _ _  x29213 v29217 r29218 x29219 v29223 r29224 hp.imm _ q29226).mono ?_)
  rintro _ w29227 ⟨I29228, v29229, v29231, hv, hq, r29230, r29232⟩
  replace hv := hv.symm
  subst hv
  have hs := hq.st
  have hp := hp.join0 hq
  replace hz := hz.trans hs
  replace r29162 := r29162.step hs
  replace r29164 := r29164.step hs
  replace r29151 := r29151.step hs
  replace r29153 := r29153.step hs
  refine ⟨fun x => Stp I29228 w29227 I29228 x ∧ OwnK [(g29154, [(.bool x29146.Num.Neg), v29150, (.bool x29146.Den.Neg), v29152], 26), (g29165, [(.bool x29157.Num.Neg), v29161, (.bool x29157.Den.Neg), v29163], 26)] x, ⟨Stp.refl _ _, (OwnK.cons (hp.own 1 _ _ _ rfl).1 (OwnK.cons (hp.own 0 _ _ _ rfl).1 OwnK.nil))⟩, fun x hx => ⟨hz.held hx.1, hx.2⟩, ?_⟩
  have hz := Stp.refl I29228 w29227
  refine vch_l e17 rfl ?_
  refine ev_storeA hp (i := 2) (off := 0) (vs := [(.bool x29225.Num.Neg), v29229, (.bool x29225.Den.Neg), v29231]) rfl rfl rfl rfl T26 rfl (Nat.le_of_ble_eq_true rfl) (ones_cons rfl (ones_cons r29230.one (ones_cons rfl (ones_cons r29232.one ones_nil)))) ?_
  intro w29233 hp hs
  replace hz := hz.trans hs
  replace r29162 := r29162.step hs
  replace r29164 := r29164.step hs
  replace r29151 := r29151.step hs
  replace r29153 := r29153.step hs
  replace r29230 := r29230.step hs
  replace r29232 := r29232.step hs
  refine ⟨fun x => Stp I29228 w29233 I29228 x ∧ OwnK [(g29154, [(.bool x29146.Num.Neg), v29150, (.bool x29146.Den.Neg), v29152], 26), (g29165, [(.bool x29157.Num.Neg), v29161, (.bool x29157.Den.Neg), v29163], 26)] x, ⟨Stp.refl _ _, (OwnK.cons (hp.own 1 _ _ _ rfl).1 (OwnK.cons (hp.own 0 _ _ _ rfl).1 OwnK.nil))⟩, fun x hx => ⟨hz.held hx.1, hx.2⟩, ?_⟩
  have hz := Stp.refl I29228 w29233
  refine vch_end ?_
  apply go
  obtain rfl := Option.some.inj h
  refine ⟨_, run_loadVarA T26 rfl (hp.at_ (i := 2) rfl), ?_⟩
  have hp := hp.sel [] (by decide)
  exact ⟨I29228, v29229, v29231, rfl, hp, r29230, r29232⟩

end Go.Proofs.YtepadjfmcbjkmaaGreatDoor

namespace Go.Proofs.YtepadjfmcbjkmaaGreatDoor
open Go Go.Proofs.YtepadjfmcbjkmaaGreatDoor.Gw Go.RowKit
set_option linter.unusedVariables false
attribute [local irreducible] Ev EvQ EvS EvH
def ref02_Neg_S (f : Rational → Option Rational) : Prop := ∀ (w0 : World) (I0 : Nat → Prop) (x29067 : Rational) (v29068 : Value) (r29069 : RepS (dI .u32) w0 I0 v29068 x29067.Num.Mag) (v29070 : Value) (r29071 : RepS (dI .u32) w0 I0 v29070 x29067.Den.Mag) (hI : ∀ g, I0 g → g < w0.heap.size) (r : Rational), f x29067 = some r →
    Ret Tryz.prog 61 #[(.agg #[(.bool x29067.Num.Neg), v29068, (.bool x29067.Den.Neg), v29070])] w0 fun v w1 => ∃ (I1 : Nat → Prop) (u29072 : Value) (u29073 : Value), v = (.agg #[(.bool r.Num.Neg), u29072, (.bool r.Den.Neg), u29073]) ∧ Hp ⟨w0, I0, []⟩ I1 [] w1 ∧ RepS (dI .u32) w1 I1 u29072 r.Num.Mag ∧ RepS (dI .u32) w1 I1 u29073 r.Den.Mag
theorem ref02_Neg_ok (n : Nat) : ref02_Neg_S (ref02_Neg n) := by
  intro w0 I0 x29067 v29068 r29069 v29070 r29071 hI r h
  unfold ref02_Neg at h
  refine enter Tryz.func61 rfl (Nat.le_of_ble_eq_true rfl) ?_
  have hp : Hp ⟨w0, I0, []⟩ I0 [] w0 := Hp.start hI
  apply go
  apply go
  refine ev_boxI hp rfl rfl ?_
  intro p29076 I29077 w29075 hp hs a29078
  replace r29069 := r29069.step hs
  replace r29071 := r29071.step hs
  refine ev_alloc hp rfl T26 ?_
  intro g29079 w29080 hp hs
  replace a29078 := a29078.step hs
  replace r29069 := r29069.step hs
  replace r29071 := r29071.step hs
  apply go
  apply go
  refine ev (rn_load rfl rfl (run_loadVarA T26 rfl a29078)) ?_
  obtain ⟨x29081, q29082, h⟩ := bind_some h
  refine ev_call rfl rfl C35 (((ref02_Norm_ok n) _ _  (Rational.mk (Int_2.mk x29067.Num.Neg x29067.Num.Mag) (Int_2.mk x29067.Den.Neg x29067.Den.Mag)) v29068 r29069 v29070 r29071 hp.imm _ q29082).mono ?_)
  rintro _ w29083 ⟨I29084, v29085, v29087, hv, hq, r29086, r29088⟩
  replace hv := hv.symm
  subst hv
  have hs := hq.st
  have hp := hp.join0 hq
  refine ev_alloc hp rfl T26 ?_
  intro g29089 w29090 hp hs
  replace r29086 := r29086.step hs
  replace r29088 := r29088.step hs
  refine ev_storeA hp (i := 0) (off := 0) (vs := [(.bool x29081.Num.Neg), v29085, (.bool x29081.Den.Neg), v29087]) rfl rfl rfl rfl T26 rfl (Nat.le_of_ble_eq_true rfl) (ones_cons rfl (ones_cons r29086.one (ones_cons rfl (ones_cons r29088.one ones_nil)))) ?_
  intro w29091 hp hs
  replace r29086 := r29086.step hs
  replace r29088 := r29088.step hs
  apply go
  have hs := hp.stp (Ch.drew [] w29091)
  have hp := hp.drew
  replace r29086 := r29086.step hs
  replace r29088 := r29088.step hs
  refine W.held [(0, true), (1, true), (3, true), (4, true), (2, false), (5, false), (6, false)] (fun x => Stp I29084 w29091.drew I29084 x ∧ OwnK [(g29089, [(.bool x29081.Num.Neg), v29085, (.bool x29081.Den.Neg), v29087], 26)] x) MX (by kernel_rfl) ⟨Stp.refl _ _, (OwnK.cons (hp.own 0 _ _ _ rfl).1 OwnK.nil)⟩ ?_
  have hz := Stp.refl I29084 w29091.drew
  refine evh0 (rn_field rfl rfl FO26_0) ?_
  refine evh (fun w' hw => rn_load rfl rfl (run_loadVarA T24 rfl (((hw.2.at_ (i := 0) rfl).drop 0).take 2))) ?_
  refine evh0 (rn_field rfl rfl FO26_1) ?_
  refine evh (fun w' hw => rn_load rfl rfl (run_loadVarA T24 rfl (((hw.2.at_ (i := 0) rfl).drop 2).take 2))) ?_
  obtain ⟨x29107, q29108, h⟩ := bind_some h
  refine ev_call rfl rfl C75 (((ref01_Neg_ok n) _ _  (Int_2.mk x29081.Num.Neg x29081.Num.Mag) v29085 r29086 hp.imm _ q29108).mono ?_)
  rintro _ w29109 ⟨I29110, v29111, hv, hq, r29112⟩
  replace hv := hv.symm
  subst hv
  have hs := hq.st
  have hp := hp.join0 hq
  replace hz := hz.trans hs
  replace r29088 := r29088.step hs
  replace r29086 := r29086.step hs
  refine ⟨fun x => Stp I29110 w29109 I29110 x ∧ OwnK [(g29089, [(.bool x29081.Num.Neg), v29085, (.bool x29081.Den.Neg), v29087], 26)] x, ⟨Stp.refl _ _, (OwnK.cons (hp.own 0 _ _ _ rfl).1 OwnK.nil)⟩, fun x hx => ⟨hz.held hx.1, hx.2⟩, ?_⟩
  have hz := Stp.refl I29110 w29109
  obtain ⟨x29113, q29114, h⟩ := bind_some h
  refine ev_call rfl rfl C41 (((ref02_New_ok n) _ _  x29107 v29111 r29112 (Int_2.mk x29081.Den.Neg x29081.Den.Mag) v29087 r29088 hp.imm _ q29114).mono ?_)
  rintro _ w29115 ⟨I29116, v29117, v29119, hv, hq, r29118, r29120⟩
  replace hv := hv.symm
  subst hv
  have hs := hq.st
  have hp := hp.join0 hq
  replace hz := hz.trans hs
  replace r29086 := r29086.step hs
  replace r29088 := r29088.step hs
  refine ⟨fun x => Stp I29116 w29115 I29116 x ∧ OwnK [(g29089, [(.bool x29081.Num.Neg), v29085, (.bool x29081.Den.Neg), v29087], 26)] x, ⟨Stp.refl _ _, (OwnK.cons (hp.own 0 _ _ _ rfl).1 OwnK.nil)⟩, fun x hx => ⟨hz.held hx.1, hx.2⟩, ?_⟩
  have hz := Stp.refl I29116 w29115
  refine ev_storeA hp (i := 1) (off := 0) (vs := [(.bool x29113.Num.Neg), v29117, (.bool x29113.Den.Neg), v29119]) rfl rfl rfl rfl T26 rfl (Nat.le_of_ble_eq_true rfl) (ones_cons rfl (ones_cons r29118.one (ones_cons rfl (ones_cons r29120.one ones_nil)))) ?_
  intro w29121 hp hs
  replace hz := hz.trans hs
  replace r29086 := r29086.step hs
  replace r29088 := r29088.step hs
  replace r29118 := r29118.step hs
  replace r29120 := r29120.step hs
  refine ⟨fun x => Stp I29116 w29121 I29116 x ∧ OwnK [(g29089, [(.bool x29081.Num.Neg), v29085, (.bool x29081.Den.Neg), v29087], 26)] x, ⟨Stp.refl _ _, (OwnK.cons (hp.own 0 _ _ _ rfl).1 OwnK.nil)⟩, fun x hx => ⟨hz.held hx.1, hx.2⟩, ?_⟩
  have hz := Stp.refl I29116 w29121
  apply go
  obtain rfl := Option.some.inj h
  refine ⟨_, run_loadVarA T26 rfl (hp.at_ (i := 1) rfl), ?_⟩
  have hp := hp.sel [] (by decide)
  exact ⟨I29116, v29117, v29119, rfl, hp, r29118, r29120⟩

end Go.Proofs.YtepadjfmcbjkmaaGreatDoor

namespace Go.Proofs.YtepadjfmcbjkmaaGreatDoor
open Go Go.Proofs.YtepadjfmcbjkmaaGreatDoor.Gw Go.RowKit
set_option linter.unusedVariables false
attribute [local irreducible] Ev EvQ EvS EvH
def ref02_Sub_S (f : Rational → Rational → Option Rational) : Prop := ∀ (w0 : World) (I0 : Nat → Prop) (x29234 : Rational) (v29235 : Value) (r29236 : RepS (dI .u32) w0 I0 v29235 x29234.Num.Mag) (v29237 : Value) (r29238 : RepS (dI .u32) w0 I0 v29237 x29234.Den.Mag) (x29239 : Rational) (v29240 : Value) (r29241 : RepS (dI .u32) w0 I0 v29240 x29239.Num.Mag) (v29242 : Value) (r29243 : RepS (dI .u32) w0 I0 v29242 x29239.Den.Mag) (hI : ∀ g, I0 g → g < w0.heap.size) (r : Rational), f x29234 x29239 = some r →
    Ret Tryz.prog 48 #[(.agg #[(.bool x29234.Num.Neg), v29235, (.bool x29234.Den.Neg), v29237]), (.agg #[(.bool x29239.Num.Neg), v29240, (.bool x29239.Den.Neg), v29242])] w0 fun v w1 => ∃ (I1 : Nat → Prop) (u29244 : Value) (u29245 : Value), v = (.agg #[(.bool r.Num.Neg), u29244, (.bool r.Den.Neg), u29245]) ∧ Hp ⟨w0, I0, []⟩ I1 [] w1 ∧ RepS (dI .u32) w1 I1 u29244 r.Num.Mag ∧ RepS (dI .u32) w1 I1 u29245 r.Den.Mag
theorem ref02_Sub_ok (n : Nat) : ref02_Sub_S (ref02_Sub n) := by
  intro w0 I0 x29234 v29235 r29236 v29237 r29238 x29239 v29240 r29241 v29242 r29243 hI r h
  unfold ref02_Sub at h
  refine enter Tryz.func48 rfl (Nat.le_of_ble_eq_true rfl) ?_
  have hp : Hp ⟨w0, I0, []⟩ I0 [] w0 := Hp.start hI
  apply go
  apply go
  refine ev_boxI hp rfl rfl ?_
  intro p29248 I29249 w29247 hp hs a29250
  replace r29241 := r29241.step hs
  replace r29243 := r29243.step hs
  replace r29236 := r29236.step hs
  replace r29238 := r29238.step hs
  refine ev_boxI hp rfl rfl ?_
  intro p29253 I29254 w29252 hp hs a29255
  replace a29250 := a29250.step hs
  replace r29236 := r29236.step hs
  replace r29238 := r29238.step hs
  replace r29241 := r29241.step hs
  replace r29243 := r29243.step hs
  refine ev_alloc hp rfl T26 ?_
  intro g29256 w29257 hp hs
  replace a29250 := a29250.step hs
  replace r29236 := r29236.step hs
  replace r29238 := r29238.step hs
  replace a29255 := a29255.step hs
  replace r29241 := r29241.step hs
  replace r29243 := r29243.step hs
  apply go
  have hs := hp.stp (Ch.drew [] w29257)
  have hp := hp.drew
  replace a29250 := a29250.step hs
  replace r29236 := r29236.step hs
  replace r29238 := r29238.step hs
  replace a29255 := a29255.step hs
  replace r29241 := r29241.step hs
  replace r29243 := r29243.step hs
  refine W.held [(0, true), (1, true), (2, false), (3, false), (4, false)] (Stp I29254 w29257.drew I29254) MX (by kernel_rfl) (Stp.refl _ _) ?_
  have hz := Stp.refl I29254 w29257.drew
  refine evh (fun w' hw => rn_load rfl rfl (run_loadVarA T26 rfl (a29250.step hw))) ?_
  refine evh (fun w' hw => rn_load rfl rfl (run_loadVarA T26 rfl (a29255.step hw))) ?_
  obtain ⟨x29275, q29276, h⟩ := bind_some h
  refine ev_call rfl rfl C61 (((ref02_Neg_ok n) _ _  (Rational.mk (Int_2.mk x29239.Num.Neg x29239.Num.Mag) (Int_2.mk x29239.Den.Neg x29239.Den.Mag)) v29240 r29241 v29242 r29243 hp.imm _ q29276).mono ?_)
  rintro _ w29277 ⟨I29278, v29279, v29281, hv, hq, r29280, r29282⟩
  replace hv := hv.symm
  subst hv
  have hs := hq.st
  have hp := hp.join0 hq
  replace hz := hz.trans hs
  replace r29236 := r29236.step hs
  replace r29238 := r29238.step hs
  refine ⟨Stp I29278 w29277 I29278, Stp.refl _ _, fun x hx => hz.held hx, ?_⟩
  have hz := Stp.refl I29278 w29277
  obtain ⟨x29283, q29284, h⟩ := bind_some h
  refine ev_call rfl rfl C53 (((ref02_Add_ok n) _ _  (Rational.mk (Int_2.mk x29234.Num.Neg x29234.Num.Mag) (Int_2.mk x29234.Den.Neg x29234.Den.Mag)) v29235 r29236 v29237 r29238 x29275 v29279 r29280 v29281 r29282 hp.imm _ q29284).mono ?_)
  rintro _ w29285 ⟨I29286, v29287, v29289, hv, hq, r29288, r29290⟩
  replace hv := hv.symm
  subst hv
  have hs := hq.st
  have hp := hp.join0 hq
  replace hz := hz.trans hs
  refine ⟨Stp I29286 w29285 I29286, Stp.refl _ _, fun x hx => hz.held hx, ?_⟩
  have hz := Stp.refl I29286 w29285
  refine ev_storeA hp (i := 0) (off := 0) (vs := [(.bool x29283.Num.Neg), v29287, (.bool x29283.Den.Neg), v29289]) rfl rfl rfl rfl T26 rfl (Nat.le_of_ble_eq_true rfl) (ones_cons rfl (ones_cons r29288.one (ones_cons rfl (ones_cons r29290.one ones_nil)))) ?_
  intro w29291 hp hs
  replace hz := hz.trans hs
  replace r29288 := r29288.step hs
  replace r29290 := r29290.step hs
  refine ⟨Stp I29286 w29291 I29286, Stp.refl _ _, fun x hx => hz.held hx, ?_⟩
  have hz := Stp.refl I29286 w29291
  apply go
  obtain rfl := Option.some.inj h
  refine ⟨_, run_loadVarA T26 rfl (hp.at_ (i := 0) rfl), ?_⟩
  have hp := hp.sel [] (by decide)
  exact ⟨I29286, v29287, v29289, rfl, hp, r29288, r29290⟩

end Go.Proofs.YtepadjfmcbjkmaaGreatDoor

namespace Go.Proofs.YtepadjfmcbjkmaaGreatDoor
open Go Go.Proofs.YtepadjfmcbjkmaaGreatDoor.Gw Go.RowKit
set_option linter.unusedVariables false
attribute [local irreducible] Ev EvQ EvS EvH
def ref02_Cmp_S (f : Rational → Rational → Option Int) : Prop := ∀ (w0 : World) (I0 : Nat → Prop) (x29292 : Rational) (v29293 : Value) (r29294 : RepS (dI .u32) w0 I0 v29293 x29292.Num.Mag) (v29295 : Value) (r29296 : RepS (dI .u32) w0 I0 v29295 x29292.Den.Mag) (x29297 : Rational) (v29298 : Value) (r29299 : RepS (dI .u32) w0 I0 v29298 x29297.Num.Mag) (v29300 : Value) (r29301 : RepS (dI .u32) w0 I0 v29300 x29297.Den.Mag) (hI : ∀ g, I0 g → g < w0.heap.size) (r : Int), f x29292 x29297 = some r →
    Ret Tryz.prog 16 #[(.agg #[(.bool x29292.Num.Neg), v29293, (.bool x29292.Den.Neg), v29295]), (.agg #[(.bool x29297.Num.Neg), v29298, (.bool x29297.Den.Neg), v29300])] w0 fun v w1 => v = (.int .i64 r) ∧ Ch [] w0 w1
theorem ref02_Cmp_ok (n : Nat) : ref02_Cmp_S (ref02_Cmp n) := by
  intro w0 I0 x29292 v29293 r29294 v29295 r29296 x29297 v29298 r29299 v29300 r29301 hI r h
  unfold ref02_Cmp at h
  refine enter Tryz.func16 rfl (Nat.le_of_ble_eq_true rfl) ?_
  have hp : Hp ⟨w0, I0, []⟩ I0 [] w0 := Hp.start hI
  apply go
  apply go
  refine ev_boxI hp rfl rfl ?_
  intro p29304 I29305 w29303 hp hs a29306
  replace r29299 := r29299.step hs
  replace r29301 := r29301.step hs
  replace r29294 := r29294.step hs
  replace r29296 := r29296.step hs
  refine ev_boxI hp rfl rfl ?_
  intro p29309 I29310 w29308 hp hs a29311
  replace a29306 := a29306.step hs
  replace r29294 := r29294.step hs
  replace r29296 := r29296.step hs
  replace r29299 := r29299.step hs
  replace r29301 := r29301.step hs
  apply go
  apply go
  refine ev (rn_load rfl rfl (run_loadVarA T26 rfl a29306)) ?_
  refine ev (rn_load rfl rfl (run_loadVarA T26 rfl a29311)) ?_
  obtain ⟨x29312, q29313, h⟩ := bind_some h
  refine ev_call rfl rfl C48 (((ref02_Sub_ok n) _ _  (Rational.mk (Int_2.mk x29292.Num.Neg x29292.Num.Mag) (Int_2.mk x29292.Den.Neg x29292.Den.Mag)) v29293 r29294 v29295 r29296 (Rational.mk (Int_2.mk x29297.Num.Neg x29297.Num.Mag) (Int_2.mk x29297.Den.Neg x29297.Den.Mag)) v29298 r29299 v29300 r29301 hp.imm _ q29313).mono ?_)
  rintro _ w29314 ⟨I29315, v29316, v29318, hv, hq, r29317, r29319⟩
  replace hv := hv.symm
  subst hv
  have hs := hq.st
  have hp := hp.join0 hq
  obtain ⟨x29320, q29321, h⟩ := bind_some h
  refine ev_call rfl rfl C40 (((ref02_Sign_ok n) _ _  x29312 v29316 r29317 v29318 r29319 hp.imm _ q29321).mono ?_)
  rintro _ w29322 ⟨rfl, hc⟩
  have hs := hp.stp hc
  replace hp := hp.ext hc
  apply go
  obtain rfl := Option.some.inj h
  exact ⟨rfl, hp.ch⟩

end Go.Proofs.YtepadjfmcbjkmaaGreatDoor

namespace Go.Proofs.YtepadjfmcbjkmaaGreatDoor
open Go Go.Proofs.YtepadjfmcbjkmaaGreatDoor.Gw Go.RowKit
set_option linter.unusedVariables false
attribute [local irreducible] Ev EvQ EvS EvH
def rational_Floor_S (f : Rational → Option Int_2) : Prop := ∀ (w0 : World) (I0 : Nat → Prop) (x29323 : Rational) (v29324 : Value) (r29325 : RepS (dI .u32) w0 I0 v29324 x29323.Num.Mag) (v29326 : Value) (r29327 : RepS (dI .u32) w0 I0 v29326 x29323.Den.Mag) (hI : ∀ g, I0 g → g < w0.heap.size) (r : Int_2), f x29323 = some r →
    Ret Tryz.prog 18 #[(.agg #[(.bool x29323.Num.Neg), v29324, (.bool x29323.Den.Neg), v29326])] w0 fun v w1 => ∃ (I1 : Nat → Prop) (u29328 : Value), v = (.agg #[(.bool r.Neg), u29328]) ∧ Hp ⟨w0, I0, []⟩ I1 [] w1 ∧ RepS (dI .u32) w1 I1 u29328 r.Mag
theorem rational_Floor_ok (n : Nat) : rational_Floor_S (rational_Floor n) := by
  intro w0 I0 x29323 v29324 r29325 v29326 r29327 hI r h
  unfold rational_Floor at h
  refine enter Tryz.func18 rfl (Nat.le_of_ble_eq_true rfl) ?_
  have hp : Hp ⟨w0, I0, []⟩ I0 [] w0 := Hp.start hI
  apply go
  apply go
  refine ev_box hp rfl rfl ?_
  intro g29329 w29330 hp hs
  replace r29325 := r29325.step hs
  replace r29327 := r29327.step hs
  refine ev_alloc hp rfl T24 ?_
  intro g29331 w29332 hp hs
  replace r29325 := r29325.step hs
  replace r29327 := r29327.step hs
  apply go
  apply go
  refine ev (rn_load rfl rfl (run_loadVarA T26 rfl (hp.at_ (i := 1) rfl))) ?_
  obtain ⟨x29333, q29334, h⟩ := bind_some h
  refine ev_call rfl rfl C38 (((rational_Norm_ok n) _ _  (Rational.mk (Int_2.mk x29323.Num.Neg x29323.Num.Mag) (Int_2.mk x29323.Den.Neg x29323.Den.Mag)) v29324 r29325 v29326 r29327 hp.imm _ q29334).mono ?_)
  rintro _ w29335 ⟨I29336, v29337, v29339, hv, hq, r29338, r29340⟩
  replace hv := hv.symm
  subst hv
  have hs := hq.st
  have hp := hp.join0 hq
  replace r29325 := r29325.step hs
  replace r29327 := r29327.step hs
  refine ev_storeA hp (i := 1) (off := 0) (vs := [(.bool x29333.Num.Neg), v29337, (.bool x29333.Den.Neg), v29339]) rfl rfl rfl rfl T26 rfl (Nat.le_of_ble_eq_true rfl) (ones_cons rfl (ones_cons r29338.one (ones_cons rfl (ones_cons r29340.one ones_nil)))) ?_
  intro w29341 hp hs
  replace r29338 := r29338.step hs
  replace r29340 := r29340.step hs
  apply go
  apply go
  refine ev0 (rn_field rfl rfl FO26_0) ?_
  refine ev (rn_load rfl rfl (run_loadVarA T24 rfl (((hp.at_ (i := 1) rfl).drop 0).take 2))) ?_
  refine ev0 (rn_field rfl rfl FO26_1) ?_
  refine ev (rn_load rfl rfl (run_loadVarA T24 rfl (((hp.at_ (i := 1) rfl).drop 2).take 2))) ?_
  obtain ⟨⟨x29342, x29343, x29344⟩, q29345, h⟩ := bind_some h
  refine ev_call rfl rfl C49 (((integer_DivMod_ok n) _ _  (Int_2.mk x29333.Num.Neg x29333.Num.Mag) v29337 r29338 (Int_2.mk x29333.Den.Neg x29333.Den.Mag) v29339 r29340 hp.imm _ q29345).mono ?_)
  rintro _ w29346 ⟨I29347, v29348, v29350, hv, hq, r29349, r29351⟩
  replace hv := hv.symm
  subst hv
  have hs := hq.st
  have hp := hp.join0 hq
  replace r29338 := r29338.step hs
  replace r29340 := r29340.step hs
  refine ev_alloc hp rfl T24 ?_
  intro g29352 w29353 hp hs
  replace r29349 := r29349.step hs
  replace r29351 := r29351.step hs
  replace r29338 := r29338.step hs
  replace r29340 := r29340.step hs
  refine ev_alloc hp rfl T24 ?_
  intro g29354 w29355 hp hs
  replace r29349 := r29349.step hs
  replace r29351 := r29351.step hs
  replace r29338 := r29338.step hs
  replace r29340 := r29340.step hs
  refine ev_storeA hp (i := 1) (off := 0) (vs := [(.bool x29342.Neg), v29348]) rfl rfl rfl rfl T24 rfl (Nat.le_of_ble_eq_true rfl) (ones_cons rfl (ones_cons r29349.one ones_nil)) ?_
  intro w29356 hp hs
  replace r29351 := r29351.step hs
  replace r29349 := r29349.step hs
  replace r29338 := r29338.step hs
  replace r29340 := r29340.step hs
  refine ev_storeA hp (i := 0) (off := 0) (vs := [(.bool x29343.Neg), v29350]) rfl rfl rfl rfl T24 rfl (Nat.le_of_ble_eq_true rfl) (ones_cons rfl (ones_cons r29351.one ones_nil)) ?_
  intro w29357 hp hs
  replace r29351 := r29351.step hs
  replace r29349 := r29349.step hs
  replace r29338 := r29338.step hs
  replace r29340 := r29340.step hs
  apply go
  apply go
  refine ev (rn_load rfl rfl (run_loadVarA T24 rfl (hp.at_ (i := 1) rfl))) ?_
  refine ev_storeA hp (i := 2) (off := 0) (vs := [(.bool x29342.Neg), v29348]) rfl rfl rfl rfl T24 rfl (Nat.le_of_ble_eq_true rfl) (ones_cons rfl (ones_cons r29349.one ones_nil)) ?_
  intro w29358 hp hs
  replace r29351 := r29351.step hs
  replace r29349 := r29349.step hs
  replace r29338 := r29338.step hs
  replace r29340 := r29340.step hs
  apply go
  obtain rfl := Option.some.inj h
  refine ⟨_, run_loadVarA T24 rfl (hp.at_ (i := 2) rfl), ?_⟩
  have hp := hp.sel [] (by decide)
  exact ⟨I29347, v29348, rfl, hp, r29349⟩

end Go.Proofs.YtepadjfmcbjkmaaGreatDoor

namespace Go.Proofs.YtepadjfmcbjkmaaGreatDoor
open Go Go.Proofs.YtepadjfmcbjkmaaGreatDoor.Gw Go.RowKit
set_option linter.unusedVariables false
attribute [local irreducible] Ev EvQ EvS EvH
def ref02_Floor_S (f : Rational → Option Int_2) : Prop := ∀ (w0 : World) (I0 : Nat → Prop) (x29359 : Rational) (v29360 : Value) (r29361 : RepS (dI .u32) w0 I0 v29360 x29359.Num.Mag) (v29362 : Value) (r29363 : RepS (dI .u32) w0 I0 v29362 x29359.Den.Mag) (hI : ∀ g, I0 g → g < w0.heap.size) (r : Int_2), f x29359 = some r →
    Ret Tryz.prog 19 #[(.agg #[(.bool x29359.Num.Neg), v29360, (.bool x29359.Den.Neg), v29362])] w0 fun v w1 => ∃ (I1 : Nat → Prop) (u29364 : Value), v = (.agg #[(.bool r.Neg), u29364]) ∧ Hp ⟨w0, I0, []⟩ I1 [] w1 ∧ RepS (dI .u32) w1 I1 u29364 r.Mag
theorem ref02_Floor_ok (n : Nat) : ref02_Floor_S (ref02_Floor n) := by
  intro w0 I0 x29359 v29360 r29361 v29362 r29363 hI r h
  unfold ref02_Floor at h
  refine enter Tryz.func19 rfl (Nat.le_of_ble_eq_true rfl) ?_
  have hp : Hp ⟨w0, I0, []⟩ I0 [] w0 := Hp.start hI
  apply go
  apply go
  refine ev_boxI hp rfl rfl ?_
  intro p29367 I29368 w29366 hp hs a29369
  replace r29361 := r29361.step hs
  replace r29363 := r29363.step hs
  refine ev_alloc hp rfl T24 ?_
  intro g29370 w29371 hp hs
  replace a29369 := a29369.step hs
  replace r29361 := r29361.step hs
  replace r29363 := r29363.step hs
  apply go
  apply go
  refine ev (rn_load rfl rfl (run_loadVarA T26 rfl a29369)) ?_
  obtain ⟨x29372, q29373, h⟩ := bind_some h
  refine ev_call rfl rfl C35 (((ref02_Norm_ok n) _ _  (Rational.mk (Int_2.mk x29359.Num.Neg x29359.Num.Mag) (Int_2.mk x29359.Den.Neg x29359.Den.Mag)) v29360 r29361 v29362 r29363 hp.imm _ q29373).mono ?_)
  rintro _ w29374 ⟨I29375, v29376, v29378, hv, hq, r29377, r29379⟩
  replace hv := hv.symm
  subst hv
  have hs := hq.st
  have hp := hp.join0 hq
  refine ev_alloc hp rfl T26 ?_
  intro g29380 w29381 hp hs
  replace r29377 := r29377.step hs
  replace r29379 := r29379.step hs
  refine ev_storeA hp (i := 0) (off := 0) (vs := [(.bool x29372.Num.Neg), v29376, (.bool x29372.Den.Neg), v29378]) rfl rfl rfl rfl T26 rfl (Nat.le_of_ble_eq_true rfl) (ones_cons rfl (ones_cons r29377.one (ones_cons rfl (ones_cons r29379.one ones_nil)))) ?_
  intro w29382 hp hs
  replace r29377 := r29377.step hs
  replace r29379 := r29379.step hs
  apply go
  apply go
  refine ev0 (rn_field rfl rfl FO26_0) ?_
  refine ev (rn_load rfl rfl (run_loadVarA T24 rfl (((hp.at_ (i := 0) rfl).drop 0).take 2))) ?_
  refine ev0 (rn_field rfl rfl FO26_1) ?_
  refine ev (rn_load rfl rfl (run_loadVarA T24 rfl (((hp.at_ (i := 0) rfl).drop 2).take 2))) ?_
  obtain ⟨x29383, q29384, h⟩ := bind_some h
  refine ev_call rfl rfl C50 (((ref02_part_ok n) _ _  (Int_2.mk x29372.Num.Neg x29372.Num.Mag) v29376 r29377 (Int_2.mk x29372.Den.Neg x29372.Den.Mag) v29378 r29379 hp.imm _ q29384).mono ?_)
  rintro _ w29385 ⟨I29386, v29387, hv, hq, r29388⟩
  replace hv := hv.symm
  subst hv
  have hs := hq.st
  have hp := hp.join0 hq
  replace r29377 := r29377.step hs
  replace r29379 := r29379.step hs
  refine ev_storeA hp (i := 1) (off := 0) (vs := [(.bool x29383.Neg), v29387]) rfl rfl rfl rfl T24 rfl (Nat.le_of_ble_eq_true rfl) (ones_cons rfl (ones_cons r29388.one ones_nil)) ?_
  intro w29389 hp hs
  replace r29377 := r29377.step hs
  replace r29379 := r29379.step hs
  replace r29388 := r29388.step hs
  apply go
  obtain rfl := Option.some.inj h
  refine ⟨_, run_loadVarA T24 rfl (hp.at_ (i := 1) rfl), ?_⟩
  have hp := hp.sel [] (by decide)
  exact ⟨I29386, v29387, rfl, hp, r29388⟩

end Go.Proofs.YtepadjfmcbjkmaaGreatDoor

namespace Go.Proofs.YtepadjfmcbjkmaaGreatDoor
open Go Go.Proofs.YtepadjfmcbjkmaaGreatDoor.Gw Go.RowKit
set_option linter.unusedVariables false
attribute [local irreducible] Ev EvQ EvS EvH vch
def law02_RationalQuotients_S (f : Rational → Rational → Option Bool) : Prop := ∀ (w0 : World) (I0 : Nat → Prop) (tb : Tb w0 I0 4 .u64 pow10) (x29390 : Rational) (v29391 : Value) (r29392 : RepS (dI .u32) w0 I0 v29391 x29390.Num.Mag) (v29393 : Value) (r29394 : RepS (dI .u32) w0 I0 v29393 x29390.Den.Mag) (x29395 : Rational) (v29396 : Value) (r29397 : RepS (dI .u32) w0 I0 v29396 x29395.Num.Mag) (v29398 : Value) (r29399 : RepS (dI .u32) w0 I0 v29398 x29395.Den.Mag) (hI : ∀ g, I0 g → g < w0.heap.size) (r : Bool), f x29390 x29395 = some r →
    Ret Tryz.prog 3 #[(.agg #[(.bool x29390.Num.Neg), v29391, (.bool x29390.Den.Neg), v29393]), (.agg #[(.bool x29395.Num.Neg), v29396, (.bool x29395.Den.Neg), v29398])] w0 fun v w1 => v = (.bool r) ∧ Ch [] w0 w1
theorem law02_RationalQuotients_ok (n : Nat) : law02_RationalQuotients_S (law02_RationalQuotients n) := by
  intro w0 I0 tb x29390 v29391 r29392 v29393 r29394 x29395 v29396 r29397 v29398 r29399 hI r h
  unfold law02_RationalQuotients at h
  refine enter Tryz.func3 rfl (Nat.le_of_ble_eq_true rfl) ?_
  have hp : Hp ⟨w0, I0, []⟩ I0 [] w0 := Hp.start hI
  apply go
  apply go
  refine ev_boxI hp rfl rfl ?_
  intro p29402 I29403 w29401 hp hs a29404
  replace r29397 := r29397.step hs
  replace r29399 := r29399.step hs
  replace r29392 := r29392.step hs
  replace r29394 := r29394.step hs
  replace tb := tb.step hs
  refine ev_boxI hp rfl rfl ?_
  intro p29407 I29408 w29406 hp hs a29409
  replace a29404 := a29404.step hs
  replace r29392 := r29392.step hs
  replace r29394 := r29394.step hs
  replace r29397 := r29397.step hs
  replace r29399 := r29399.step hs
  replace tb := tb.step hs
  apply go
  obtain ⟨y29451, q29452, h⟩ := bind_some h
  refine W.cut (γ := ((List Int) × (List Int) × (List Int) × (List Int) × Bool × Value × Value × Value × Value × (Nat → Prop))) (fun g => [(2, (.pointer (some (p29402)))), (3, (.pointer (some (p29407)))), (21, (.bool (g.2.2.2.2.1)))]) (fun g w' => y29451 = ((g.1), (g.2.1), (g.2.2.1), (g.2.2.2.1), (g.2.2.2.2.1)) ∧ Hp ⟨w0, I0, []⟩ (g.2.2.2.2.2.2.2.2.2) [] w' ∧ RepS (dI .u32) w' (g.2.2.2.2.2.2.2.2.2) (g.2.2.2.2.2.1) (g.1) ∧ RepS (dI .u32) w' (g.2.2.2.2.2.2.2.2.2) (g.2.2.2.2.2.2.1) (g.2.1) ∧ At w' (g.2.2.2.2.2.2.2.2.2) p29402 [(.bool x29390.Num.Neg), (g.2.2.2.2.2.1), (.bool x29390.Den.Neg), (g.2.2.2.2.2.2.1)] ∧ RepS (dI .u32) w' (g.2.2.2.2.2.2.2.2.2) (g.2.2.2.2.2.2.2.1) (g.2.2.1) ∧ RepS (dI .u32) w' (g.2.2.2.2.2.2.2.2.2) (g.2.2.2.2.2.2.2.2.1) (g.2.2.2.1) ∧ At w' (g.2.2.2.2.2.2.2.2.2) p29407 [(.bool x29395.Num.Neg), (g.2.2.2.2.2.2.2.1), (.bool x29395.Den.Neg), (g.2.2.2.2.2.2.2.2.1)] ∧ Tb w' (g.2.2.2.2.2.2.2.2.2) 4 .u64 pow10) ?_ ?_
  ·
    apply go
    obtain ⟨x29453, q29454, q29452⟩ := bind_some q29452
    refine ev_call rfl rfl C8 (((law02_awake_ok n) _ _ tb  hp.imm _ q29454).mono ?_)
    rintro _ w29455 ⟨rfl, hc⟩
    have hs := hp.stp hc
    replace hp := hp.ext hc
    replace a29404 := a29404.step hs
    replace r29392 := r29392.step hs
    replace r29394 := r29394.step hs
    replace a29409 := a29409.step hs
    replace r29397 := r29397.step hs
    replace r29399 := r29399.step hs
    replace tb := tb.step hs
    refine sel_of (fun hc => ?_) (fun hc => ?_)
    ·
      have q29452 := cond_t q29452 hc
      obtain rfl := Option.some.inj q29452
      exact ⟨(x29390.Num.Mag, x29390.Den.Mag, x29395.Num.Mag, x29395.Den.Mag, true, v29391, v29393, v29396, v29398, I29408), (.c rfl (.c rfl (.c rfl .n))), rfl, hp, r29392, r29394, a29404, r29397, r29399, a29409, tb⟩
    ·
      have q29452 := cond_f q29452 hc
      refine ev (rn_load rfl rfl (run_loadVarA T26 rfl a29404)) ?_
      refine ev (rn_load rfl rfl (run_loadVarA T26 rfl a29409)) ?_
      obtain ⟨A29456, m29457, m29458, rfl⟩ := r29392.isSl
      obtain ⟨A29460, m29461, m29462, rfl⟩ := r29394.isSl
      obtain ⟨A29464, m29465, m29466, rfl⟩ := r29397.isSl
      obtain ⟨A29468, m29469, m29470, rfl⟩ := r29399.isSl
      refine ev_litN (d := dRational) (xs := [(Rational.mk (Int_2.mk x29390.Num.Neg x29390.Num.Mag) (Int_2.mk x29390.Den.Neg x29390.Den.Mag)), (Rational.mk (Int_2.mk x29395.Num.Neg x29395.Num.Mag) (Int_2.mk x29395.Den.Neg x29395.Den.Mag))]) (cs := [(.bool x29390.Num.Neg), (.slice A29456 m29457 m29458), (.bool x29390.Den.Neg), (.slice A29460 m29461 m29462), (.bool x29395.Num.Neg), (.slice A29464 m29465 m29466), (.bool x29395.Den.Neg), (.slice A29468 m29469 m29470)]) hp rfl rfl Tryz.underlying56 T26 (by decide) (by kernel_rfl) rfl (Elems.cons (d := dRational) (xs := _) (dRational_m r29392 r29394) (Elems.cons (d := dRational) (xs := _) (dRational_m r29397 r29399) (Elems.nil _ _ _ _))) ?_
      intro v29472 I29474 w29473 hp hs r29475
      replace a29404 := a29404.step hs
      replace r29392 := r29392.step hs
      replace r29394 := r29394.step hs
      replace a29409 := a29409.step hs
      replace r29397 := r29397.step hs
      replace r29399 := r29399.step hs
      replace tb := tb.step hs
      obtain ⟨x29476, q29477, q29452⟩ := bind_some q29452
      refine ev_call rfl rfl C9 (((law02_few_ok n) _ _  [(Rational.mk (Int_2.mk x29390.Num.Neg x29390.Num.Mag) (Int_2.mk x29390.Den.Neg x29390.Den.Mag)), (Rational.mk (Int_2.mk x29395.Num.Neg x29395.Num.Mag) (Int_2.mk x29395.Den.Neg x29395.Den.Mag))] v29472 r29475 hp.imm _ q29477).mono ?_)
      rintro _ w29478 ⟨rfl, hc⟩
      have hs := hp.stp hc
      replace hp := hp.ext hc
      replace a29404 := a29404.step hs
      replace r29392 := r29392.step hs
      replace r29394 := r29394.step hs
      replace a29409 := a29409.step hs
      replace r29397 := r29397.step hs
      replace r29399 := r29399.step hs
      replace tb := tb.step hs
      obtain rfl := Option.some.inj q29452
      exact ⟨(x29390.Num.Mag, x29390.Den.Mag, x29395.Num.Mag, x29395.Den.Mag, (!x29476), (.slice A29456 m29457 m29458), (.slice A29460 m29461 m29462), (.slice A29464 m29465 m29466), (.slice A29468 m29469 m29470), I29474), (.c rfl (.c rfl (.c rfl .n))), rfl, hp, r29392, r29394, a29404, r29397, r29399, a29409, tb⟩
  ·
    rintro ⟨x29436, x29439, x29442, x29445, x29448, v29437, v29440, v29443, v29446, I29449⟩ w29450 ⟨hy, hp, r29438, r29441, a29404, r29444, r29447, a29409, tb⟩
    replace hy := hy.symm
    subst hy
    apply go
    refine sel_of (fun hc => ?_) (fun hc => ?_)
    ·
      have h := cond_t h hc
      apply go
      apply go
      obtain ⟨x29479, q29480, h⟩ := bind_some h
      refine ev_call rfl rfl C8 (((law02_awake_ok n) _ _ tb  hp.imm _ q29480).mono ?_)
      rintro _ w29481 ⟨rfl, hc⟩
      have hs := hp.stp hc
      replace hp := hp.ext hc
      replace tb := tb.step hs
      apply go
      obtain rfl := Option.some.inj h
      exact ⟨rfl, hp.ch⟩
    ·
      have h := cond_f h hc
      apply go
      apply go
      apply go
      refine ev (rn_load rfl rfl (run_loadVarA T26 rfl a29404)) ?_
      refine ev (rn_load rfl rfl (run_loadVarA T26 rfl a29409)) ?_
      obtain ⟨⟨x29482, x29483⟩, q29484, h⟩ := bind_some h
      refine ev_call rfl rfl C10 (((rational_Div_ok n) _ _  (Rational.mk (Int_2.mk x29390.Num.Neg x29436) (Int_2.mk x29390.Den.Neg x29439)) v29437 r29438 v29440 r29441 (Rational.mk (Int_2.mk x29395.Num.Neg x29442) (Int_2.mk x29395.Den.Neg x29445)) v29443 r29444 v29446 r29447 hp.imm _ q29484).mono ?_)
      rintro _ w29485 ⟨I29486, v29487, v29489, hv, hq, r29488, r29490⟩
      replace hv := hv.symm
      subst hv
      have hs := hq.st
      have hp := hp.join0 hq
      replace a29404 := a29404.step hs
      replace r29438 := r29438.step hs
      replace r29441 := r29441.step hs
      replace a29409 := a29409.step hs
      replace r29444 := r29444.step hs
      replace r29447 := r29447.step hs
      replace tb := tb.step hs
      refine ev_alloc hp rfl T26 ?_
      intro g29491 w29492 hp hs
      replace a29404 := a29404.step hs
      replace r29438 := r29438.step hs
      replace r29441 := r29441.step hs
      replace a29409 := a29409.step hs
      replace r29444 := r29444.step hs
      replace r29447 := r29447.step hs
      replace r29488 := r29488.step hs
      replace r29490 := r29490.step hs
      replace tb := tb.step hs
      refine ev_storeA hp (i := 0) (off := 0) (vs := [(.bool x29482.Num.Neg), v29487, (.bool x29482.Den.Neg), v29489]) rfl rfl rfl rfl T26 rfl (Nat.le_of_ble_eq_true rfl) (ones_cons rfl (ones_cons r29488.one (ones_cons rfl (ones_cons r29490.one ones_nil)))) ?_
      intro w29493 hp hs
      replace a29404 := a29404.step hs
      replace r29438 := r29438.step hs
      replace r29441 := r29441.step hs
      replace a29409 := a29409.step hs
      replace r29444 := r29444.step hs
      replace r29447 := r29447.step hs
      replace r29488 := r29488.step hs
      replace r29490 := r29490.step hs
      replace tb := tb.step hs
      apply go
      apply go
      refine ev (rn_load rfl rfl (run_loadVarA T26 rfl a29404)) ?_
      refine ev (rn_load rfl rfl (run_loadVarA T26 rfl a29409)) ?_
      obtain ⟨⟨x29494, x29495⟩, q29496, h⟩ := bind_some h
      refine ev_call rfl rfl C11 (((ref02_Div_ok n) _ _  (Rational.mk (Int_2.mk x29390.Num.Neg x29436) (Int_2.mk x29390.Den.Neg x29439)) v29437 r29438 v29440 r29441 (Rational.mk (Int_2.mk x29395.Num.Neg x29442) (Int_2.mk x29395.Den.Neg x29445)) v29443 r29444 v29446 r29447 hp.imm _ q29496).mono ?_)
      rintro _ w29497 ⟨I29498, v29499, v29501, hv, hq, r29500, r29502⟩
      replace hv := hv.symm
      subst hv
      have hs := hq.st
      have hp := hp.join0 hq
      replace a29404 := a29404.step hs
      replace r29438 := r29438.step hs
      replace r29441 := r29441.step hs
      replace a29409 := a29409.step hs
      replace r29444 := r29444.step hs
      replace r29447 := r29447.step hs
      replace r29488 := r29488.step hs
      replace r29490 := r29490.step hs
      replace tb := tb.step hs
      refine ev_alloc hp rfl T26 ?_
      intro g29503 w29504 hp hs
      replace a29404 := a29404.step hs
      replace r29438 := r29438.step hs
      replace r29441 := r29441.step hs
      replace a29409 := a29409.step hs
      replace r29444 := r29444.step hs
      replace r29447 := r29447.step hs
      replace r29500 := r29500.step hs
      replace r29502 := r29502.step hs
      replace r29488 := r29488.step hs
      replace r29490 := r29490.step hs
      replace tb := tb.step hs
      refine ev_storeA hp (i := 0) (off := 0) (vs := [(.bool x29494.Num.Neg), v29499, (.bool x29494.Den.Neg), v29501]) rfl rfl rfl rfl T26 rfl (Nat.le_of_ble_eq_true rfl) (ones_cons rfl (ones_cons r29500.one (ones_cons rfl (ones_cons r29502.one ones_nil)))) ?_
      intro w29505 hp hs
      replace a29404 := a29404.step hs
      replace r29438 := r29438.step hs
      replace r29441 := r29441.step hs
      replace a29409 := a29409.step hs
      replace r29444 := r29444.step hs
      replace r29447 := r29447.step hs
      replace r29500 := r29500.step hs
      replace r29502 := r29502.step hs
      replace r29488 := r29488.step hs
      replace r29490 := r29490.step hs
      replace tb := tb.step hs
      apply go
      apply go
      refine ev (rn_load rfl rfl (run_loadVarA T26 rfl a29404)) ?_
      obtain ⟨⟨x29506, x29507⟩, q29508, h⟩ := bind_some h
      refine ev_call rfl rfl C12 (((rational_Whole_ok n) _ _  (Rational.mk (Int_2.mk x29390.Num.Neg x29436) (Int_2.mk x29390.Den.Neg x29439)) v29437 r29438 v29440 r29441 hp.imm _ q29508).mono ?_)
      rintro _ w29509 ⟨I29510, v29511, hv, hq, r29512⟩
      replace hv := hv.symm
      subst hv
      have hs := hq.st
      have hp := hp.join0 hq
      replace a29404 := a29404.step hs
      replace r29438 := r29438.step hs
      replace r29441 := r29441.step hs
      replace a29409 := a29409.step hs
      replace r29444 := r29444.step hs
      replace r29447 := r29447.step hs
      replace r29500 := r29500.step hs
      replace r29502 := r29502.step hs
      replace r29488 := r29488.step hs
      replace r29490 := r29490.step hs
      replace tb := tb.step hs
      refine ev_alloc hp rfl T24 ?_
      intro g29513 w29514 hp hs
      replace a29404 := a29404.step hs
      replace r29438 := r29438.step hs
      replace r29441 := r29441.step hs
      replace a29409 := a29409.step hs
      replace r29444 := r29444.step hs
      replace r29447 := r29447.step hs
      replace r29512 := r29512.step hs
      replace r29500 := r29500.step hs
      replace r29502 := r29502.step hs
      replace r29488 := r29488.step hs
      replace r29490 := r29490.step hs
      replace tb := tb.step hs
      refine ev_storeA hp (i := 0) (off := 0) (vs := [(.bool x29506.Neg), v29511]) rfl rfl rfl rfl T24 rfl (Nat.le_of_ble_eq_true rfl) (ones_cons rfl (ones_cons r29512.one ones_nil)) ?_
      intro w29515 hp hs
      replace a29404 := a29404.step hs
      replace r29438 := r29438.step hs
      replace r29441 := r29441.step hs
      replace a29409 := a29409.step hs
      replace r29444 := r29444.step hs
      replace r29447 := r29447.step hs
      replace r29512 := r29512.step hs
      replace r29500 := r29500.step hs
      replace r29502 := r29502.step hs
      replace r29488 := r29488.step hs
      replace r29490 := r29490.step hs
      replace tb := tb.step hs
      apply go
      apply go
      refine ev (rn_load rfl rfl (run_loadVarA T26 rfl a29404)) ?_
      obtain ⟨⟨x29516, x29517⟩, q29518, h⟩ := bind_some h
      refine ev_call rfl rfl C13 (((ref02_Whole_ok n) _ _  (Rational.mk (Int_2.mk x29390.Num.Neg x29436) (Int_2.mk x29390.Den.Neg x29439)) v29437 r29438 v29440 r29441 hp.imm _ q29518).mono ?_)
      rintro _ w29519 ⟨I29520, v29521, hv, hq, r29522⟩
      replace hv := hv.symm
      subst hv
      have hs := hq.st
      have hp := hp.join0 hq
      replace a29404 := a29404.step hs
      replace r29438 := r29438.step hs
      replace r29441 := r29441.step hs
      replace a29409 := a29409.step hs
      replace r29444 := r29444.step hs
      replace r29447 := r29447.step hs
      replace r29512 := r29512.step hs
      replace r29500 := r29500.step hs
      replace r29502 := r29502.step hs
      replace r29488 := r29488.step hs
      replace r29490 := r29490.step hs
      replace tb := tb.step hs
      refine ev_alloc hp rfl T24 ?_
      intro g29523 w29524 hp hs
      replace a29404 := a29404.step hs
      replace r29438 := r29438.step hs
      replace r29441 := r29441.step hs
      replace a29409 := a29409.step hs
      replace r29444 := r29444.step hs
      replace r29447 := r29447.step hs
      replace r29522 := r29522.step hs
      replace r29512 := r29512.step hs
      replace r29500 := r29500.step hs
      replace r29502 := r29502.step hs
      replace r29488 := r29488.step hs
      replace r29490 := r29490.step hs
      replace tb := tb.step hs
      refine ev_storeA hp (i := 0) (off := 0) (vs := [(.bool x29516.Neg), v29521]) rfl rfl rfl rfl T24 rfl (Nat.le_of_ble_eq_true rfl) (ones_cons rfl (ones_cons r29522.one ones_nil)) ?_
      intro w29525 hp hs
      replace a29404 := a29404.step hs
      replace r29438 := r29438.step hs
      replace r29441 := r29441.step hs
      replace a29409 := a29409.step hs
      replace r29444 := r29444.step hs
      replace r29447 := r29447.step hs
      replace r29522 := r29522.step hs
      replace r29512 := r29512.step hs
      replace r29500 := r29500.step hs
      replace r29502 := r29502.step hs
      replace r29488 := r29488.step hs
      replace r29490 := r29490.step hs
      replace tb := tb.step hs
      obtain ⟨y29583, q29584, h⟩ := bind_some h
      refine W.cut (γ := (Bool × (Nat → Prop))) (fun g => [(4, (.bool (g.1)))]) (fun g w' => y29583 = (g.1) ∧ Hp ⟨w0, I0, []⟩ (g.2) [] w' ∧ Tb w' (g.2) 4 .u64 pow10) ?_ ?_
      ·
        have hs := hp.stp (Ch.drew [] w29525)
        have hp := hp.drew
        replace a29404 := a29404.step hs
        replace r29438 := r29438.step hs
        replace r29441 := r29441.step hs
        replace a29409 := a29409.step hs
        replace r29444 := r29444.step hs
        replace r29447 := r29447.step hs
        replace r29522 := r29522.step hs
        replace r29512 := r29512.step hs
        replace r29500 := r29500.step hs
        replace r29502 := r29502.step hs
        replace r29488 := r29488.step hs
        replace r29490 := r29490.step hs
        replace tb := tb.step hs
        refine W.heldT [(0, true), (1, true), (2, true), (3, true), (4, true), (5, true), (6, false), (7, true), (8, true), (9, true), (10, true), (12, true), (13, true), (11, false), (14, false), (15, true), (16, true), (17, true), (18, true), (20, true), (19, false), (21, false), (22, false), (23, true), (24, true), (25, true), (26, true), (27, false), (28, true), (29, true), (30, true), (31, true), (32, true), (33, true), (34, true)] (fun x => Stp I29520 w29525.drew I29520 x ∧ OwnK [(g29491, [(.bool x29482.Num.Neg), v29487, (.bool x29482.Den.Neg), v29489], 26), (g29503, [(.bool x29494.Num.Neg), v29499, (.bool x29494.Den.Neg), v29501], 26), (g29513, [(.bool x29506.Neg), v29511], 24), (g29523, [(.bool x29516.Neg), v29521], 24)] x) MX (by kernel_rfl) ⟨Stp.refl _ _, (OwnK.cons (hp.own 3 _ _ _ rfl).1 (OwnK.cons (hp.own 2 _ _ _ rfl).1 (OwnK.cons (hp.own 1 _ _ _ rfl).1 (OwnK.cons (hp.own 0 _ _ _ rfl).1 OwnK.nil))))⟩ ?_
        have hz := Stp.refl I29520 w29525.drew
        intro ops hops
        have e0 : nthO ops 0 = some _ := (hops 0).trans rfl
        have e1 : nthO ops 1 = some _ := (hops 1).trans rfl
        have e2 : nthO ops 2 = some _ := (hops 2).trans rfl
        have e3 : nthO ops 3 = some _ := (hops 3).trans rfl
        have e4 : nthO ops 4 = some _ := (hops 4).trans rfl
        have e5 : nthO ops 5 = some _ := (hops 5).trans rfl
        have e6 : nthO ops 6 = some _ := (hops 6).trans rfl
        have e7 : nthO ops 7 = some _ := (hops 7).trans rfl
        have e8 : nthO ops 8 = some _ := (hops 8).trans rfl
        have e9 : nthO ops 9 = some _ := (hops 9).trans rfl
        have e10 : nthO ops 10 = some _ := (hops 10).trans rfl
        have e11 : nthO ops 11 = some _ := (hops 11).trans rfl
        have e12 : nthO ops 12 = some _ := (hops 12).trans rfl
        have e13 : nthO ops 13 = some _ := (hops 13).trans rfl
        have e14 : nthO ops 14 = some _ := (hops 14).trans rfl
        have e15 : nthO ops 15 = some _ := (hops 15).trans rfl
        have e16 : nthO ops 16 = some _ := (hops 16).trans rfl
        have e17 : nthO ops 17 = some _ := (hops 17).trans rfl
        have e18 : nthO ops 18 = some _ := (hops 18).trans rfl
        have e19 : nthO ops 19 = some _ := (hops 19).trans rfl
        have e20 : nthO ops 20 = some _ := (hops 20).trans rfl
        have e21 : nthO ops 21 = some _ := (hops 21).trans rfl
        have e22 : nthO ops 22 = some _ := (hops 22).trans rfl
        have e23 : nthO ops 23 = some _ := (hops 23).trans rfl
        have e24 : nthO ops 24 = some _ := (hops 24).trans rfl
        have e25 : nthO ops 25 = some _ := (hops 25).trans rfl
        have e26 : nthO ops 26 = some _ := (hops 26).trans rfl
        have e27 : nthO ops 27 = some _ := (hops 27).trans rfl
        have e28 : nthO ops 28 = some _ := (hops 28).trans rfl
        have e29 : nthO ops 29 = some _ := (hops 29).trans rfl
        have e30 : nthO ops 30 = some _ := (hops 30).trans rfl
        have e31 : nthO ops 31 = some _ := (hops 31).trans rfl
        have e32 : nthO ops 32 = some _ := (hops 32).trans rfl
        have e33 : nthO ops 33 = some _ := (hops 33).trans rfl
        have e34 : nthO ops 34 = some _ := (hops 34).trans rfl
        clear hops
        refine vch_q e0 rfl ?_
        refine vch_q e1 rfl ?_
        refine vch_q e2 rfl ?_
        refine vch_q e3 rfl ?_
        rcases Bool.eq_false_or_eq_true (x29483 == x29495) with hc | hc
        ·
          have q29584 := cond_t q29584 hc
          refine vch_qt e4 rfl e3 rfl rfl hc ?_
          refine evh (fun w' hw => rn_load rfl rfl (run_loadVarA T26 rfl (hw.2.at_ (i := 0) rfl))) ?_
          refine vch_qt e5 rfl e3 rfl rfl rfl ?_
          refine evh (fun w' hw => rn_load rfl rfl (run_loadVarA T26 rfl (hw.2.at_ (i := 1) rfl))) ?_
          refine vch_lt e6 rfl e3 rfl rfl rfl ?_
          obtain ⟨x29612, q29613, q29584⟩ := bind_some q29584
          refine ev_call rfl rfl C14 (((base_Rational_ok n) _ _  (Rational.mk (Int_2.mk x29482.Num.Neg x29482.Num.Mag) (Int_2.mk x29482.Den.Neg x29482.Den.Mag)) v29487 r29488 v29489 r29490 (Rational.mk (Int_2.mk x29494.Num.Neg x29494.Num.Mag) (Int_2.mk x29494.Den.Neg x29494.Den.Mag)) v29499 r29500 v29501 r29502 hp.imm _ q29613).mono ?_)
          rintro _ w29614 ⟨rfl, hc⟩
          have hs := hp.stp hc
          replace hp := hp.ext hc
          replace hz := hz.trans hs
          replace a29404 := a29404.step hs
          replace r29438 := r29438.step hs
          replace r29441 := r29441.step hs
          replace a29409 := a29409.step hs
          replace r29444 := r29444.step hs
          replace r29447 := r29447.step hs
          replace r29522 := r29522.step hs
          replace r29512 := r29512.step hs
          replace r29500 := r29500.step hs
          replace r29502 := r29502.step hs
          replace r29488 := r29488.step hs
          replace r29490 := r29490.step hs
          replace tb := tb.step hs
          refine ⟨fun x => Stp I29520 w29614 I29520 x ∧ OwnK [(g29491, [(.bool x29482.Num.Neg), v29487, (.bool x29482.Den.Neg), v29489], 26), (g29503, [(.bool x29494.Num.Neg), v29499, (.bool x29494.Den.Neg), v29501], 26), (g29513, [(.bool x29506.Neg), v29511], 24), (g29523, [(.bool x29516.Neg), v29521], 24)] x, ⟨Stp.refl _ _, (OwnK.cons (hp.own 3 _ _ _ rfl).1 (OwnK.cons (hp.own 2 _ _ _ rfl).1 (OwnK.cons (hp.own 1 _ _ _ rfl).1 (OwnK.cons (hp.own 0 _ _ _ rfl).1 OwnK.nil))))⟩, fun x hx => ⟨hz.held hx.1, hx.2⟩, ?_⟩
          have hz := Stp.refl I29520 w29614
          refine vch_q e7 rfl ?_
          refine vch_q e8 rfl ?_
          rcases Bool.eq_false_or_eq_true x29612 with hc | hc
          ·
            have q29584 := cond_t q29584 hc
            refine vch_qt e9 rfl e8 rfl rfl hc ?_
            refine evh (fun w' hw => rn_load rfl rfl (run_loadVarA T26 rfl (a29404.step hw.1))) ?_
            refine vch_qt e10 rfl e8 rfl rfl rfl ?_
            refine evh (fun w' hw => rn_load rfl rfl (run_loadVarA T26 rfl (a29409.step hw.1))) ?_
            refine vch_qt e12 rfl e8 rfl rfl rfl ?_
            refine evh (fun w' hw => rn_load rfl rfl (run_loadVarA T26 rfl (a29404.step hw.1))) ?_
            refine vch_qt e13 rfl e8 rfl rfl rfl ?_
            refine evh (fun w' hw => rn_load rfl rfl (run_loadVarA T26 rfl (a29409.step hw.1))) ?_
            refine vch_lt e11 rfl e8 rfl rfl rfl ?_
            obtain ⟨x29615, q29616, q29584⟩ := bind_some q29584
            refine ev_call rfl rfl C15 (((rational_Cmp_ok n) _ _  (Rational.mk (Int_2.mk x29390.Num.Neg x29436) (Int_2.mk x29390.Den.Neg x29439)) v29437 r29438 v29440 r29441 (Rational.mk (Int_2.mk x29395.Num.Neg x29442) (Int_2.mk x29395.Den.Neg x29445)) v29443 r29444 v29446 r29447 hp.imm _ q29616).mono ?_)
            rintro _ w29617 ⟨rfl, hc⟩
            have hs := hp.stp hc
            replace hp := hp.ext hc
            replace hz := hz.trans hs
            replace a29404 := a29404.step hs
            replace r29438 := r29438.step hs
            replace r29441 := r29441.step hs
            replace r29444 := r29444.step hs
            replace r29447 := r29447.step hs
            replace r29522 := r29522.step hs
            replace r29512 := r29512.step hs
            replace r29500 := r29500.step hs
            replace r29502 := r29502.step hs
            replace r29488 := r29488.step hs
            replace r29490 := r29490.step hs
            replace tb := tb.step hs
            refine ⟨fun x => Stp I29520 w29617 I29520 x ∧ OwnK [(g29491, [(.bool x29482.Num.Neg), v29487, (.bool x29482.Den.Neg), v29489], 26), (g29503, [(.bool x29494.Num.Neg), v29499, (.bool x29494.Den.Neg), v29501], 26), (g29513, [(.bool x29506.Neg), v29511], 24), (g29523, [(.bool x29516.Neg), v29521], 24)] x, ⟨Stp.refl _ _, (OwnK.cons (hp.own 3 _ _ _ rfl).1 (OwnK.cons (hp.own 2 _ _ _ rfl).1 (OwnK.cons (hp.own 1 _ _ _ rfl).1 (OwnK.cons (hp.own 0 _ _ _ rfl).1 OwnK.nil))))⟩, fun x hx => ⟨hz.held hx.1, hx.2⟩, ?_⟩
            have hz := Stp.refl I29520 w29617
            refine vch_lt e14 rfl e8 rfl rfl rfl ?_
            obtain ⟨x29618, q29619, q29584⟩ := bind_some q29584
            refine ev_call rfl rfl C16 (((ref02_Cmp_ok n) _ _  (Rational.mk (Int_2.mk x29390.Num.Neg x29436) (Int_2.mk x29390.Den.Neg x29439)) v29437 r29438 v29440 r29441 (Rational.mk (Int_2.mk x29395.Num.Neg x29442) (Int_2.mk x29395.Den.Neg x29445)) v29443 r29444 v29446 r29447 hp.imm _ q29619).mono ?_)
            rintro _ w29620 ⟨rfl, hc⟩
            have hs := hp.stp hc
            replace hp := hp.ext hc
            replace hz := hz.trans hs
            replace a29404 := a29404.step hs
            replace r29438 := r29438.step hs
            replace r29441 := r29441.step hs
            replace r29522 := r29522.step hs
            replace r29512 := r29512.step hs
            replace r29500 := r29500.step hs
            replace r29502 := r29502.step hs
            replace r29488 := r29488.step hs
            replace r29490 := r29490.step hs
            replace tb := tb.step hs
            refine ⟨fun x => Stp I29520 w29620 I29520 x ∧ OwnK [(g29491, [(.bool x29482.Num.Neg), v29487, (.bool x29482.Den.Neg), v29489], 26), (g29503, [(.bool x29494.Num.Neg), v29499, (.bool x29494.Den.Neg), v29501], 26), (g29513, [(.bool x29506.Neg), v29511], 24), (g29523, [(.bool x29516.Neg), v29521], 24)] x, ⟨Stp.refl _ _, (OwnK.cons (hp.own 3 _ _ _ rfl).1 (OwnK.cons (hp.own 2 _ _ _ rfl).1 (OwnK.cons (hp.own 1 _ _ _ rfl).1 (OwnK.cons (hp.own 0 _ _ _ rfl).1 OwnK.nil))))⟩, fun x hx => ⟨hz.held hx.1, hx.2⟩, ?_⟩
            have hz := Stp.refl I29520 w29620
            refine vch_qt e15 rfl e8 rfl rfl rfl ?_
            refine vch_q e16 rfl ?_
            refine vch_q e17 rfl ?_
            rcases Bool.eq_false_or_eq_true (x29615 == x29618) with hc | hc
            ·
              have q29584 := cond_t q29584 hc
              refine vch_qt e18 rfl e17 rfl rfl hc ?_
              refine evh (fun w' hw => rn_load rfl rfl (run_loadVarA T26 rfl (a29404.step hw.1))) ?_
              refine vch_qt e20 rfl e17 rfl rfl rfl ?_
              refine evh (fun w' hw => rn_load rfl rfl (run_loadVarA T26 rfl (a29404.step hw.1))) ?_
              refine vch_lt e19 rfl e17 rfl rfl rfl ?_
              obtain ⟨x29621, q29622, q29584⟩ := bind_some q29584
              refine ev_call rfl rfl C18 (((rational_Floor_ok n) _ _  (Rational.mk (Int_2.mk x29390.Num.Neg x29436) (Int_2.mk x29390.Den.Neg x29439)) v29437 r29438 v29440 r29441 hp.imm _ q29622).mono ?_)
              rintro _ w29623 ⟨I29624, v29625, hv, hq, r29626⟩
              replace hv := hv.symm
              subst hv
              have hs := hq.st
              have hp := hp.join0 hq
              replace hz := hz.trans hs
              replace r29438 := r29438.step hs
              replace r29441 := r29441.step hs
              replace r29522 := r29522.step hs
              replace r29512 := r29512.step hs
              replace r29500 := r29500.step hs
              replace r29502 := r29502.step hs
              replace r29488 := r29488.step hs
              replace r29490 := r29490.step hs
              replace tb := tb.step hs
              refine ⟨fun x => Stp I29624 w29623 I29624 x ∧ OwnK [(g29491, [(.bool x29482.Num.Neg), v29487, (.bool x29482.Den.Neg), v29489], 26), (g29503, [(.bool x29494.Num.Neg), v29499, (.bool x29494.Den.Neg), v29501], 26), (g29513, [(.bool x29506.Neg), v29511], 24), (g29523, [(.bool x29516.Neg), v29521], 24)] x, ⟨Stp.refl _ _, (OwnK.cons (hp.own 3 _ _ _ rfl).1 (OwnK.cons (hp.own 2 _ _ _ rfl).1 (OwnK.cons (hp.own 1 _ _ _ rfl).1 (OwnK.cons (hp.own 0 _ _ _ rfl).1 OwnK.nil))))⟩, fun x hx => ⟨hz.held hx.1, hx.2⟩, ?_⟩
              have hz := Stp.refl I29624 w29623
              refine vch_lt e21 rfl e17 rfl rfl rfl ?_
              obtain ⟨x29627, q29628, q29584⟩ := bind_some q29584
              refine ev_call rfl rfl C19 (((ref02_Floor_ok n) _ _  (Rational.mk (Int_2.mk x29390.Num.Neg x29436) (Int_2.mk x29390.Den.Neg x29439)) v29437 r29438 v29440 r29441 hp.imm _ q29628).mono ?_)
              rintro _ w29629 ⟨I29630, v29631, hv, hq, r29632⟩
              replace hv := hv.symm
              subst hv
              have hs := hq.st
              have hp := hp.join0 hq
              replace hz := hz.trans hs
              replace r29626 := r29626.step hs
              replace r29522 := r29522.step hs
              replace r29512 := r29512.step hs
              replace r29500 := r29500.step hs
              replace r29502 := r29502.step hs
              replace r29488 := r29488.step hs
              replace r29490 := r29490.step hs
              replace tb := tb.step hs
              refine ⟨fun x => Stp I29630 w29629 I29630 x ∧ OwnK [(g29491, [(.bool x29482.Num.Neg), v29487, (.bool x29482.Den.Neg), v29489], 26), (g29503, [(.bool x29494.Num.Neg), v29499, (.bool x29494.Den.Neg), v29501], 26), (g29513, [(.bool x29506.Neg), v29511], 24), (g29523, [(.bool x29516.Neg), v29521], 24)] x, ⟨Stp.refl _ _, (OwnK.cons (hp.own 3 _ _ _ rfl).1 (OwnK.cons (hp.own 2 _ _ _ rfl).1 (OwnK.cons (hp.own 1 _ _ _ rfl).1 (OwnK.cons (hp.own 0 _ _ _ rfl).1 OwnK.nil))))⟩, fun x hx => ⟨hz.held hx.1, hx.2⟩, ?_⟩
              have hz := Stp.refl I29630 w29629
              refine vch_lt e22 rfl e17 rfl rfl rfl ?_
              obtain ⟨x29633, q29634, q29584⟩ := bind_some q29584
              refine ev_call rfl rfl C17 (((base_Int_ok n) _ _  x29621 v29625 r29626 x29627 v29631 r29632 hp.imm _ q29634).mono ?_)
              rintro _ w29635 ⟨rfl, hc⟩
              have hs := hp.stp hc
              replace hp := hp.ext hc
              replace hz := hz.trans hs
              replace r29522 := r29522.step hs
              replace r29512 := r29512.step hs
              replace r29500 := r29500.step hs
              replace r29502 := r29502.step hs
              replace r29488 := r29488.step hs
              replace r29490 := r29490.step hs
              replace tb := tb.step hs
              refine ⟨fun x => Stp I29630 w29635 I29630 x ∧ OwnK [(g29491, [(.bool x29482.Num.Neg), v29487, (.bool x29482.Den.Neg), v29489], 26), (g29503, [(.bool x29494.Num.Neg), v29499, (.bool x29494.Den.Neg), v29501], 26), (g29513, [(.bool x29506.Neg), v29511], 24), (g29523, [(.bool x29516.Neg), v29521], 24)] x, ⟨Stp.refl _ _, (OwnK.cons (hp.own 3 _ _ _ rfl).1 (OwnK.cons (hp.own 2 _ _ _ rfl).1 (OwnK.cons (hp.own 1 _ _ _ rfl).1 (OwnK.cons (hp.own 0 _ _ _ rfl).1 OwnK.nil))))⟩, fun x hx => ⟨hz.held hx.1, hx.2⟩, ?_⟩
              have hz := Stp.refl I29630 w29635
              refine vch_q e23 rfl ?_
              refine vch_q e24 rfl ?_
              rcases Bool.eq_false_or_eq_true x29633 with hc | hc
              ·
                have q29584 := cond_t q29584 hc
                refine vch_qt e25 rfl e24 rfl rfl hc ?_
                refine evh (fun w' hw => rn_load rfl rfl (run_loadVarA T24 rfl (hw.2.at_ (i := 2) rfl))) ?_
                refine vch_qt e26 rfl e24 rfl rfl rfl ?_
                refine evh (fun w' hw => rn_load rfl rfl (run_loadVarA T24 rfl (hw.2.at_ (i := 3) rfl))) ?_
                refine vch_lt e27 rfl e24 rfl rfl rfl ?_
                obtain ⟨x29636, q29637, q29584⟩ := bind_some q29584
                refine ev_call rfl rfl C17 (((base_Int_ok n) _ _  (Int_2.mk x29506.Neg x29506.Mag) v29511 r29512 (Int_2.mk x29516.Neg x29516.Mag) v29521 r29522 hp.imm _ q29637).mono ?_)
                rintro _ w29638 ⟨rfl, hc⟩
                have hs := hp.stp hc
                replace hp := hp.ext hc
                replace hz := hz.trans hs
                replace r29522 := r29522.step hs
                replace r29512 := r29512.step hs
                replace r29500 := r29500.step hs
                replace r29502 := r29502.step hs
                replace r29488 := r29488.step hs
                replace r29490 := r29490.step hs
                replace tb := tb.step hs
                refine ⟨fun x => Stp I29630 w29638 I29630 x ∧ OwnK [(g29491, [(.bool x29482.Num.Neg), v29487, (.bool x29482.Den.Neg), v29489], 26), (g29503, [(.bool x29494.Num.Neg), v29499, (.bool x29494.Den.Neg), v29501], 26), (g29513, [(.bool x29506.Neg), v29511], 24), (g29523, [(.bool x29516.Neg), v29521], 24)] x, ⟨Stp.refl _ _, (OwnK.cons (hp.own 3 _ _ _ rfl).1 (OwnK.cons (hp.own 2 _ _ _ rfl).1 (OwnK.cons (hp.own 1 _ _ _ rfl).1 (OwnK.cons (hp.own 0 _ _ _ rfl).1 OwnK.nil))))⟩, fun x hx => ⟨hz.held hx.1, hx.2⟩, ?_⟩
                have hz := Stp.refl I29630 w29638
                refine vch_q e28 rfl ?_
                refine vch_q e29 rfl ?_
                rcases Bool.eq_false_or_eq_true x29636 with hc | hc
                ·
                  have q29584 := cond_t q29584 hc
                  refine vch_qt e30 rfl e29 rfl rfl hc ?_
                  refine vch_qt e31 rfl e29 rfl rfl rfl ?_
                  refine vch_qt e32 rfl e29 rfl rfl rfl ?_
                  refine evh0 (rn_eqB rfl rfl rfl Tryz.underlying4) ?_
                  refine vch_q e33 rfl ?_
                  refine vch_q e34 rfl ?_
                  refine vch_end ?_
                  obtain rfl := Option.some.inj q29584
                  have hp := hp.sel [] (by decide)
                  exact ⟨((x29507 == x29517), I29630), (.c rfl .n), rfl, hp, tb⟩
                ·
                  have q29584 := cond_f q29584 hc
                  refine vch_qf e30 rfl e29 rfl rfl hc ?_
                  refine vch_qf e31 rfl e29 rfl rfl rfl ?_
                  refine vch_qf e32 rfl e29 rfl rfl rfl ?_
                  refine vch_q e33 rfl ?_
                  refine vch_q e34 rfl ?_
                  refine vch_end ?_
                  obtain rfl := Option.some.inj q29584
                  have hp := hp.sel [] (by decide)
                  exact ⟨(false, I29630), (.c rfl .n), rfl, hp, tb⟩
              ·
                have q29584 := cond_f q29584 hc
                refine vch_qf e25 rfl e24 rfl rfl hc ?_
                refine vch_qf e26 rfl e24 rfl rfl rfl ?_
                refine vch_lf e27 rfl e24 rfl rfl rfl ?_
                refine ⟨fun x => Stp I29630 w29635 I29630 x ∧ OwnK [(g29491, [(.bool x29482.Num.Neg), v29487, (.bool x29482.Den.Neg), v29489], 26), (g29503, [(.bool x29494.Num.Neg), v29499, (.bool x29494.Den.Neg), v29501], 26), (g29513, [(.bool x29506.Neg), v29511], 24), (g29523, [(.bool x29516.Neg), v29521], 24)] x, ⟨Stp.refl _ _, (OwnK.cons (hp.own 3 _ _ _ rfl).1 (OwnK.cons (hp.own 2 _ _ _ rfl).1 (OwnK.cons (hp.own 1 _ _ _ rfl).1 (OwnK.cons (hp.own 0 _ _ _ rfl).1 OwnK.nil))))⟩, fun x hx => ⟨hz.held hx.1, hx.2⟩, ?_⟩
                have hz := Stp.refl I29630 w29635
                refine vch_q e28 rfl ?_
                refine vch_q e29 rfl ?_
                refine vch_qf e30 rfl e29 rfl rfl rfl ?_
                refine vch_qf e31 rfl e29 rfl rfl rfl ?_
                refine vch_qf e32 rfl e29 rfl rfl rfl ?_
                refine vch_q e33 rfl ?_
                refine vch_q e34 rfl ?_
                refine vch_end ?_
                obtain rfl := Option.some.inj q29584
                have hp := hp.sel [] (by decide)
                exact ⟨(false, I29630), (.c rfl .n), rfl, hp, tb⟩
            ·
              have q29584 := cond_f q29584 hc
              refine vch_qf e18 rfl e17 rfl rfl hc ?_
              refine vch_qf e20 rfl e17 rfl rfl rfl ?_
              refine vch_lf e19 rfl e17 rfl rfl rfl ?_
              refine ⟨fun x => Stp I29520 w29620 I29520 x ∧ OwnK [(g29491, [(.bool x29482.Num.Neg), v29487, (.bool x29482.Den.Neg), v29489], 26), (g29503, [(.bool x29494.Num.Neg), v29499, (.bool x29494.Den.Neg), v29501], 26), (g29513, [(.bool x29506.Neg), v29511], 24), (g29523, [(.bool x29516.Neg), v29521], 24)] x, ⟨Stp.refl _ _, (OwnK.cons (hp.own 3 _ _ _ rfl).1 (OwnK.cons (hp.own 2 _ _ _ rfl).1 (OwnK.cons (hp.own 1 _ _ _ rfl).1 (OwnK.cons (hp.own 0 _ _ _ rfl).1 OwnK.nil))))⟩, fun x hx => ⟨hz.held hx.1, hx.2⟩, ?_⟩
              have hz := Stp.refl I29520 w29620
              refine vch_lf e21 rfl e17 rfl rfl rfl ?_
              refine ⟨fun x => Stp I29520 w29620 I29520 x ∧ OwnK [(g29491, [(.bool x29482.Num.Neg), v29487, (.bool x29482.Den.Neg), v29489], 26), (g29503, [(.bool x29494.Num.Neg), v29499, (.bool x29494.Den.Neg), v29501], 26), (g29513, [(.bool x29506.Neg), v29511], 24), (g29523, [(.bool x29516.Neg), v29521], 24)] x, ⟨Stp.refl _ _, (OwnK.cons (hp.own 3 _ _ _ rfl).1 (OwnK.cons (hp.own 2 _ _ _ rfl).1 (OwnK.cons (hp.own 1 _ _ _ rfl).1 (OwnK.cons (hp.own 0 _ _ _ rfl).1 OwnK.nil))))⟩, fun x hx => ⟨hz.held hx.1, hx.2⟩, ?_⟩
              have hz := Stp.refl I29520 w29620
              refine vch_lf e22 rfl e17 rfl rfl rfl ?_
              refine ⟨fun x => Stp I29520 w29620 I29520 x ∧ OwnK [(g29491, [(.bool x29482.Num.Neg), v29487, (.bool x29482.Den.Neg), v29489], 26), (g29503, [(.bool x29494.Num.Neg), v29499, (.bool x29494.Den.Neg), v29501], 26), (g29513, [(.bool x29506.Neg), v29511], 24), (g29523, [(.bool x29516.Neg), v29521], 24)] x, ⟨Stp.refl _ _, (OwnK.cons (hp.own 3 _ _ _ rfl).1 (OwnK.cons (hp.own 2 _ _ _ rfl).1 (OwnK.cons (hp.own 1 _ _ _ rfl).1 (OwnK.cons (hp.own 0 _ _ _ rfl).1 OwnK.nil))))⟩, fun x hx => ⟨hz.held hx.1, hx.2⟩, ?_⟩
              have hz := Stp.refl I29520 w29620
              refine vch_q e23 rfl ?_
              refine vch_q e24 rfl ?_
              refine vch_qf e25 rfl e24 rfl rfl rfl ?_
              refine vch_qf e26 rfl e24 rfl rfl rfl ?_
              refine vch_lf e27 rfl e24 rfl rfl rfl ?_
              refine ⟨fun x => Stp I29520 w29620 I29520 x ∧ OwnK [(g29491, [(.bool x29482.Num.Neg), v29487, (.bool x29482.Den.Neg), v29489], 26), (g29503, [(.bool x29494.Num.Neg), v29499, (.bool x29494.Den.Neg), v29501], 26), (g29513, [(.bool x29506.Neg), v29511], 24), (g29523, [(.bool x29516.Neg), v29521], 24)] x, ⟨Stp.refl _ _, (OwnK.cons (hp.own 3 _ _ _ rfl).1 (OwnK.cons (hp.own 2 _ _ _ rfl).1 (OwnK.cons (hp.own 1 _ _ _ rfl).1 (OwnK.cons (hp.own 0 _ _ _ rfl).1 OwnK.nil))))⟩, fun x hx => ⟨hz.held hx.1, hx.2⟩, ?_⟩
              have hz := Stp.refl I29520 w29620
              refine vch_q e28 rfl ?_
              refine vch_q e29 rfl ?_
              refine vch_qf e30 rfl e29 rfl rfl rfl ?_
              refine vch_qf e31 rfl e29 rfl rfl rfl ?_
              refine vch_qf e32 rfl e29 rfl rfl rfl ?_
              refine vch_q e33 rfl ?_
              refine vch_q e34 rfl ?_
              refine vch_end ?_
              obtain rfl := Option.some.inj q29584
              have hp := hp.sel [] (by decide)
              exact ⟨(false, I29520), (.c rfl .n), rfl, hp, tb⟩
          ·
            have q29584 := cond_f q29584 hc
            refine vch_qf e9 rfl e8 rfl rfl hc ?_
            refine vch_qf e10 rfl e8 rfl rfl rfl ?_
            refine vch_qf e12 rfl e8 rfl rfl rfl ?_
            refine vch_qf e13 rfl e8 rfl rfl rfl ?_
            refine vch_lf e11 rfl e8 rfl rfl rfl ?_
            refine ⟨fun x => Stp I29520 w29614 I29520 x ∧ OwnK [(g29491, [(.bool x29482.Num.Neg), v29487, (.bool x29482.Den.Neg), v29489], 26), (g29503, [(.bool x29494.Num.Neg), v29499, (.bool x29494.Den.Neg), v29501], 26), (g29513, [(.bool x29506.Neg), v29511], 24), (g29523, [(.bool x29516.Neg), v29521], 24)] x, ⟨Stp.refl _ _, (OwnK.cons (hp.own 3 _ _ _ rfl).1 (OwnK.cons (hp.own 2 _ _ _ rfl).1 (OwnK.cons (hp.own 1 _ _ _ rfl).1 (OwnK.cons (hp.own 0 _ _ _ rfl).1 OwnK.nil))))⟩, fun x hx => ⟨hz.held hx.1, hx.2⟩, ?_⟩
            have hz := Stp.refl I29520 w29614
            refine vch_lf e14 rfl e8 rfl rfl rfl ?_
            refine ⟨fun x => Stp I29520 w29614 I29520 x ∧ OwnK [(g29491, [(.bool x29482.Num.Neg), v29487, (.bool x29482.Den.Neg), v29489], 26), (g29503, [(.bool x29494.Num.Neg), v29499, (.bool x29494.Den.Neg), v29501], 26), (g29513, [(.bool x29506.Neg), v29511], 24), (g29523, [(.bool x29516.Neg), v29521], 24)] x, ⟨Stp.refl _ _, (OwnK.cons (hp.own 3 _ _ _ rfl).1 (OwnK.cons (hp.own 2 _ _ _ rfl).1 (OwnK.cons (hp.own 1 _ _ _ rfl).1 (OwnK.cons (hp.own 0 _ _ _ rfl).1 OwnK.nil))))⟩, fun x hx => ⟨hz.held hx.1, hx.2⟩, ?_⟩
            have hz := Stp.refl I29520 w29614
            refine vch_qf e15 rfl e8 rfl rfl rfl ?_
            refine vch_q e16 rfl ?_
            refine vch_q e17 rfl ?_
            refine vch_qf e18 rfl e17 rfl rfl rfl ?_
            refine vch_qf e20 rfl e17 rfl rfl rfl ?_
            refine vch_lf e19 rfl e17 rfl rfl rfl ?_
            refine ⟨fun x => Stp I29520 w29614 I29520 x ∧ OwnK [(g29491, [(.bool x29482.Num.Neg), v29487, (.bool x29482.Den.Neg), v29489], 26), (g29503, [(.bool x29494.Num.Neg), v29499, (.bool x29494.Den.Neg), v29501], 26), (g29513, [(.bool x29506.Neg), v29511], 24), (g29523, [(.bool x29516.Neg), v29521], 24)] x, ⟨Stp.refl _ _, (OwnK.cons (hp.own 3 _ _ _ rfl).1 (OwnK.cons (hp.own 2 _ _ _ rfl).1 (OwnK.cons (hp.own 1 _ _ _ rfl).1 (OwnK.cons (hp.own 0 _ _ _ rfl).1 OwnK.nil))))⟩, fun x hx => ⟨hz.held hx.1, hx.2⟩, ?_⟩
            have hz := Stp.refl I29520 w29614
            refine vch_lf e21 rfl e17 rfl rfl rfl ?_
            refine ⟨fun x => Stp I29520 w29614 I29520 x ∧ OwnK [(g29491, [(.bool x29482.Num.Neg), v29487, (.bool x29482.Den.Neg), v29489], 26), (g29503, [(.bool x29494.Num.Neg), v29499, (.bool x29494.Den.Neg), v29501], 26), (g29513, [(.bool x29506.Neg), v29511], 24), (g29523, [(.bool x29516.Neg), v29521], 24)] x, ⟨Stp.refl _ _, (OwnK.cons (hp.own 3 _ _ _ rfl).1 (OwnK.cons (hp.own 2 _ _ _ rfl).1 (OwnK.cons (hp.own 1 _ _ _ rfl).1 (OwnK.cons (hp.own 0 _ _ _ rfl).1 OwnK.nil))))⟩, fun x hx => ⟨hz.held hx.1, hx.2⟩, ?_⟩
            have hz := Stp.refl I29520 w29614
            refine vch_lf e22 rfl e17 rfl rfl rfl ?_
            refine ⟨fun x => Stp I29520 w29614 I29520 x ∧ OwnK [(g29491, [(.bool x29482.Num.Neg), v29487, (.bool x29482.Den.Neg), v29489], 26), (g29503, [(.bool x29494.Num.Neg), v29499, (.bool x29494.Den.Neg), v29501], 26), (g29513, [(.bool x29506.Neg), v29511], 24), (g29523, [(.bool x29516.Neg), v29521], 24)] x, ⟨Stp.refl _ _, (OwnK.cons (hp.own 3 _ _ _ rfl).1 (OwnK.cons (hp.own 2 _ _ _ rfl).1 (OwnK.cons (hp.own 1 _ _ _ rfl).1 (OwnK.cons (hp.own 0 _ _ _ rfl).1 OwnK.nil))))⟩, fun x hx => ⟨hz.held hx.1, hx.2⟩, ?_⟩
            have hz := Stp.refl I29520 w29614
            refine vch_q e23 rfl ?_
            refine vch_q e24 rfl ?_
            refine vch_qf e25 rfl e24 rfl rfl rfl ?_
            refine vch_qf e26 rfl e24 rfl rfl rfl ?_
            refine vch_lf e27 rfl e24 rfl rfl rfl ?_
            refine ⟨fun x => Stp I29520 w29614 I29520 x ∧ OwnK [(g29491, [(.bool x29482.Num.Neg), v29487, (.bool x29482.Den.Neg), v29489], 26), (g29503, [(.bool x29494.Num.Neg), v29499, (.bool x29494.Den.Neg), v29501], 26), (g29513, [(.bool x29506.Neg), v29511], 24), (g29523, [(.bool x29516.Neg), v29521], 24)] x, ⟨Stp.refl _ _, (OwnK.cons (hp.own 3 _ _ _ rfl).1 (OwnK.cons (hp.own 2 _ _ _ rfl).1 (OwnK.cons (hp.own 1 _ _ _ rfl).1 (OwnK.cons (hp.own 0 _ _ _ rfl).1 OwnK.nil))))⟩, fun x hx => ⟨hz.held hx.1, hx.2⟩, ?_⟩
            have hz := Stp.refl I29520 w29614
            refine vch_q e28 rfl ?_
            refine vch_q e29 rfl ?_
            refine vch_qf e30 rfl e29 rfl rfl rfl ?_
            refine vch_qf e31 rfl e29 rfl rfl rfl ?_
            refine vch_qf e32 rfl e29 rfl rfl rfl ?_
            refine vch_q e33 rfl ?_
            refine vch_q e34 rfl ?_
            refine vch_end ?_
            obtain rfl := Option.some.inj q29584
            have hp := hp.sel [] (by decide)
            exact ⟨(false, I29520), (.c rfl .n), rfl, hp, tb⟩
        ·
          have q29584 := cond_f q29584 hc
          refine vch_qf e4 rfl e3 rfl rfl hc ?_
          refine vch_qf e5 rfl e3 rfl rfl rfl ?_
          refine vch_lf e6 rfl e3 rfl rfl rfl ?_
          refine ⟨fun x => Stp I29520 w29525.drew I29520 x ∧ OwnK [(g29491, [(.bool x29482.Num.Neg), v29487, (.bool x29482.Den.Neg), v29489], 26), (g29503, [(.bool x29494.Num.Neg), v29499, (.bool x29494.Den.Neg), v29501], 26), (g29513, [(.bool x29506.Neg), v29511], 24), (g29523, [(.bool x29516.Neg), v29521], 24)] x, ⟨Stp.refl _ _, (OwnK.cons (hp.own 3 _ _ _ rfl).1 (OwnK.cons (hp.own 2 _ _ _ rfl).1 (OwnK.cons (hp.own 1 _ _ _ rfl).1 (OwnK.cons (hp.own 0 _ _ _ rfl).1 OwnK.nil))))⟩, fun x hx => ⟨hz.held hx.1, hx.2⟩, ?_⟩
          have hz := Stp.refl I29520 w29525.drew
          refine vch_q e7 rfl ?_
          refine vch_q e8 rfl ?_
          refine vch_qf e9 rfl e8 rfl rfl rfl ?_
          refine vch_qf e10 rfl e8 rfl rfl rfl ?_
          refine vch_qf e12 rfl e8 rfl rfl rfl ?_
          refine vch_qf e13 rfl e8 rfl rfl rfl ?_
          refine vch_lf e11 rfl e8 rfl rfl rfl ?_
          refine ⟨fun x => Stp I29520 w29525.drew I29520 x ∧ OwnK [(g29491, [(.bool x29482.Num.Neg), v29487, (.bool x29482.Den.Neg), v29489], 26), (g29503, [(.bool x29494.Num.Neg), v29499, (.bool x29494.Den.Neg), v29501], 26), (g29513, [(.bool x29506.Neg), v29511], 24), (g29523, [(.bool x29516.Neg), v29521], 24)] x, ⟨Stp.refl _ _, (OwnK.cons (hp.own 3 _ _ _ rfl).1 (OwnK.cons (hp.own 2 _ _ _ rfl).1 (OwnK.cons (hp.own 1 _ _ _ rfl).1 (OwnK.cons (hp.own 0 _ _ _ rfl).1 OwnK.nil))))⟩, fun x hx => ⟨hz.held hx.1, hx.2⟩, ?_⟩
          have hz := Stp.refl I29520 w29525.drew
          refine vch_lf e14 rfl e8 rfl rfl rfl ?_
          refine ⟨fun x => Stp I29520 w29525.drew I29520 x ∧ OwnK [(g29491, [(.bool x29482.Num.Neg), v29487, (.bool x29482.Den.Neg), v29489], 26), (g29503, [(.bool x29494.Num.Neg), v29499, (.bool x29494.Den.Neg), v29501], 26), (g29513, [(.bool x29506.Neg), v29511], 24), (g29523, [(.bool x29516.Neg), v29521], 24)] x, ⟨Stp.refl _ _, (OwnK.cons (hp.own 3 _ _ _ rfl).1 (OwnK.cons (hp.own 2 _ _ _ rfl).1 (OwnK.cons (hp.own 1 _ _ _ rfl).1 (OwnK.cons (hp.own 0 _ _ _ rfl).1 OwnK.nil))))⟩, fun x hx => ⟨hz.held hx.1, hx.2⟩, ?_⟩
          have hz := Stp.refl I29520 w29525.drew
          refine vch_qf e15 rfl e8 rfl rfl rfl ?_
          refine vch_q e16 rfl ?_
          refine vch_q e17 rfl ?_
          refine vch_qf e18 rfl e17 rfl rfl rfl ?_
          refine vch_qf e20 rfl e17 rfl rfl rfl ?_
          refine vch_lf e19 rfl e17 rfl rfl rfl ?_
          refine ⟨fun x => Stp I29520 w29525.drew I29520 x ∧ OwnK [(g29491, [(.bool x29482.Num.Neg), v29487, (.bool x29482.Den.Neg), v29489], 26), (g29503, [(.bool x29494.Num.Neg), v29499, (.bool x29494.Den.Neg), v29501], 26), (g29513, [(.bool x29506.Neg), v29511], 24), (g29523, [(.bool x29516.Neg), v29521], 24)] x, ⟨Stp.refl _ _, (OwnK.cons (hp.own 3 _ _ _ rfl).1 (OwnK.cons (hp.own 2 _ _ _ rfl).1 (OwnK.cons (hp.own 1 _ _ _ rfl).1 (OwnK.cons (hp.own 0 _ _ _ rfl).1 OwnK.nil))))⟩, fun x hx => ⟨hz.held hx.1, hx.2⟩, ?_⟩
          have hz := Stp.refl I29520 w29525.drew
          refine vch_lf e21 rfl e17 rfl rfl rfl ?_
          refine ⟨fun x => Stp I29520 w29525.drew I29520 x ∧ OwnK [(g29491, [(.bool x29482.Num.Neg), v29487, (.bool x29482.Den.Neg), v29489], 26), (g29503, [(.bool x29494.Num.Neg), v29499, (.bool x29494.Den.Neg), v29501], 26), (g29513, [(.bool x29506.Neg), v29511], 24), (g29523, [(.bool x29516.Neg), v29521], 24)] x, ⟨Stp.refl _ _, (OwnK.cons (hp.own 3 _ _ _ rfl).1 (OwnK.cons (hp.own 2 _ _ _ rfl).1 (OwnK.cons (hp.own 1 _ _ _ rfl).1 (OwnK.cons (hp.own 0 _ _ _ rfl).1 OwnK.nil))))⟩, fun x hx => ⟨hz.held hx.1, hx.2⟩, ?_⟩
          have hz := Stp.refl I29520 w29525.drew
          refine vch_lf e22 rfl e17 rfl rfl rfl ?_
          refine ⟨fun x => Stp I29520 w29525.drew I29520 x ∧ OwnK [(g29491, [(.bool x29482.Num.Neg), v29487, (.bool x29482.Den.Neg), v29489], 26), (g29503, [(.bool x29494.Num.Neg), v29499, (.bool x29494.Den.Neg), v29501], 26), (g29513, [(.bool x29506.Neg), v29511], 24), (g29523, [(.bool x29516.Neg), v29521], 24)] x, ⟨Stp.refl _ _, (OwnK.cons (hp.own 3 _ _ _ rfl).1 (OwnK.cons (hp.own 2 _ _ _ rfl).1 (OwnK.cons (hp.own 1 _ _ _ rfl).1 (OwnK.cons (hp.own 0 _ _ _ rfl).1 OwnK.nil))))⟩, fun x hx => ⟨hz.held hx.1, hx.2⟩, ?_⟩
          have hz := Stp.refl I29520 w29525.drew
          refine vch_q e23 rfl ?_
          refine vch_q e24 rfl ?_
          refine vch_qf e25 rfl e24 rfl rfl rfl ?_
          refine vch_qf e26 rfl e24 rfl rfl rfl ?_
          refine vch_lf e27 rfl e24 rfl rfl rfl ?_
          refine ⟨fun x => Stp I29520 w29525.drew I29520 x ∧ OwnK [(g29491, [(.bool x29482.Num.Neg), v29487, (.bool x29482.Den.Neg), v29489], 26), (g29503, [(.bool x29494.Num.Neg), v29499, (.bool x29494.Den.Neg), v29501], 26), (g29513, [(.bool x29506.Neg), v29511], 24), (g29523, [(.bool x29516.Neg), v29521], 24)] x, ⟨Stp.refl _ _, (OwnK.cons (hp.own 3 _ _ _ rfl).1 (OwnK.cons (hp.own 2 _ _ _ rfl).1 (OwnK.cons (hp.own 1 _ _ _ rfl).1 (OwnK.cons (hp.own 0 _ _ _ rfl).1 OwnK.nil))))⟩, fun x hx => ⟨hz.held hx.1, hx.2⟩, ?_⟩
          have hz := Stp.refl I29520 w29525.drew
          refine vch_q e28 rfl ?_
          refine vch_q e29 rfl ?_
          refine vch_qf e30 rfl e29 rfl rfl rfl ?_
          refine vch_qf e31 rfl e29 rfl rfl rfl ?_
          refine vch_qf e32 rfl e29 rfl rfl rfl ?_
          refine vch_q e33 rfl ?_
          refine vch_q e34 rfl ?_
          refine vch_end ?_
          obtain rfl := Option.some.inj q29584
          have hp := hp.sel [] (by decide)
          exact ⟨(false, I29520), (.c rfl .n), rfl, hp, tb⟩
      ·
        rintro ⟨x29580, I29581⟩ w29582 ⟨hy, hp, tb⟩
        replace hy := hy.symm
        subst hy
        apply go
        obtain rfl := Option.some.inj h
        exact ⟨rfl, hp.ch⟩

end Go.Proofs.YtepadjfmcbjkmaaGreatDoor
