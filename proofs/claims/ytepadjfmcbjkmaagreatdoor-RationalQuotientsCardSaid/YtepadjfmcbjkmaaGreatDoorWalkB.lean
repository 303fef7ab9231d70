/-
  Each function of the program computes the plain function of its name.
-/
import Derived.Test.YtepadjfmcbjkmaaGreatDoorFactsA
import Derived.Test.YtepadjfmcbjkmaaGreatDoorWalkA
import Derived.Test.YtepadjfmcbjkmaaGreatDoorCoreA
namespace Go.Proofs.YtepadjfmcbjkmaaGreatDoor
open Go Go.Proofs.YtepadjfmcbjkmaaGreatDoor.Gw Go.RowKit
set_option linter.unusedVariables false
attribute [local irreducible] Ev EvQ EvS EvH
def integer_Text_S (f : Int_2 → Option ByteArray) : Prop := ∀ (w0 : World) (I0 : Nat → Prop) (tb : Tb w0 I0 4 .u64 pow10) (x18503 : Int_2) (v18504 : Value) (r18505 : RepS (dI .u32) w0 I0 v18504 x18503.Mag) (hI : ∀ g, I0 g → g < w0.heap.size) (r : ByteArray), f x18503 = some r →
    Ret Tryz.prog 69 #[(.agg #[(.bool x18503.Neg), v18504])] w0 fun v w1 => v = (.string r) ∧ Ch [] w0 w1
theorem integer_Text_ok (n : Nat) : integer_Text_S (integer_Text n) := by
  intro w0 I0 tb x18503 v18504 r18505 hI r h
  unfold integer_Text at h
  refine enter Tryz.func69 rfl (Nat.le_of_ble_eq_true rfl) ?_
  have hp : Hp ⟨w0, I0, []⟩ I0 [] w0 := Hp.start hI
  apply go
  apply go
  refine ev_boxI hp rfl rfl ?_
  intro p18508 I18509 w18507 hp hs a18510
  replace r18505 := r18505.step hs
  replace tb := tb.step hs
  apply go
  apply go
  refine ev0 (rn_field rfl rfl FO24_1) ?_
  refine ev (rn_load rfl rfl (run_loadVar1 T22 (a18510.2 1 _ rfl))) ?_
  obtain ⟨x18511, q18512, h⟩ := bind_some h
  refine ev_call rfl rfl C72 (((integer_trim_ok n) _ _  x18503.Mag v18504 r18505 hp.imm _ q18512).mono ?_)
  rintro _ w18513 ⟨I18514, v18515, hv, hq, r18516⟩
  replace hv := hv.symm
  subst hv
  have hs := hq.st
  have hp := hp.join0 hq
  replace a18510 := a18510.step hs
  replace r18505 := r18505.step hs
  replace tb := tb.step hs
  obtain ⟨x18517, q18518, h⟩ := bind_some h
  refine ev_call rfl rfl C88 (((slices_Cloneuint32_uint32__ok n) _ _  x18511 v18515 r18516 hp.imm _ q18518).mono ?_)
  rintro _ w18519 ⟨I18520, v18521, hv, hq, r18522⟩
  replace hv := hv.symm
  subst hv
  have hs := hq.st
  have hp := hp.join0 hq
  replace a18510 := a18510.step hs
  replace r18505 := r18505.step hs
  replace tb := tb.step hs
  apply go
  apply go
  apply go
  refine ev0 (rn_len rfl rfl Tryz.underlying22 r18522) ?_
  apply go
  refine sel_of (fun hc => ?_) (fun hc => ?_)
  ·
    have h := cond_t h hc
    apply go
    apply go
    apply go
    obtain rfl := Option.some.inj h
    exact ⟨rfl, hp.ch⟩
  ·
    have h := cond_f h hc
    apply go
    apply go
    apply go
    obtain ⟨y18666, q18667, h⟩ := bind_some h
    refine W.cut (γ := ((List ByteArray) × Value × Ent × (Nat → Prop))) (fun g => [(1, (.pointer (some (p18508)))), (4, (g.2.1))]) (fun g w' => y18666 = (g.1) ∧ Hp ⟨w0, I0, []⟩ (g.2.2.2) [(g.2.2.1)] w' ∧ RepS (dI .u32) w' (g.2.2.2) v18504 x18503.Mag ∧ At w' (g.2.2.2) p18508 [(.bool x18503.Neg), v18504] ∧ OwnS dS 9 w' (g.2.2.2) (g.2.1) (g.2.2.1) (g.1) ∧ Tb w' (g.2.2.2) 4 .u64 pow10) ?_ ?_
    ·
      apply go
      have hp := hp.none_
      have o18762 := OwnS.nil dS 9 w18519 I18520
      refine W.loop q18667 (γ := (Value × Value × Ent × (Nat → Prop))) (fun s g => [(1, (.pointer (some (p18508)))), (3, (g.1)), (4, (g.2.1))]) (fun s g w' => Hp ⟨w0, I0, []⟩ (g.2.2.2) [(g.2.2.1)] w' ∧ RepS (dI .u32) w' (g.2.2.2) v18504 x18503.Mag ∧ At w' (g.2.2.2) p18508 [(.bool x18503.Neg), v18504] ∧ RepS (dI .u32) w' (g.2.2.2) (g.1) (s.1) ∧ OwnS dS 9 w' (g.2.2.2) (g.2.1) (g.2.2.1) (s.2) ∧ Tb w' (g.2.2.2) 4 .u64 pow10) (v18521, (.slice none 0 0), none, I18520) (.c rfl (.c rfl (.c rfl .n))) ⟨hp, r18505, a18510, r18522, o18762, tb⟩ ?_
      rintro ⟨x18707, x18710⟩ ⟨v18708, v18711, e18712, I18714⟩ w18761 y18763 ⟨hp, r18505, a18510, r18709, o18713, tb⟩ q18764 q18765
      unfold integer_Text_L1 at q18764
      apply go
      apply go
      apply go
      refine ev0 (rn_len rfl rfl Tryz.underlying22 r18709) ?_
      apply go
      refine sel_of (fun hc => ?_) (fun hc => ?_)
      ·
        have q18764 := cond_t q18764 hc
        apply go
        apply go
        apply go
        apply go
        apply go
        apply go
        obtain ⟨⟨x18766, x18767⟩, q18768, q18764⟩ := bind_some q18764
        refine ev_call rfl rfl C95 (((integer_short_ok n) _ _  x18707 v18708 r18709 1000000000 hp.imm _ q18768).mono ?_)
        rintro _ w18769 ⟨I18770, v18771, hv, hq, r18772⟩
        replace hv := hv.symm
        subst hv
        have hs := hq.st
        have hp := hp.join0 hq
        replace a18510 := a18510.step hs
        replace r18505 := r18505.step hs
        replace o18713 := o18713.step hs
        replace tb := tb.step hs
        apply go
        apply go
        obtain ⟨x18773, q18774, q18764⟩ := bind_some q18764
        refine ev_call rfl rfl C72 (((integer_trim_ok n) _ _  x18766 v18771 r18772 hp.imm _ q18774).mono ?_)
        rintro _ w18775 ⟨I18776, v18777, hv, hq, r18778⟩
        replace hv := hv.symm
        subst hv
        have hs := hq.st
        have hp := hp.join0 hq
        replace a18510 := a18510.step hs
        replace r18505 := r18505.step hs
        replace o18713 := o18713.step hs
        replace tb := tb.step hs
        apply go
        apply go
        refine ev0 (rn_conv rfl rfl U46 Tryz.underlying75) ?_
        obtain ⟨x18779, q18780, q18764⟩ := bind_some q18764
        refine ev_call rfl rfl C96 (((strconv_FormatUint_ok n) _ _ tb (IntKind.u64.wrap x18767) 10 hp.imm _ q18780).mono ?_)
        rintro _ w18781 ⟨rfl, hc⟩
        have hs := hp.stp hc
        replace hp := hp.ext hc
        replace a18510 := a18510.step hs
        replace r18505 := r18505.step hs
        replace o18713 := o18713.step hs
        replace r18778 := r18778.step hs
        replace tb := tb.step hs
        obtain ⟨y18788, q18789, q18764⟩ := bind_some q18764
        refine W.cut (γ := ByteArray) (fun g => [(1, (.pointer (some (p18508)))), (3, v18777), (4, v18711), (6, (.string (g)))]) (fun g w' => y18788 = (g) ∧ Hp ⟨w0, I0, []⟩ I18776 [e18712] w' ∧ RepS (dI .u32) w' I18776 v18504 x18503.Mag ∧ At w' I18776 p18508 [(.bool x18503.Neg), v18504] ∧ RepS (dI .u32) w' I18776 v18777 x18773 ∧ OwnS dS 9 w' I18776 v18711 e18712 x18710 ∧ Tb w' I18776 4 .u64 pow10) ?_ ?_
        ·
          apply go
          apply go
          refine ev0 (rn_len rfl rfl Tryz.underlying22 r18778) ?_
          apply go
          refine sel_of (fun hc => ?_) (fun hc => ?_)
          ·
            have q18789 := cond_t q18789 hc
            apply go
            refine ev0 (rn_lenS rfl rfl Tryz.underlying9) ?_
            obtain ⟨x18790, q18791, q18789⟩ := bind_some q18789
            refine ev_call rfl rfl C97 (((strings_Repeat_ok n) _ _  (ByteArray.mk #[48]) (IntKind.i64.wrap (9 - (x18779.size : Int))) hp.imm _ q18791).mono ?_)
            rintro _ w18792 ⟨rfl, hc⟩
            have hs := hp.stp hc
            replace hp := hp.ext hc
            replace a18510 := a18510.step hs
            replace r18505 := r18505.step hs
            replace o18713 := o18713.step hs
            replace r18778 := r18778.step hs
            replace tb := tb.step hs
            obtain ⟨q18793, _, q18789⟩ := need_some q18789
            refine ⟨q18793, ?_⟩
            obtain rfl := Option.some.inj q18789
            exact ⟨(x18790 ++ x18779), (.c rfl (.c rfl (.c rfl (.c rfl .n)))), rfl, hp, r18505, a18510, r18778, o18713, tb⟩
          ·
            have q18789 := cond_f q18789 hc
            apply go
            obtain rfl := Option.some.inj q18789
            exact ⟨x18779, (.c rfl (.c rfl (.c rfl (.c rfl .n)))), rfl, hp, r18505, a18510, r18778, o18713, tb⟩
        ·
          rintro x18786 w18787 ⟨hy, hp, r18505, a18510, r18778, o18713, tb⟩
          replace hy := hy.symm
          subst hy
          apply go
          refine ev_litN (d := dS) (xs := [x18786]) (cs := [(.string x18786)]) hp rfl rfl Tryz.underlying90 T9 (by decide) rfl rfl (Elems.cons (d := dS) (xs := _) rfl (Elems.nil _ _ _ _)) ?_
          intro v18794 I18796 w18795 hp hs r18797
          replace a18510 := a18510.step hs
          replace r18505 := r18505.step hs
          replace r18778 := r18778.step hs
          replace o18713 := o18713.step hs
          replace tb := tb.step hs
          obtain ⟨x18798, q18799, q18764⟩ := bind_some q18764
          refine ev_append hp (i := 0) rfl rfl rfl rfl Tryz.underlying90 T9 rfl rfl o18713 r18797 q18799 ?_
          rintro v18800 e18801 w18802 hp hs o18803
          replace a18510 := a18510.step hs
          replace r18505 := r18505.step hs
          replace r18778 := r18778.step hs
          replace tb := tb.step hs
          exact ⟨_, (Option.some.inj q18764).symm, (v18777, v18800, e18801, I18796), (.c rfl (.c rfl (.c rfl .n))), ⟨hp, r18505, a18510, r18778, o18803, tb⟩⟩
      ·
        have q18764 := cond_f q18764 hc
        apply go
        have q18804 := congrArg some (q18765 _ (Option.some.inj q18764).symm)
        obtain rfl := Option.some.inj q18804
        exact ⟨(x18710, v18711, e18712, I18714), (.c rfl (.c rfl .n)), rfl, hp, r18505, a18510, o18713, tb⟩
    ·
      rintro ⟨x18660, v18661, e18662, I18664⟩ w18665 ⟨hy, hp, r18505, a18510, o18663, tb⟩
      replace hy := hy.symm
      subst hy
      obtain ⟨y18821, q18822, h⟩ := bind_some h
      refine W.cut (γ := ((List ByteArray) × Value × Ent × (Nat → Prop))) (fun g => [(4, (g.2.1))]) (fun g w' => y18821 = (g.1) ∧ Hp ⟨w0, I0, []⟩ (g.2.2.2) [(g.2.2.1)] w' ∧ OwnS dS 9 w' (g.2.2.2) (g.2.1) (g.2.2.1) (g.1) ∧ Tb w' (g.2.2.2) 4 .u64 pow10) ?_ ?_
      ·
        apply go
        apply go
        refine ev0 (rn_field rfl rfl FO24_0) ?_
        refine ev (rn_load rfl rfl (run_loadVar1 T4 (a18510.2 0 _ rfl))) ?_
        apply go
        refine sel_of (fun hc => ?_) (fun hc => ?_)
        ·
          have q18822 := cond_t q18822 hc
          apply go
          refine ev_litN (d := dS) (xs := [(ByteArray.mk #[45])]) (cs := [(.string (ByteArray.mk #[45]))]) hp rfl rfl Tryz.underlying90 T9 (by decide) rfl rfl (Elems.cons (d := dS) (xs := _) rfl (Elems.nil _ _ _ _)) ?_
          intro v18823 I18825 w18824 hp hs r18826
          replace o18663 := o18663.step hs
          replace tb := tb.step hs
          obtain ⟨x18827, q18828, q18822⟩ := bind_some q18822
          refine ev_append hp (i := 0) rfl rfl rfl rfl Tryz.underlying90 T9 rfl rfl o18663 r18826 q18828 ?_
          rintro v18829 e18830 w18831 hp hs o18832
          replace tb := tb.step hs
          obtain rfl := Option.some.inj q18822
          exact ⟨(x18827, v18829, e18830, I18825), (.c rfl .n), rfl, hp, o18832, tb⟩
        ·
          have q18822 := cond_f q18822 hc
          apply go
          obtain rfl := Option.some.inj q18822
          exact ⟨(x18660, v18661, e18662, I18664), (.c rfl .n), rfl, hp, o18663, tb⟩
      ·
        rintro ⟨x18815, v18816, e18817, I18819⟩ w18820 ⟨hy, hp, o18818, tb⟩
        replace hy := hy.symm
        subst hy
        apply go
        apply go
        obtain ⟨x18833, q18834, h⟩ := bind_some h
        refine ev_call rfl rfl C98 (((slices_Reversestring_string__ok n) _ _  x18815 v18816 e18817 o18818 (hp.lend (i := 0) rfl) _ q18834).mono ?_)
        rintro _ w18835 ⟨I18836, e18837, hv, hq, o18838, hsame⟩
        replace hv := hv.symm
        subst hv
        have hs := hq.st
        have hp := hp.backO (i := 0) rfl hq hsame
        replace tb := tb.step hs
        apply go
        apply go
        have r18839 := o18838.frz hp (i := 0) rfl
        obtain ⟨hp, hs⟩ := freeze_hp hp (i := 0) rfl
        replace tb := tb.step hs
        have hp := hp.sel [] (by decide)
        obtain ⟨x18840, q18841, h⟩ := bind_some h
        refine ev_call rfl rfl C99 (((strings_Join_ok n) _ _  x18833 v18816 r18839 (ByteArray.mk #[]) hp.imm _ q18841).mono ?_)
        rintro _ w18842 ⟨rfl, hc⟩
        have hs := hp.stp hc
        replace hp := hp.ext hc
        replace tb := tb.step hs
        apply go
        obtain rfl := Option.some.inj h
        exact ⟨rfl, hp.ch⟩

end Go.Proofs.YtepadjfmcbjkmaaGreatDoor

namespace Go.Proofs.YtepadjfmcbjkmaaGreatDoor
open Go Go.Proofs.YtepadjfmcbjkmaaGreatDoor.Gw Go.RowKit
set_option linter.unusedVariables false
attribute [local irreducible] Ev EvQ EvS EvH
def rational_Text_S (f : Rational → Option ByteArray) : Prop := ∀ (w0 : World) (I0 : Nat → Prop) (tb : Tb w0 I0 4 .u64 pow10) (x18843 : Rational) (v18844 : Value) (r18845 : RepS (dI .u32) w0 I0 v18844 x18843.Num.Mag) (v18846 : Value) (r18847 : RepS (dI .u32) w0 I0 v18846 x18843.Den.Mag) (hI : ∀ g, I0 g → g < w0.heap.size) (r : ByteArray), f x18843 = some r →
    Ret Tryz.prog 33 #[(.agg #[(.bool x18843.Num.Neg), v18844, (.bool x18843.Den.Neg), v18846])] w0 fun v w1 => v = (.string r) ∧ Ch [] w0 w1
theorem rational_Text_ok (n : Nat) : rational_Text_S (rational_Text n) := by
  intro w0 I0 tb x18843 v18844 r18845 v18846 r18847 hI r h
  unfold rational_Text at h
  refine enter Tryz.func33 rfl (Nat.le_of_ble_eq_true rfl) ?_
  have hp : Hp ⟨w0, I0, []⟩ I0 [] w0 := Hp.start hI
  apply go
  apply go
  refine ev_box hp rfl rfl ?_
  intro g18848 w18849 hp hs
  replace r18845 := r18845.step hs
  replace r18847 := r18847.step hs
  replace tb := tb.step hs
  apply go
  apply go
  refine ev (rn_load rfl rfl (run_loadVarA T26 rfl (hp.at_ (i := 0) rfl))) ?_
  obtain ⟨x18850, q18851, h⟩ := bind_some h
  refine ev_call rfl rfl C38 (((rational_Norm_ok n) _ _  (Rational.mk (Int_2.mk x18843.Num.Neg x18843.Num.Mag) (Int_2.mk x18843.Den.Neg x18843.Den.Mag)) v18844 r18845 v18846 r18847 hp.imm _ q18851).mono ?_)
  rintro _ w18852 ⟨I18853, v18854, v18856, hv, hq, r18855, r18857⟩
  replace hv := hv.symm
  subst hv
  have hs := hq.st
  have hp := hp.join0 hq
  replace r18845 := r18845.step hs
  replace r18847 := r18847.step hs
  replace tb := tb.step hs
  refine ev_storeA hp (i := 0) (off := 0) (vs := [(.bool x18850.Num.Neg), v18854, (.bool x18850.Den.Neg), v18856]) rfl rfl rfl rfl T26 rfl (Nat.le_of_ble_eq_true rfl) (ones_cons rfl (ones_cons r18855.one (ones_cons rfl (ones_cons r18857.one ones_nil)))) ?_
  intro w18858 hp hs
  replace r18855 := r18855.step hs
  replace r18857 := r18857.step hs
  replace tb := tb.step hs
  apply go
  apply go
  apply go
  refine ev0 (rn_field rfl rfl FO26_1) ?_
  refine ev (rn_load rfl rfl (run_loadVarA T24 rfl (((hp.at_ (i := 0) rfl).drop 2).take 2))) ?_
  obtain ⟨x18859, q18860, h⟩ := bind_some h
  refine ev_call rfl rfl C43 (((rational_one_ok n) _ _  (Int_2.mk x18850.Den.Neg x18850.Den.Mag) v18856 r18857 hp.imm _ q18860).mono ?_)
  rintro _ w18861 ⟨rfl, hc⟩
  have hs := hp.stp hc
  replace hp := hp.ext hc
  replace r18855 := r18855.step hs
  replace r18857 := r18857.step hs
  replace tb := tb.step hs
  apply go
  refine sel_of (fun hc => ?_) (fun hc => ?_)
  ·
    have h := cond_t h hc
    apply go
    apply go
    refine ev0 (rn_field rfl rfl FO26_0) ?_
    refine ev (rn_load rfl rfl (run_loadVarA T24 rfl (((hp.at_ (i := 0) rfl).drop 0).take 2))) ?_
    obtain ⟨x18862, q18863, h⟩ := bind_some h
    refine ev_call rfl rfl C69 (((integer_Text_ok n) _ _ tb (Int_2.mk x18850.Num.Neg x18850.Num.Mag) v18854 r18855 hp.imm _ q18863).mono ?_)
    rintro _ w18864 ⟨rfl, hc⟩
    have hs := hp.stp hc
    replace hp := hp.ext hc
    replace r18855 := r18855.step hs
    replace r18857 := r18857.step hs
    replace tb := tb.step hs
    apply go
    obtain rfl := Option.some.inj h
    exact ⟨rfl, hp.ch⟩
  ·
    have h := cond_f h hc
    apply go
    apply go
    refine W.quiet (fun w' => Ch [] w18861 w') MX (by kernel_rfl) (Ch.drew [] w18861) ?_
    refine evq0 (rn_field rfl rfl FO26_0) ?_
    refine evq (fun w' hw => rn_load rfl rfl (run_loadVarA T24 rfl ((((hp.ext hw).at_ (i := 0) rfl).drop 0).take 2))) ?_
    obtain ⟨x18865, q18866, h⟩ := bind_some h
    refine evq_call rfl rfl C69 (fun w' hw => ((integer_Text_ok n) _ _ (tb.step (hp.stp hw)) (Int_2.mk x18850.Num.Neg x18850.Num.Mag) v18854 (r18855.step (hp.stp hw)) (hp.ext hw).imm _ q18866).mono fun _ _ ⟨e, hc⟩ => ⟨e, hw.trans hc⟩) ?_
    obtain ⟨q18867, _, h⟩ := need_some h
    refine ⟨q18867, ?_⟩
    refine evq0 (rn_field rfl rfl FO26_1) ?_
    refine evq (fun w' hw => rn_load rfl rfl (run_loadVarA T24 rfl ((((hp.ext hw).at_ (i := 0) rfl).drop 2).take 2))) ?_
    obtain ⟨x18868, q18869, h⟩ := bind_some h
    refine evq_call rfl rfl C69 (fun w' hw => ((integer_Text_ok n) _ _ (tb.step (hp.stp hw)) (Int_2.mk x18850.Den.Neg x18850.Den.Mag) v18856 (r18857.step (hp.stp hw)) (hp.ext hw).imm _ q18869).mono fun _ _ ⟨e, hc⟩ => ⟨e, hw.trans hc⟩) ?_
    obtain ⟨q18870, _, h⟩ := need_some h
    refine ⟨q18870, ?_⟩
    intro w18871 hc
    have hs := hp.stp hc
    replace hp := hp.ext hc
    replace r18855 := r18855.step hs
    replace r18857 := r18857.step hs
    replace tb := tb.step hs
    apply go
    obtain rfl := Option.some.inj h
    exact ⟨rfl, hp.ch⟩

end Go.Proofs.YtepadjfmcbjkmaaGreatDoor

namespace Go.Proofs.YtepadjfmcbjkmaaGreatDoor
open Go Go.Proofs.YtepadjfmcbjkmaaGreatDoor.Gw Go.RowKit
set_option linter.unusedVariables false
attribute [local irreducible] Ev EvQ EvS EvH
def integer_times_S (f : (List Int) → (List Int) → Option (List Int)) : Prop := ∀ (w0 : World) (I0 : Nat → Prop) (x18872 : (List Int)) (v18873 : Value) (r18874 : RepS (dI .u32) w0 I0 v18873 x18872) (x18875 : (List Int)) (v18876 : Value) (r18877 : RepS (dI .u32) w0 I0 v18876 x18875) (hI : ∀ g, I0 g → g < w0.heap.size) (r : (List Int)), f x18872 x18875 = some r →
    Ret Tryz.prog 81 #[v18873, v18876] w0 fun v w1 => ∃ (I1 : Nat → Prop) (u18878 : Value), v = u18878 ∧ Hp ⟨w0, I0, []⟩ I1 [] w1 ∧ RepS (dI .u32) w1 I1 u18878 r
theorem integer_times_ok (n : Nat) : integer_times_S (integer_times n) := by
  intro w0 I0 x18872 v18873 r18874 x18875 v18876 r18877 hI r h
  unfold integer_times at h
  refine enter Tryz.func81 rfl (Nat.le_of_ble_eq_true rfl) ?_
  have hp : Hp ⟨w0, I0, []⟩ I0 [] w0 := Hp.start hI
  apply go
  apply go
  apply go
  apply go
  refine ev0 (rn_len rfl rfl Tryz.underlying22 r18874) ?_
  refine ev0 (rn_len rfl rfl Tryz.underlying22 r18877) ?_
  obtain ⟨x18879, q18880, h⟩ := bind_some h
  refine ev_make (d := (dI .u32)) (x0 := 0) hp rfl rfl rfl Tryz.underlying22 T46 (fun _ _ => rfl) (Nat.le_of_ble_eq_true rfl) q18880 ?_
  intro v18881 e18882 w18883 hp hs o18884
  replace r18874 := r18874.step hs
  replace r18877 := r18877.step hs
  obtain ⟨y20264, q20265, h⟩ := bind_some h
  refine W.cut (γ := ((List Int) × Ent)) (fun g => [(5, v18881)]) (fun g w' => y20264 = (g.1) ∧ Hp ⟨w0, I0, []⟩ I0 [(g.2)] w' ∧ OwnS (dI .u32) 46 w' I0 v18881 (g.2) (g.1)) ?_ ?_
  ·
    apply go
    apply go
    refine ev0 (rn_len rfl rfl Tryz.underlying22 r18874) ?_
    apply go
    refine W.loop q20265 (γ := Ent) (fun s g => [(1, v18876), (5, v18881), (18, v18873), (19, (.int .i64 (x18872.length : Int))), (20, (.int .i64 (s.2)))]) (fun s g w' => Hp ⟨w0, I0, []⟩ I0 [(g)] w' ∧ RepS (dI .u32) w' I0 v18876 x18875 ∧ OwnS (dI .u32) 46 w' I0 v18881 (g) (s.1) ∧ RepS (dI .u32) w' I0 v18873 x18872) e18882 (.c rfl (.c rfl (.c rfl (.c rfl (.c rfl .n))))) ⟨hp, r18877, o18884, r18874⟩ ?_
    rintro ⟨x20719, x20723⟩ e20721 w21182 y21183 ⟨hp, r18877, o20722, r18874⟩ q21184 q21185
    unfold integer_times_L21 at q21184
    apply go
    apply go
    apply go
    apply go
    refine sel_of (fun hc => ?_) (fun hc => ?_)
    ·
      have q21184 := cond_t q21184 hc
      apply go
      obtain ⟨y21414, q21415, q21184⟩ := bind_some q21184
      refine W.cut (γ := ((List Int) × Ent)) (fun g => [(1, v18876), (5, v18881), (18, v18873), (19, (.int .i64 (x18872.length : Int))), (20, (.int .i64 x20723))]) (fun g w' => y21414 = (g.1) ∧ Hp ⟨w0, I0, []⟩ I0 [(g.2)] w' ∧ RepS (dI .u32) w' I0 v18876 x18875 ∧ OwnS (dI .u32) 46 w' I0 v18881 (g.2) (g.1) ∧ RepS (dI .u32) w' I0 v18873 x18872) ?_ ?_
      ·
        apply go
        apply go
        apply go
        obtain ⟨x21416, q21417, q21415⟩ := bind_some q21415
        refine ev_index rfl rfl rfl Tryz.underlying22 T46 r18874 q21417 ?_
        intro p21418 c21419 d21420 a21421
        obtain rfl : c21419 = [(.int .u32 x21416)] := d21420
        refine ev (rn_load rfl rfl (run_loadVar1 T46 (a21421.2 0 _ rfl))) ?_
        apply go
        apply go
        obtain ⟨y21526, q21527, q21415⟩ := bind_some q21415
        refine W.cut (γ := ((List Int) × Int × Ent)) (fun g => [(1, v18876), (5, v18881), (6, (.int .i64 x20723)), (8, (.int .u64 (g.2.1))), (18, v18873), (19, (.int .i64 (x18872.length : Int))), (20, (.int .i64 x20723))]) (fun g w' => y21526 = ((g.1), (g.2.1)) ∧ Hp ⟨w0, I0, []⟩ I0 [(g.2.2)] w' ∧ RepS (dI .u32) w' I0 v18876 x18875 ∧ OwnS (dI .u32) 46 w' I0 v18881 (g.2.2) (g.1) ∧ RepS (dI .u32) w' I0 v18873 x18872) ?_ ?_
        ·
          apply go
          apply go
          refine ev0 (rn_len rfl rfl Tryz.underlying22 r18877) ?_
          apply go
          refine W.loop q21527 (γ := Ent) (fun s g => [(1, v18876), (5, v18881), (6, (.int .i64 x20723)), (7, (.int .u32 x21416)), (8, (.int .u64 (s.2.1))), (18, v18873), (19, (.int .i64 (x18872.length : Int))), (20, (.int .i64 x20723)), (25, v18876), (26, (.int .i64 (x18875.length : Int))), (27, (.int .i64 (s.2.2)))]) (fun s g w' => Hp ⟨w0, I0, []⟩ I0 [(g)] w' ∧ RepS (dI .u32) w' I0 v18876 x18875 ∧ OwnS (dI .u32) 46 w' I0 v18881 (g) (s.1) ∧ RepS (dI .u32) w' I0 v18873 x18872) e20721 (.c rfl (.c rfl (.c rfl (.c rfl (.c rfl (.c rfl (.c rfl (.c rfl (.c rfl (.c rfl (.c rfl .n))))))))))) ⟨hp, r18877, o20722, r18874⟩ ?_
          rintro ⟨x21555, x21559, x21560⟩ e21557 w21594 y21595 ⟨hp, r18877, o21558, r18874⟩ q21596 q21597
          unfold integer_times_L25 at q21596
          apply go
          apply go
          apply go
          apply go
          refine sel_of (fun hc => ?_) (fun hc => ?_)
          ·
            have q21596 := cond_t q21596 hc
            apply go
            apply go
            apply go
            apply go
            apply go
            obtain ⟨x21598, q21599, q21596⟩ := bind_some q21596
            refine ev_index rfl rfl rfl Tryz.underlying22 T46 r18877 q21599 ?_
            intro p21600 c21601 d21602 a21603
            obtain rfl : c21601 = [(.int .u32 x21598)] := d21602
            refine ev (rn_load rfl rfl (run_loadVar1 T46 (a21603.2 0 _ rfl))) ?_
            apply go
            apply go
            refine ev0 (rn_conv rfl rfl U46 Tryz.underlying75) ?_
            refine ev0 (rn_conv rfl rfl U46 Tryz.underlying75) ?_
            obtain ⟨x21604, q21605, q21596⟩ := bind_some q21596
            refine ev_indexO rfl rfl rfl Tryz.underlying22 T46 o21558 q21605 ?_
            intro g21606 c21607 h21610 d21608 l21609
            refine ev (rn_load rfl rfl (run_loadVar1 T46 (hp.cellE (i := 0) rfl h21610 d21608 (j := 0) rfl))) ?_
            refine ev0 (rn_conv rfl rfl U46 Tryz.underlying75) ?_
            apply go
            apply go
            refine ev0 (rn_conv rfl rfl U75 Tryz.underlying46) ?_
            obtain ⟨x21612, q21613, q21596⟩ := bind_some q21596
            refine ev_indexO rfl rfl rfl Tryz.underlying22 T46 o21558 q21613 ?_
            intro g21614 c21615 h21618 d21616 l21617
            refine ev_storeE hp (i := 0) rfl h21618 rfl rfl rfl T46 o21558 q21613 (x0 := (IntKind.u32.wrap (IntKind.u64.wrap ((IntKind.u64.wrap ((IntKind.u64.wrap ((IntKind.u64.wrap x21416) * (IntKind.u64.wrap x21598))) + (IntKind.u64.wrap x21604))) + x21559)))) rfl ?_
            intro e21621 w21620 hp hs o21622
            replace r18877 := r18877.step hs
            replace r18874 := r18874.step hs
            apply go
            refine ⟨by decide, ?_⟩
            apply go
            exact ⟨_, (Option.some.inj q21596).symm, e21621, (.c rfl (.c rfl (.c rfl (.c rfl (.c rfl (.c rfl (.c rfl (.c rfl (.c rfl (.c rfl (.c rfl .n))))))))))), ⟨hp, r18877, o21622, r18874⟩⟩
          ·
            have q21596 := cond_f q21596 hc
            apply go
            have q21625 := congrArg some (q21597 _ (Option.some.inj q21596).symm)
            obtain rfl := Option.some.inj q21625
            exact ⟨(x21555, x21559, e21557), (.c rfl (.c rfl (.c rfl (.c rfl (.c rfl (.c rfl (.c rfl .n))))))), rfl, hp, r18877, o21558, r18874⟩
        ·
          rintro ⟨x21520, x21524, e21522⟩ w21525 ⟨hy, hp, r18877, o21523, r18874⟩
          replace hy := hy.symm
          subst hy
          apply go
          refine ev0 (rn_len rfl rfl Tryz.underlying22 r18877) ?_
          refine ev0 (rn_conv rfl rfl U75 Tryz.underlying46) ?_
          obtain ⟨x21626, q21627, q21415⟩ := bind_some q21415
          refine ev_indexO rfl rfl rfl Tryz.underlying22 T46 o21523 q21627 ?_
          intro g21628 c21629 h21632 d21630 l21631
          refine ev_storeE hp (i := 0) rfl h21632 rfl rfl rfl T46 o21523 q21627 (x0 := (IntKind.u32.wrap x21524)) rfl ?_
          intro e21635 w21634 hp hs o21636
          replace r18877 := r18877.step hs
          replace r18874 := r18874.step hs
          obtain rfl := Option.some.inj q21415
          exact ⟨((upd x21520 (IntKind.i64.wrap (x20723 + (x18875.length : Int))) (IntKind.u32.wrap x21524)), e21635), (.c rfl (.c rfl (.c rfl (.c rfl (.c rfl .n))))), rfl, hp, r18877, o21636, r18874⟩
      ·
        rintro ⟨x21409, e21411⟩ w21413 ⟨hy, hp, r18877, o21412, r18874⟩
        replace hy := hy.symm
        subst hy
        apply go
        exact ⟨_, (Option.some.inj q21184).symm, e21411, (.c rfl (.c rfl (.c rfl (.c rfl (.c rfl .n))))), ⟨hp, r18877, o21412, r18874⟩⟩
    ·
      have q21184 := cond_f q21184 hc
      apply go
      have q21639 := congrArg some (q21185 _ (Option.some.inj q21184).symm)
      obtain rfl := Option.some.inj q21639
      exact ⟨(x20719, e20721), (.c rfl .n), rfl, hp, o20722⟩
  ·
    rintro ⟨x20259, e20261⟩ w20263 ⟨hy, hp, o20262⟩
    replace hy := hy.symm
    subst hy
    apply go
    apply go
    apply go
    obtain rfl := Option.some.inj h
    have r21640 := o20262.frz hp (i := 0) rfl
    obtain ⟨hp, hs⟩ := freeze_hp hp (i := 0) rfl
    have hp := hp.sel [] (by decide)
    exact ⟨(Ad I0 e20261), v18881, rfl, hp, r21640⟩

end Go.Proofs.YtepadjfmcbjkmaaGreatDoor

namespace Go.Proofs.YtepadjfmcbjkmaaGreatDoor
open Go Go.Proofs.YtepadjfmcbjkmaaGreatDoor.Gw Go.RowKit
set_option linter.unusedVariables false
attribute [local irreducible] Ev EvQ EvS EvH
def integer_Mul_S (f : Int_2 → Int_2 → Option Int_2) : Prop := ∀ (w0 : World) (I0 : Nat → Prop) (x21641 : Int_2) (v21642 : Value) (r21643 : RepS (dI .u32) w0 I0 v21642 x21641.Mag) (x21644 : Int_2) (v21645 : Value) (r21646 : RepS (dI .u32) w0 I0 v21645 x21644.Mag) (hI : ∀ g, I0 g → g < w0.heap.size) (r : Int_2), f x21641 x21644 = some r →
    Ret Tryz.prog 47 #[(.agg #[(.bool x21641.Neg), v21642]), (.agg #[(.bool x21644.Neg), v21645])] w0 fun v w1 => ∃ (I1 : Nat → Prop) (u21647 : Value), v = (.agg #[(.bool r.Neg), u21647]) ∧ Hp ⟨w0, I0, []⟩ I1 [] w1 ∧ RepS (dI .u32) w1 I1 u21647 r.Mag
theorem integer_Mul_ok (n : Nat) : integer_Mul_S (integer_Mul n) := by
  intro w0 I0 x21641 v21642 r21643 x21644 v21645 r21646 hI r h
  unfold integer_Mul at h
  refine enter Tryz.func47 rfl (Nat.le_of_ble_eq_true rfl) ?_
  have hp : Hp ⟨w0, I0, []⟩ I0 [] w0 := Hp.start hI
  apply go
  apply go
  refine ev_boxI hp rfl rfl ?_
  intro p21650 I21651 w21649 hp hs a21652
  replace r21646 := r21646.step hs
  replace r21643 := r21643.step hs
  refine ev_boxI hp rfl rfl ?_
  intro p21655 I21656 w21654 hp hs a21657
  replace a21652 := a21652.step hs
  replace r21643 := r21643.step hs
  replace r21646 := r21646.step hs
  refine ev_alloc hp rfl T24 ?_
  intro g21658 w21659 hp hs
  replace a21652 := a21652.step hs
  replace r21643 := r21643.step hs
  replace a21657 := a21657.step hs
  replace r21646 := r21646.step hs
  apply go
  have hs := hp.stp (Ch.drew [] w21659)
  have hp := hp.drew
  replace a21652 := a21652.step hs
  replace r21643 := r21643.step hs
  replace a21657 := a21657.step hs
  replace r21646 := r21646.step hs
  refine W.held [(0, true), (1, true), (2, true), (3, true), (4, true), (5, true), (6, true), (8, true), (9, true), (7, false), (10, false), (11, false), (12, false), (13, false)] (Stp I21656 w21659.drew I21656) MX (by kernel_rfl) (Stp.refl _ _) ?_
  have hz := Stp.refl I21656 w21659.drew
  refine evh0 (rn_field rfl rfl FO24_0) ?_
  refine evh (fun w' hw => rn_load rfl rfl (run_loadVar1 T4 ((a21652.step hw).2 0 _ rfl))) ?_
  refine evh0 (rn_field rfl rfl FO24_0) ?_
  refine evh (fun w' hw => rn_load rfl rfl (run_loadVar1 T4 ((a21657.step hw).2 0 _ rfl))) ?_
  refine evh0 (rn_neB rfl rfl rfl Tryz.underlying4) ?_
  refine evh0 (rn_field rfl rfl FO24_1) ?_
  refine evh (fun w' hw => rn_load rfl rfl (run_loadVar1 T22 ((a21652.step hw).2 1 _ rfl))) ?_
  refine evh0 (rn_field rfl rfl FO24_1) ?_
  refine evh (fun w' hw => rn_load rfl rfl (run_loadVar1 T22 ((a21657.step hw).2 1 _ rfl))) ?_
  obtain ⟨x21685, q21686, h⟩ := bind_some h
  refine ev_call rfl rfl C72 (((integer_trim_ok n) _ _  x21641.Mag v21642 r21643 hp.imm _ q21686).mono ?_)
  rintro _ w21687 ⟨I21688, v21689, hv, hq, r21690⟩
  replace hv := hv.symm
  subst hv
  have hs := hq.st
  have hp := hp.join0 hq
  replace hz := hz.trans hs
  replace r21646 := r21646.step hs
  refine ⟨Stp I21688 w21687 I21688, Stp.refl _ _, fun x hx => hz.held hx, ?_⟩
  have hz := Stp.refl I21688 w21687
  obtain ⟨x21691, q21692, h⟩ := bind_some h
  refine ev_call rfl rfl C72 (((integer_trim_ok n) _ _  x21644.Mag v21645 r21646 hp.imm _ q21692).mono ?_)
  rintro _ w21693 ⟨I21694, v21695, hv, hq, r21696⟩
  replace hv := hv.symm
  subst hv
  have hs := hq.st
  have hp := hp.join0 hq
  replace hz := hz.trans hs
  replace r21690 := r21690.step hs
  refine ⟨Stp I21694 w21693 I21694, Stp.refl _ _, fun x hx => hz.held hx, ?_⟩
  have hz := Stp.refl I21694 w21693
  obtain ⟨x21697, q21698, h⟩ := bind_some h
  refine ev_call rfl rfl C81 (((integer_times_ok n) _ _  x21685 v21689 r21690 x21691 v21695 r21696 hp.imm _ q21698).mono ?_)
  rintro _ w21699 ⟨I21700, v21701, hv, hq, r21702⟩
  replace hv := hv.symm
  subst hv
  have hs := hq.st
  have hp := hp.join0 hq
  replace hz := hz.trans hs
  refine ⟨Stp I21700 w21699 I21700, Stp.refl _ _, fun x hx => hz.held hx, ?_⟩
  have hz := Stp.refl I21700 w21699
  obtain ⟨x21703, q21704, h⟩ := bind_some h
  refine ev_call rfl rfl C80 (((integer_made_ok n) _ _  (!(x21641.Neg == x21644.Neg)) x21697 v21701 r21702 hp.imm _ q21704).mono ?_)
  rintro _ w21705 ⟨I21706, v21707, hv, hq, r21708⟩
  replace hv := hv.symm
  subst hv
  have hs := hq.st
  have hp := hp.join0 hq
  replace hz := hz.trans hs
  refine ⟨Stp I21706 w21705 I21706, Stp.refl _ _, fun x hx => hz.held hx, ?_⟩
  have hz := Stp.refl I21706 w21705
  refine ev_storeA hp (i := 0) (off := 0) (vs := [(.bool x21703.Neg), v21707]) rfl rfl rfl rfl T24 rfl (Nat.le_of_ble_eq_true rfl) (ones_cons rfl (ones_cons r21708.one ones_nil)) ?_
  intro w21709 hp hs
  replace hz := hz.trans hs
  replace r21708 := r21708.step hs
  refine ⟨Stp I21706 w21709 I21706, Stp.refl _ _, fun x hx => hz.held hx, ?_⟩
  have hz := Stp.refl I21706 w21709
  apply go
  obtain rfl := Option.some.inj h
  refine ⟨_, run_loadVarA T24 rfl (hp.at_ (i := 0) rfl), ?_⟩
  have hp := hp.sel [] (by decide)
  exact ⟨I21706, v21707, rfl, hp, r21708⟩

end Go.Proofs.YtepadjfmcbjkmaaGreatDoor

namespace Go.Proofs.YtepadjfmcbjkmaaGreatDoor
open Go Go.Proofs.YtepadjfmcbjkmaaGreatDoor.Gw Go.RowKit
set_option linter.unusedVariables false
attribute [local irreducible] Ev EvQ EvS EvH vch
def rational_Add_S (f : Rational → Rational → Option Rational) : Prop := ∀ (w0 : World) (I0 : Nat → Prop) (x21710 : Rational) (v21711 : Value) (r21712 : RepS (dI .u32) w0 I0 v21711 x21710.Num.Mag) (v21713 : Value) (r21714 : RepS (dI .u32) w0 I0 v21713 x21710.Den.Mag) (x21715 : Rational) (v21716 : Value) (r21717 : RepS (dI .u32) w0 I0 v21716 x21715.Num.Mag) (v21718 : Value) (r21719 : RepS (dI .u32) w0 I0 v21718 x21715.Den.Mag) (hI : ∀ g, I0 g → g < w0.heap.size) (r : Rational), f x21710 x21715 = some r →
    Ret Tryz.prog 36 #[(.agg #[(.bool x21710.Num.Neg), v21711, (.bool x21710.Den.Neg), v21713]), (.agg #[(.bool x21715.Num.Neg), v21716, (.bool x21715.Den.Neg), v21718])] w0 fun v w1 => ∃ (I1 : Nat → Prop) (u21720 : Value) (u21721 : Value), v = (.agg #[(.bool r.Num.Neg), u21720, (.bool r.Den.Neg), u21721]) ∧ Hp ⟨w0, I0, []⟩ I1 [] w1 ∧ RepS (dI .u32) w1 I1 u21720 r.Num.Mag ∧ RepS (dI .u32) w1 I1 u21721 r.Den.Mag
theorem rational_Add_ok (n : Nat) : rational_Add_S (rational_Add n) := by
  intro w0 I0 x21710 v21711 r21712 v21713 r21714 x21715 v21716 r21717 v21718 r21719 hI r h
  unfold rational_Add at h
  refine enter Tryz.func36 rfl (Nat.le_of_ble_eq_true rfl) ?_
  have hp : Hp ⟨w0, I0, []⟩ I0 [] w0 := Hp.start hI
  apply go
  apply go
  refine ev_box hp rfl rfl ?_
  intro g21722 w21723 hp hs
  replace r21717 := r21717.step hs
  replace r21719 := r21719.step hs
  replace r21712 := r21712.step hs
  replace r21714 := r21714.step hs
  refine ev_box hp rfl rfl ?_
  intro g21724 w21725 hp hs
  replace r21717 := r21717.step hs
  replace r21719 := r21719.step hs
  replace r21712 := r21712.step hs
  replace r21714 := r21714.step hs
  refine ev_alloc hp rfl T26 ?_
  intro g21726 w21727 hp hs
  replace r21717 := r21717.step hs
  replace r21719 := r21719.step hs
  replace r21712 := r21712.step hs
  replace r21714 := r21714.step hs
  apply go
  have hs := hp.stp (Ch.drew [] w21727)
  have hp := hp.drew
  replace r21717 := r21717.step hs
  replace r21719 := r21719.step hs
  replace r21712 := r21712.step hs
  replace r21714 := r21714.step hs
  refine W.heldG (.q 0 (.q 2 (.l 1 (.l 3 (.l 4 (.l 5 .done .no) .no) .no) .no))) (SK (Stp I0 w21727.drew I0) [(g21722, [(.bool x21710.Num.Neg), v21711, (.bool x21710.Den.Neg), v21713], 26), (g21724, [(.bool x21715.Num.Neg), v21716, (.bool x21715.Den.Neg), v21718], 26)] [[4], [5]]) MX (by kernel_rfl) ⟨Stp.refl _ _, (kp_cons (fun _ => (hp.own 2 _ _ _ rfl).1) (kp_cons (fun _ => (hp.own 1 _ _ _ rfl).1) kp_nil))⟩ ?_
  have hz := Stp.refl I0 w21727.drew
  refine ⟨SK.same (by kernel_rfl), ?_⟩
  refine evh (fun w' hw => rn_load rfl rfl (run_loadVarA T26 rfl ((S0.keep (p := 0) hw rfl rfl (by kernel_rfl)).at_ (i := 0) rfl))) ?_
  refine ⟨SK.same (by kernel_rfl), ?_⟩
  refine evh (fun w' hw => rn_load rfl rfl (run_loadVarA T26 rfl ((S0.keep (p := 1) hw rfl rfl (by kernel_rfl)).at_ (i := 0) rfl))) ?_
  refine ⟨?_, trivial⟩
  obtain ⟨x21746, q21747, h⟩ := bind_some h
  refine ev_call rfl rfl C38 (((rational_Norm_ok n) _ _  (Rational.mk (Int_2.mk x21710.Num.Neg x21710.Num.Mag) (Int_2.mk x21710.Den.Neg x21710.Den.Mag)) v21711 r21712 v21713 r21714 hp.imm _ q21747).mono ?_)
  rintro _ w21748 ⟨I21749, v21750, v21752, hv, hq, r21751, r21753⟩
  replace hv := hv.symm
  subst hv
  have hs := hq.st
  have hp := hp.join0 hq
  replace hz := hz.trans hs
  replace r21717 := r21717.step hs
  replace r21719 := r21719.step hs
  replace r21712 := r21712.step hs
  replace r21714 := r21714.step hs
  refine ⟨SK (Stp I21749 w21748 I21749) [(g21722, [(.bool x21710.Num.Neg), v21711, (.bool x21710.Den.Neg), v21713], 26), (g21724, [(.bool x21715.Num.Neg), v21716, (.bool x21715.Den.Neg), v21718], 26)] [[4], [5]], ⟨Stp.refl _ _, (kp_cons (fun _ => (hp.own 2 _ _ _ rfl).1) (kp_cons (fun _ => (hp.own 1 _ _ _ rfl).1) kp_nil))⟩, fun L x h => ⟨hz.held h.1, h.2⟩, ?_⟩
  have hz := Stp.refl I21749 w21748
  refine ⟨?_, trivial⟩
  obtain ⟨x21754, q21755, h⟩ := bind_some h
  refine ev_call rfl rfl C38 (((rational_Norm_ok n) _ _  (Rational.mk (Int_2.mk x21715.Num.Neg x21715.Num.Mag) (Int_2.mk x21715.Den.Neg x21715.Den.Mag)) v21716 r21717 v21718 r21719 hp.imm _ q21755).mono ?_)
  rintro _ w21756 ⟨I21757, v21758, v21760, hv, hq, r21759, r21761⟩
  replace hv := hv.symm
  subst hv
  have hs := hq.st
  have hp := hp.join0 hq
  replace hz := hz.trans hs
  replace r21751 := r21751.step hs
  replace r21753 := r21753.step hs
  replace r21717 := r21717.step hs
  replace r21719 := r21719.step hs
  replace r21712 := r21712.step hs
  replace r21714 := r21714.step hs
  refine ⟨SK (Stp I21757 w21756 I21757) [(g21722, [(.bool x21710.Num.Neg), v21711, (.bool x21710.Den.Neg), v21713], 26), (g21724, [(.bool x21715.Num.Neg), v21716, (.bool x21715.Den.Neg), v21718], 26)] [[4], [5]], ⟨Stp.refl _ _, (kp_cons (fun _ => (hp.own 2 _ _ _ rfl).1) (kp_cons (fun _ => (hp.own 1 _ _ _ rfl).1) kp_nil))⟩, fun L x h => ⟨hz.held h.1, h.2⟩, ?_⟩
  have hz := Stp.refl I21757 w21756
  refine ⟨?_, trivial⟩
  refine ev_storeA hp (i := 2) (off := 0) (vs := [(.bool x21746.Num.Neg), v21750, (.bool x21746.Den.Neg), v21752]) rfl rfl rfl rfl T26 rfl (Nat.le_of_ble_eq_true rfl) (ones_cons rfl (ones_cons r21751.one (ones_cons rfl (ones_cons r21753.one ones_nil)))) ?_
  intro w21762 hp hs
  replace hz := hz.trans hs
  replace r21759 := r21759.step hs
  replace r21761 := r21761.step hs
  replace r21717 := r21717.step hs
  replace r21719 := r21719.step hs
  replace r21751 := r21751.step hs
  replace r21753 := r21753.step hs
  refine ⟨SK (Stp I21757 w21762 I21757) [(g21722, [(.bool x21710.Num.Neg), v21711, (.bool x21710.Den.Neg), v21713], 26), (g21724, [(.bool x21715.Num.Neg), v21716, (.bool x21715.Den.Neg), v21718], 26)] [[4], [5]], ⟨Stp.refl _ _, (kp_cons (kp_off (by kernel_rfl)) (kp_cons (fun _ => (hp.own 1 _ _ _ rfl).1) kp_nil))⟩, fun L x h => ⟨hz.held h.1, h.2⟩, ?_⟩
  have hz := Stp.refl I21757 w21762
  refine ⟨?_, trivial⟩
  refine ev_storeA hp (i := 1) (off := 0) (vs := [(.bool x21754.Num.Neg), v21758, (.bool x21754.Den.Neg), v21760]) rfl rfl rfl rfl T26 rfl (Nat.le_of_ble_eq_true rfl) (ones_cons rfl (ones_cons r21759.one (ones_cons rfl (ones_cons r21761.one ones_nil)))) ?_
  intro w21763 hp hs
  replace hz := hz.trans hs
  replace r21759 := r21759.step hs
  replace r21761 := r21761.step hs
  replace r21751 := r21751.step hs
  replace r21753 := r21753.step hs
  refine ⟨SK (Stp I21757 w21763 I21757) [(g21722, [(.bool x21710.Num.Neg), v21711, (.bool x21710.Den.Neg), v21713], 26), (g21724, [(.bool x21715.Num.Neg), v21716, (.bool x21715.Den.Neg), v21718], 26)] [[4], [5]], ⟨Stp.refl _ _, (kp_cons (kp_off (by kernel_rfl)) (kp_cons (kp_off (by kernel_rfl)) kp_nil))⟩, fun L x h => ⟨hz.held h.1, h.2⟩, ?_⟩
  have hz := Stp.refl I21757 w21763
  apply go
  have hs := hp.stp (Ch.drew [] w21763)
  have hp := hp.drew
  replace r21759 := r21759.step hs
  replace r21761 := r21761.step hs
  replace r21751 := r21751.step hs
  replace r21753 := r21753.step hs
  refine W.heldT [(0, true), (1, true), (2, true), (3, true), (5, true), (6, true), (7, true), (8, true), (11, true), (12, true), (13, true), (14, true), (4, false), (9, false), (10, false), (15, false), (16, false), (17, false)] (fun x => Stp I21757 w21763.drew I21757 x ∧ OwnK [(g21722, [(.bool x21746.Num.Neg), v21750, (.bool x21746.Den.Neg), v21752], 26), (g21724, [(.bool x21754.Num.Neg), v21758, (.bool x21754.Den.Neg), v21760], 26)] x) MX (by kernel_rfl) ⟨Stp.refl _ _, (OwnK.cons (hp.own 2 _ _ _ rfl).1 (OwnK.cons (hp.own 1 _ _ _ rfl).1 OwnK.nil))⟩ ?_
  have hz := Stp.refl I21757 w21763.drew
  intro ops hops
  have e0 : nthO ops 0 = some _ := (hops 0).trans rfl
  have e1 : nthO ops 1 = some _ := (hops 1).trans rfl
  have e2 : nthO ops 2 = some _ := (hops 2).trans rfl
  have e3 : nthO ops 3 = some _ := (hops 3).trans rfl
  have e4 : nthO ops 4 = some _ := (hops 4).trans rfl
  have e5 : nthO ops 5 = some _ := (hops 5).trans rfl
  have e6 : nthO ops 6 = some _ := (hops 6).trans rfl
  have e7 : nthO ops 7 = some _ := (hops 7).trans rfl
  have e8 : nthO ops 8 = some _ := (hops 8).trans rfl
  have e9 : nthO ops 9 = some _ := (hops 9).trans rfl
  have e10 : nthO ops 10 = some _ := (hops 10).trans rfl
  have e11 : nthO ops 11 = some _ := (hops 11).trans rfl
  have e12 : nthO ops 12 = some _ := (hops 12).trans rfl
  have e13 : nthO ops 13 = some _ := (hops 13).trans rfl
  have e14 : nthO ops 14 = some _ := (hops 14).trans rfl
  have e15 : nthO ops 15 = some _ := (hops 15).trans rfl
  have e16 : nthO ops 16 = some _ := (hops 16).trans rfl
  have e17 : nthO ops 17 = some _ := (hops 17).trans rfl
  clear hops
  refine vch_q e0 rfl ?_
  refine evh0 (rn_field rfl rfl FO26_0) ?_
  refine vch_q e1 rfl ?_
  refine evh (fun w' hw => rn_load rfl rfl (run_loadVarA T24 rfl (((hw.2.at_ (i := 0) rfl).drop 0).take 2))) ?_
  refine vch_q e2 rfl ?_
  refine evh0 (rn_field rfl rfl FO26_1) ?_
  refine vch_q e3 rfl ?_
  refine evh (fun w' hw => rn_load rfl rfl (run_loadVarA T24 rfl (((hw.2.at_ (i := 1) rfl).drop 2).take 2))) ?_
  refine vch_q e5 rfl ?_
  refine evh0 (rn_field rfl rfl FO26_0) ?_
  refine vch_q e6 rfl ?_
  refine evh (fun w' hw => rn_load rfl rfl (run_loadVarA T24 rfl (((hw.2.at_ (i := 1) rfl).drop 0).take 2))) ?_
  refine vch_q e7 rfl ?_
  refine evh0 (rn_field rfl rfl FO26_1) ?_
  refine vch_q e8 rfl ?_
  refine evh (fun w' hw => rn_load rfl rfl (run_loadVarA T24 rfl (((hw.2.at_ (i := 0) rfl).drop 2).take 2))) ?_
  refine vch_q e11 rfl ?_
  refine evh0 (rn_field rfl rfl FO26_1) ?_
  refine vch_q e12 rfl ?_
  refine evh (fun w' hw => rn_load rfl rfl (run_loadVarA T24 rfl (((hw.2.at_ (i := 0) rfl).drop 2).take 2))) ?_
  refine vch_q e13 rfl ?_
  refine evh0 (rn_field rfl rfl FO26_1) ?_
  refine vch_q e14 rfl ?_
  refine evh (fun w' hw => rn_load rfl rfl (run_loadVarA T24 rfl (((hw.2.at_ (i := 1) rfl).drop 2).take 2))) ?_
  refine vch_l e4 rfl ?_
  obtain ⟨x21797, q21798, h⟩ := bind_some h
  refine ev_call rfl rfl C47 (((integer_Mul_ok n) _ _  (Int_2.mk x21746.Num.Neg x21746.Num.Mag) v21750 r21751 (Int_2.mk x21754.Den.Neg x21754.Den.Mag) v21760 r21761 hp.imm _ q21798).mono ?_)
  rintro _ w21799 ⟨I21800, v21801, hv, hq, r21802⟩
  replace hv := hv.symm
  subst hv
  have hs := hq.st
  have hp := hp.join0 hq
  replace hz := hz.trans hs
  replace r21759 := r21759.step hs
  replace r21753 := r21753.step hs
  replace r21761 := r21761.step hs
  replace r21751 := r21751.step hs
  refine ⟨fun x => Stp I21800 w21799 I21800 x ∧ OwnK [(g21722, [(.bool x21746.Num.Neg), v21750, (.bool x21746.Den.Neg), v21752], 26), (g21724, [(.bool x21754.Num.Neg), v21758, (.bool x21754.Den.Neg), v21760], 26)] x, ⟨Stp.refl _ _, (OwnK.cons (hp.own 2 _ _ _ rfl).1 (OwnK.cons (hp.own 1 _ _ _ rfl).1 OwnK.nil))⟩, fun x hx => ⟨hz.held hx.1, hx.2⟩, ?_⟩
  have hz := Stp.refl I21800 w21799
  refine vch_l e9 rfl ?_
  obtain ⟨x21803, q21804, h⟩ := bind_some h
  refine ev_call rfl rfl C47 (((integer_Mul_ok n) _ _  (Int_2.mk x21754.Num.Neg x21754.Num.Mag) v21758 r21759 (Int_2.mk x21746.Den.Neg x21746.Den.Mag) v21752 r21753 hp.imm _ q21804).mono ?_)
  rintro _ w21805 ⟨I21806, v21807, hv, hq, r21808⟩
  replace hv := hv.symm
  subst hv
  have hs := hq.st
  have hp := hp.join0 hq
  replace hz := hz.trans hs
  replace r21753 := r21753.step hs
  replace r21761 := r21761.step hs
  replace r21802 := r21802.step hs
  replace r21759 := r21759.step hs
  replace r21751 := r21751.step hs
  refine ⟨fun x => Stp I21806 w21805 I21806 x ∧ OwnK [(g21722, [(.bool x21746.Num.Neg), v21750, (.bool x21746.Den.Neg), v21752], 26), (g21724, [(.bool x21754.Num.Neg), v21758, (.bool x21754.Den.Neg), v21760], 26)] x, ⟨Stp.refl _ _, (OwnK.cons (hp.own 2 _ _ _ rfl).1 (OwnK.cons (hp.own 1 _ _ _ rfl).1 OwnK.nil))⟩, fun x hx => ⟨hz.held hx.1, hx.2⟩, ?_⟩
  have hz := Stp.refl I21806 w21805
  refine vch_l e10 rfl ?_
  obtain ⟨x21809, q21810, h⟩ := bind_some h
  refine ev_call rfl rfl C71 (((integer_Add_ok n) _ _  x21797 v21801 r21802 x21803 v21807 r21808 hp.imm _ q21810).mono ?_)
  rintro _ w21811 ⟨I21812, v21813, hv, hq, r21814⟩
  replace hv := hv.symm
  subst hv
  have hs := hq.st
  have hp := hp.join0 hq
  replace hz := hz.trans hs
  replace r21753 := r21753.step hs
  replace r21761 := r21761.step hs
  replace r21759 := r21759.step hs
  replace r21751 := r21751.step hs
  refine ⟨fun x => Stp I21812 w21811 I21812 x ∧ OwnK [(g21722, [(.bool x21746.Num.Neg), v21750, (.bool x21746.Den.Neg), v21752], 26), (g21724, [(.bool x21754.Num.Neg), v21758, (.bool x21754.Den.Neg), v21760], 26)] x, ⟨Stp.refl _ _, (OwnK.cons (hp.own 2 _ _ _ rfl).1 (OwnK.cons (hp.own 1 _ _ _ rfl).1 OwnK.nil))⟩, fun x hx => ⟨hz.held hx.1, hx.2⟩, ?_⟩
  have hz := Stp.refl I21812 w21811
  refine vch_l e15 rfl ?_
  obtain ⟨x21815, q21816, h⟩ := bind_some h
  refine ev_call rfl rfl C47 (((integer_Mul_ok n) _ _  (Int_2.mk x21746.Den.Neg x21746.Den.Mag) v21752 r21753 (Int_2.mk x21754.Den.Neg x21754.Den.Mag) v21760 r21761 hp.imm _ q21816).mono ?_)
  rintro _ w21817 ⟨I21818, v21819, hv, hq, r21820⟩
  replace hv := hv.symm
  subst hv
  have hs := hq.st
  have hp := hp.join0 hq
  replace hz := hz.trans hs
  replace r21814 := r21814.step hs
  replace r21759 := r21759.step hs
  replace r21761 := r21761.step hs
  replace r21751 := r21751.step hs
  replace r21753 := r21753.step hs
  refine ⟨fun x => Stp I21818 w21817 I21818 x ∧ OwnK [(g21722, [(.bool x21746.Num.Neg), v21750, (.bool x21746.Den.Neg), v21752], 26), (g21724, [(.bool x21754.Num.Neg), v21758, (.bool x21754.Den.Neg), v21760], 26)] x, ⟨Stp.refl _ _, (OwnK.cons (hp.own 2 _ _ _ rfl).1 (OwnK.cons (hp.own 1 _ _ _ rfl).1 OwnK.nil))⟩, fun x hx => ⟨hz.held hx.1, hx.2⟩, ?_⟩
  have hz := Stp.refl I21818 w21817
  refine vch_l e16 rfl ?_
  obtain ⟨x21821, q21822, h⟩ := bind_some h
  refine ev_call rfl rfl C28 (((rational_New_ok n) _ _  x21809 v21813 r21814 x21815 v21819 r21820 hp.imm _ q21822).mono ?_)
  rintro _ w21823 ⟨I21824, v21825, v21827, hv, hq, r21826, r21828⟩
  replace hv := hv.symm
  subst hv
  have hs := hq.st
  have hp := hp.join0 hq
  replace hz := hz.trans hs
  replace r21759 := r21759.step hs
  replace r21761 := r21761.step hs
  replace r21751 := r21751.step hs
  replace r21753 := r21753.step hs
  refine ⟨fun x => Stp I21824 w21823 I21824 x ∧ OwnK [(g21722, [(.bool x21746.Num.Neg), v21750, (.bool x21746.Den.Neg), v21752], 26), (g21724, [(.bool x21754.Num.Neg), v21758, (.bool x21754.Den.Neg), v21760], 26)] x, ⟨Stp.refl _ _, (OwnK.cons (hp.own 2 _ _ _ rfl).1 (OwnK.cons (hp.own 1 _ _ _ rfl).1 OwnK.nil))⟩, fun x hx => ⟨hz.held hx.1, hx.2⟩, ?_⟩
  have hz := Stp.refl I21824 w21823
  refine vch_l e17 rfl ?_
  refine ev_storeA hp (i := 0) (off := 0) (vs := [(.bool x21821.Num.Neg), v21825, (.bool x21821.Den.Neg), v21827]) rfl rfl rfl rfl T26 rfl (Nat.le_of_ble_eq_true rfl) (ones_cons rfl (ones_cons r21826.one (ones_cons rfl (ones_cons r21828.one ones_nil)))) ?_
  intro w21829 hp hs
  replace hz := hz.trans hs
  replace r21826 := r21826.step hs
  replace r21828 := r21828.step hs
  replace r21759 := r21759.step hs
  replace r21761 := r21761.step hs
  replace r21751 := r21751.step hs
  replace r21753 := r21753.step hs
  refine ⟨fun x => Stp I21824 w21829 I21824 x ∧ OwnK [(g21722, [(.bool x21746.Num.Neg), v21750, (.bool x21746.Den.Neg), v21752], 26), (g21724, [(.bool x21754.Num.Neg), v21758, (.bool x21754.Den.Neg), v21760], 26)] x, ⟨Stp.refl _ _, (OwnK.cons (hp.own 2 _ _ _ rfl).1 (OwnK.cons (hp.own 1 _ _ _ rfl).1 OwnK.nil))⟩, fun x hx => ⟨hz.held hx.1, hx.2⟩, ?_⟩
  have hz := Stp.refl I21824 w21829
  refine vch_end ?_
  apply go
  obtain rfl := Option.some.inj h
  refine ⟨_, run_loadVarA T26 rfl (hp.at_ (i := 0) rfl), ?_⟩
  have hp := hp.sel [] (by decide)
  exact ⟨I21824, v21825, v21827, rfl, hp, r21826, r21828⟩

end Go.Proofs.YtepadjfmcbjkmaaGreatDoor

namespace Go.Proofs.YtepadjfmcbjkmaaGreatDoor
open Go Go.Proofs.YtepadjfmcbjkmaaGreatDoor.Gw Go.RowKit
set_option linter.unusedVariables false
attribute [local irreducible] Ev EvQ EvS EvH
def law02_awake_S (f : Option Bool) : Prop := ∀ (w0 : World) (I0 : Nat → Prop) (tb : Tb w0 I0 4 .u64 pow10)  (hI : ∀ g, I0 g → g < w0.heap.size) (r : Bool), f  = some r →
    Ret Tryz.prog 8 #[] w0 fun v w1 => v = (.bool r) ∧ Ch [] w0 w1
theorem law02_awake_ok (n : Nat) : law02_awake_S (law02_awake n) := by
  intro w0 I0 tb hI r h
  unfold law02_awake at h
  refine enter Tryz.func8 rfl (Nat.le_of_ble_eq_true rfl) ?_
  have hp : Hp ⟨w0, I0, []⟩ I0 [] w0 := Hp.start hI
  apply go
  apply go
  obtain ⟨y21871, q21872, h⟩ := bind_some h
  refine W.cut (γ := (Bool × (Nat → Prop))) (fun g => [(0, (.bool (g.1)))]) (fun g w' => y21871 = (g.1) ∧ Hp ⟨w0, I0, []⟩ (g.2) [] w' ∧ Tb w' (g.2) 4 .u64 pow10) ?_ ?_
  ·
    apply go
    obtain ⟨x21873, q21874, q21872⟩ := bind_some q21872
    refine ev_call rfl rfl C29 (((rational_Of_ok n) _ _  6 (-4) hp.imm _ q21874).mono ?_)
    rintro _ w21875 ⟨I21876, v21877, v21879, hv, hq, r21878, r21880⟩
    replace hv := hv.symm
    subst hv
    have hs := hq.st
    have hp := hp.join0 hq
    replace tb := tb.step hs
    obtain ⟨x21881, q21882, q21872⟩ := bind_some q21872
    refine ev_call rfl rfl C33 (((rational_Text_ok n) _ _ tb x21873 v21877 r21878 v21879 r21880 hp.imm _ q21882).mono ?_)
    rintro _ w21883 ⟨rfl, hc⟩
    have hs := hp.stp hc
    replace hp := hp.ext hc
    replace tb := tb.step hs
    refine sel_of (fun hc => ?_) (fun hc => ?_)
    ·
      have q21872 := cond_t q21872 hc
      obtain ⟨x21884, q21885, q21872⟩ := bind_some q21872
      refine ev_call rfl rfl C29 (((rational_Of_ok n) _ _  1 2 hp.imm _ q21885).mono ?_)
      rintro _ w21886 ⟨I21887, v21888, v21890, hv, hq, r21889, r21891⟩
      replace hv := hv.symm
      subst hv
      have hs := hq.st
      have hp := hp.join0 hq
      replace tb := tb.step hs
      obtain ⟨x21892, q21893, q21872⟩ := bind_some q21872
      refine ev_call rfl rfl C29 (((rational_Of_ok n) _ _  1 3 hp.imm _ q21893).mono ?_)
      rintro _ w21894 ⟨I21895, v21896, v21898, hv, hq, r21897, r21899⟩
      replace hv := hv.symm
      subst hv
      have hs := hq.st
      have hp := hp.join0 hq
      replace r21889 := r21889.step hs
      replace r21891 := r21891.step hs
      replace tb := tb.step hs
      obtain ⟨x21900, q21901, q21872⟩ := bind_some q21872
      refine ev_call rfl rfl C36 (((rational_Add_ok n) _ _  x21884 v21888 r21889 v21890 r21891 x21892 v21896 r21897 v21898 r21899 hp.imm _ q21901).mono ?_)
      rintro _ w21902 ⟨I21903, v21904, v21906, hv, hq, r21905, r21907⟩
      replace hv := hv.symm
      subst hv
      have hs := hq.st
      have hp := hp.join0 hq
      replace tb := tb.step hs
      obtain ⟨x21908, q21909, q21872⟩ := bind_some q21872
      refine ev_call rfl rfl C33 (((rational_Text_ok n) _ _ tb x21900 v21904 r21905 v21906 r21907 hp.imm _ q21909).mono ?_)
      rintro _ w21910 ⟨rfl, hc⟩
      have hs := hp.stp hc
      replace hp := hp.ext hc
      replace tb := tb.step hs
      obtain rfl := Option.some.inj q21872
      exact ⟨((x21908.toList == (ByteArray.mk #[53, 47, 54]).toList), I21903), (.c rfl .n), rfl, hp, tb⟩
    ·
      have q21872 := cond_f q21872 hc
      obtain rfl := Option.some.inj q21872
      exact ⟨(false, I21876), (.c rfl .n), rfl, hp, tb⟩
  ·
    rintro ⟨x21868, I21869⟩ w21870 ⟨hy, hp, tb⟩
    replace hy := hy.symm
    subst hy
    apply go
    obtain rfl := Option.some.inj h
    exact ⟨rfl, hp.ch⟩

end Go.Proofs.YtepadjfmcbjkmaaGreatDoor

namespace Go.Proofs.YtepadjfmcbjkmaaGreatDoor
open Go Go.Proofs.YtepadjfmcbjkmaaGreatDoor.Gw Go.RowKit
set_option linter.unusedVariables false
attribute [local irreducible] Ev EvQ EvS EvH
def ref02_Few_S (f : (List Rational) → Option Bool) : Prop := ∀ (w0 : World) (I0 : Nat → Prop) (x21911 : (List Rational)) (v21912 : Value) (r21913 : RepS dRational w0 I0 v21912 x21911) (hI : ∀ g, I0 g → g < w0.heap.size) (r : Bool), f x21911 = some r →
    Ret Tryz.prog 37 #[v21912] w0 fun v w1 => v = (.bool r) ∧ Ch [] w0 w1
theorem ref02_Few_ok (n : Nat) : ref02_Few_S (ref02_Few n) := by
  intro w0 I0 x21911 v21912 r21913 hI r h
  unfold ref02_Few at h
  refine enter Tryz.func37 rfl (Nat.le_of_ble_eq_true rfl) ?_
  have hp : Hp ⟨w0, I0, []⟩ I0 [] w0 := Hp.start hI
  apply go
  apply go
  apply go
  apply go
  obtain ⟨y21997, q21998, h⟩ := bind_some h
  refine W.cut (γ := Int) (fun g => [(0, v21912), (3, (.int .i64 (g)))]) (fun g w' => y21997 = (g) ∧ Hp ⟨w0, I0, []⟩ I0 [] w' ∧ RepS dRational w' I0 v21912 x21911) ?_ ?_
  ·
    apply go
    apply go
    apply go
    refine W.loop q21998 (γ := Unit) (fun s _ => [(0, v21912), (3, (.int .i64 (s.1))), (4, (.int .i64 (s.2)))]) (fun s _ w' => Hp ⟨w0, I0, []⟩ I0 [] w' ∧ RepS dRational w' I0 v21912 x21911) () (.c rfl (.c rfl (.c rfl .n))) ⟨hp, r21913⟩ ?_
    rintro ⟨x22023, x22024⟩ ⟨⟩ w22051 y22052 ⟨hp, r21913⟩ q22053 q22054
    unfold ref02_Few_L1 at q22053
    apply go
    obtain ⟨y22056, q22057, q22053⟩ := bind_some q22053
    refine W.cut (γ := Bool) (fun g => [(0, v21912), (3, (.int .i64 x22023)), (4, (.int .i64 x22024)), (12, (.bool (g)))]) (fun g w' => y22056 = (g) ∧ w22051 = w') ?_ ?_
    ·
      apply go
      refine ev0 (rn_len rfl rfl Tryz.underlying56 r21913) ?_
      refine sel_of (fun hc => ?_) (fun hc => ?_)
      ·
        have q22057 := cond_t q22057 hc
        obtain rfl := Option.some.inj q22057
        exact ⟨(decide (x22024 < 50)), (.c rfl (.c rfl (.c rfl (.c rfl .n)))), rfl, rfl⟩
      ·
        have q22057 := cond_f q22057 hc
        obtain rfl := Option.some.inj q22057
        exact ⟨false, (.c rfl (.c rfl (.c rfl (.c rfl .n)))), rfl, rfl⟩
    ·
      rintro x22055 _ ⟨hy, rfl⟩
      replace hy := hy.symm
      subst hy
      apply go
      refine sel_of (fun hc => ?_) (fun hc => ?_)
      ·
        have q22053 := cond_t q22053 hc
        apply go
        apply go
        apply go
        refine W.quiet (fun w' => Ch [] w22051 w') MX (by kernel_rfl) (Ch.drew [] w22051) ?_
        obtain ⟨x22058, q22059, q22053⟩ := bind_some q22053
        refine evq_index rfl rfl rfl Tryz.underlying56 T26 r21913 q22059 ?_
        intro p22060 c22061 d22062 a22063
        obtain ⟨v22064, v22066, rfl, r22065, r22067⟩ := dRational_o d22062
        refine evq0 (rn_field rfl rfl FO26_0) ?_
        refine evq0 (rn_field rfl rfl FO24_1) ?_
        refine evq (fun w' hw => rn_load rfl rfl (run_loadVar1 T22 ((a22063.step (hp.stp hw)).2 1 _ rfl))) ?_
        refine evq0 (rn_len rfl rfl Tryz.underlying22 r22065) ?_
        refine evq0 (rn_min rfl rfl rfl) ?_
        obtain ⟨x22068, q22069, q22053⟩ := bind_some q22053
        refine evq_index rfl rfl rfl Tryz.underlying56 T26 r21913 q22069 ?_
        intro p22070 c22071 d22072 a22073
        obtain ⟨v22074, v22076, rfl, r22075, r22077⟩ := dRational_o d22072
        refine evq0 (rn_field rfl rfl FO26_1) ?_
        refine evq0 (rn_fieldAt rfl rfl FO24_1) ?_
        refine evq (fun w' hw => rn_load rfl rfl (run_loadVar1 T22 ((a22073.step (hp.stp hw)).2 3 _ rfl))) ?_
        refine evq0 (rn_len rfl rfl Tryz.underlying22 r22077) ?_
        refine evq0 (rn_min rfl rfl rfl) ?_
        intro w22078 hc
        have hs := hp.stp hc
        replace hp := hp.ext hc
        replace r21913 := r21913.step hs
        apply go
        exact ⟨_, (Option.some.inj q22053).symm, (), (.c rfl (.c rfl (.c rfl .n))), ⟨hp, r21913⟩⟩
      ·
        have q22053 := cond_f q22053 hc
        apply go
        have q22079 := congrArg some (q22054 _ (Option.some.inj q22053).symm)
        obtain rfl := Option.some.inj q22079
        exact ⟨x22023, (.c rfl (.c rfl .n)), rfl, hp, r21913⟩
  ·
    rintro x21995 w21996 ⟨hy, hp, r21913⟩
    replace hy := hy.symm
    subst hy
    obtain ⟨y22081, q22082, h⟩ := bind_some h
    refine W.cut (γ := Bool) (fun g => [(2, (.bool (g)))]) (fun g w' => y22081 = (g) ∧ w21996 = w') ?_ ?_
    ·
      apply go
      refine ev0 (rn_len rfl rfl Tryz.underlying56 r21913) ?_
      refine sel_of (fun hc => ?_) (fun hc => ?_)
      ·
        have q22082 := cond_t q22082 hc
        obtain rfl := Option.some.inj q22082
        exact ⟨(decide (x21995 ≤ 60)), (.c rfl .n), rfl, rfl⟩
      ·
        have q22082 := cond_f q22082 hc
        obtain rfl := Option.some.inj q22082
        exact ⟨false, (.c rfl .n), rfl, rfl⟩
    ·
      rintro x22080 _ ⟨hy, rfl⟩
      replace hy := hy.symm
      subst hy
      apply go
      obtain rfl := Option.some.inj h
      exact ⟨rfl, hp.ch⟩

end Go.Proofs.YtepadjfmcbjkmaaGreatDoor

namespace Go.Proofs.YtepadjfmcbjkmaaGreatDoor
open Go Go.Proofs.YtepadjfmcbjkmaaGreatDoor.Gw Go.RowKit
set_option linter.unusedVariables false
attribute [local irreducible] Ev EvQ EvS EvH
def law02_few_S (f : (List Rational) → Option Bool) : Prop := ∀ (w0 : World) (I0 : Nat → Prop) (x22083 : (List Rational)) (v22084 : Value) (r22085 : RepS dRational w0 I0 v22084 x22083) (hI : ∀ g, I0 g → g < w0.heap.size) (r : Bool), f x22083 = some r →
    Ret Tryz.prog 9 #[v22084] w0 fun v w1 => v = (.bool r) ∧ Ch [] w0 w1
theorem law02_few_ok (n : Nat) : law02_few_S (law02_few n) := by
  intro w0 I0 x22083 v22084 r22085 hI r h
  unfold law02_few at h
  refine enter Tryz.func9 rfl (Nat.le_of_ble_eq_true rfl) ?_
  have hp : Hp ⟨w0, I0, []⟩ I0 [] w0 := Hp.start hI
  apply go
  apply go
  apply go
  apply go
  obtain ⟨x22086, q22087, h⟩ := bind_some h
  refine ev_call rfl rfl C37 (((ref02_Few_ok n) _ _  x22083 v22084 r22085 hp.imm _ q22087).mono ?_)
  rintro _ w22088 ⟨rfl, hc⟩
  have hs := hp.stp hc
  replace hp := hp.ext hc
  apply go
  obtain rfl := Option.some.inj h
  exact ⟨rfl, hp.ch⟩

end Go.Proofs.YtepadjfmcbjkmaaGreatDoor

namespace Go.Proofs.YtepadjfmcbjkmaaGreatDoor
open Go Go.Proofs.YtepadjfmcbjkmaaGreatDoor.Gw Go.RowKit
set_option linter.unusedVariables false
attribute [local irreducible] Ev EvQ EvS EvH
def rational_Mul_S (f : Rational → Rational → Option Rational) : Prop := ∀ (w0 : World) (I0 : Nat → Prop) (x22089 : Rational) (v22090 : Value) (r22091 : RepS (dI .u32) w0 I0 v22090 x22089.Num.Mag) (v22092 : Value) (r22093 : RepS (dI .u32) w0 I0 v22092 x22089.Den.Mag) (x22094 : Rational) (v22095 : Value) (r22096 : RepS (dI .u32) w0 I0 v22095 x22094.Num.Mag) (v22097 : Value) (r22098 : RepS (dI .u32) w0 I0 v22097 x22094.Den.Mag) (hI : ∀ g, I0 g → g < w0.heap.size) (r : Rational), f x22089 x22094 = some r →
    Ret Tryz.prog 30 #[(.agg #[(.bool x22089.Num.Neg), v22090, (.bool x22089.Den.Neg), v22092]), (.agg #[(.bool x22094.Num.Neg), v22095, (.bool x22094.Den.Neg), v22097])] w0 fun v w1 => ∃ (I1 : Nat → Prop) (u22099 : Value) (u22100 : Value), v = (.agg #[(.bool r.Num.Neg), u22099, (.bool r.Den.Neg), u22100]) ∧ Hp ⟨w0, I0, []⟩ I1 [] w1 ∧ RepS (dI .u32) w1 I1 u22099 r.Num.Mag ∧ RepS (dI .u32) w1 I1 u22100 r.Den.Mag
theorem rational_Mul_ok (n : Nat) : rational_Mul_S (rational_Mul n) := by
  intro w0 I0 x22089 v22090 r22091 v22092 r22093 x22094 v22095 r22096 v22097 r22098 hI r h
  unfold rational_Mul at h
  refine enter Tryz.func30 rfl (Nat.le_of_ble_eq_true rfl) ?_
  have hp : Hp ⟨w0, I0, []⟩ I0 [] w0 := Hp.start hI
  apply go
  apply go
  refine ev_boxI hp rfl rfl ?_
  intro p22103 I22104 w22102 hp hs a22105
  replace r22096 := r22096.step hs
  replace r22098 := r22098.step hs
  replace r22091 := r22091.step hs
  replace r22093 := r22093.step hs
  refine ev_boxI hp rfl rfl ?_
  intro p22108 I22109 w22107 hp hs a22110
  replace a22105 := a22105.step hs
  replace r22091 := r22091.step hs
  replace r22093 := r22093.step hs
  replace r22096 := r22096.step hs
  replace r22098 := r22098.step hs
  refine ev_alloc hp rfl T26 ?_
  intro g22111 w22112 hp hs
  replace a22105 := a22105.step hs
  replace r22091 := r22091.step hs
  replace r22093 := r22093.step hs
  replace a22110 := a22110.step hs
  replace r22096 := r22096.step hs
  replace r22098 := r22098.step hs
  apply go
  have hs := hp.stp (Ch.drew [] w22112)
  have hp := hp.drew
  replace a22105 := a22105.step hs
  replace r22091 := r22091.step hs
  replace r22093 := r22093.step hs
  replace a22110 := a22110.step hs
  replace r22096 := r22096.step hs
  replace r22098 := r22098.step hs
  refine W.held [(0, true), (1, true), (2, true), (3, true), (5, true), (6, true), (7, true), (8, true), (4, false), (9, false), (10, false), (11, false)] (Stp I22109 w22112.drew I22109) MX (by kernel_rfl) (Stp.refl _ _) ?_
  have hz := Stp.refl I22109 w22112.drew
  refine evh0 (rn_field rfl rfl FO26_0) ?_
  refine evh (fun w' hw => rn_load rfl rfl (run_loadVarA T24 rfl (((a22105.step hw).drop 0).take 2))) ?_
  refine evh0 (rn_field rfl rfl FO26_0) ?_
  refine evh (fun w' hw => rn_load rfl rfl (run_loadVarA T24 rfl (((a22110.step hw).drop 0).take 2))) ?_
  refine evh0 (rn_field rfl rfl FO26_1) ?_
  refine evh (fun w' hw => rn_load rfl rfl (run_loadVarA T24 rfl (((a22105.step hw).drop 2).take 2))) ?_
  refine evh0 (rn_field rfl rfl FO26_1) ?_
  refine evh (fun w' hw => rn_load rfl rfl (run_loadVarA T24 rfl (((a22110.step hw).drop 2).take 2))) ?_
  obtain ⟨x22134, q22135, h⟩ := bind_some h
  refine ev_call rfl rfl C47 (((integer_Mul_ok n) _ _  (Int_2.mk x22089.Num.Neg x22089.Num.Mag) v22090 r22091 (Int_2.mk x22094.Num.Neg x22094.Num.Mag) v22095 r22096 hp.imm _ q22135).mono ?_)
  rintro _ w22136 ⟨I22137, v22138, hv, hq, r22139⟩
  replace hv := hv.symm
  subst hv
  have hs := hq.st
  have hp := hp.join0 hq
  replace hz := hz.trans hs
  replace r22093 := r22093.step hs
  replace r22098 := r22098.step hs
  refine ⟨Stp I22137 w22136 I22137, Stp.refl _ _, fun x hx => hz.held hx, ?_⟩
  have hz := Stp.refl I22137 w22136
  obtain ⟨x22140, q22141, h⟩ := bind_some h
  refine ev_call rfl rfl C47 (((integer_Mul_ok n) _ _  (Int_2.mk x22089.Den.Neg x22089.Den.Mag) v22092 r22093 (Int_2.mk x22094.Den.Neg x22094.Den.Mag) v22097 r22098 hp.imm _ q22141).mono ?_)
  rintro _ w22142 ⟨I22143, v22144, hv, hq, r22145⟩
  replace hv := hv.symm
  subst hv
  have hs := hq.st
  have hp := hp.join0 hq
  replace hz := hz.trans hs
  replace r22139 := r22139.step hs
  refine ⟨Stp I22143 w22142 I22143, Stp.refl _ _, fun x hx => hz.held hx, ?_⟩
  have hz := Stp.refl I22143 w22142
  obtain ⟨x22146, q22147, h⟩ := bind_some h
  refine ev_call rfl rfl C28 (((rational_New_ok n) _ _  x22134 v22138 r22139 x22140 v22144 r22145 hp.imm _ q22147).mono ?_)
  rintro _ w22148 ⟨I22149, v22150, v22152, hv, hq, r22151, r22153⟩
  replace hv := hv.symm
  subst hv
  have hs := hq.st
  have hp := hp.join0 hq
  replace hz := hz.trans hs
  refine ⟨Stp I22149 w22148 I22149, Stp.refl _ _, fun x hx => hz.held hx, ?_⟩
  have hz := Stp.refl I22149 w22148
  refine ev_storeA hp (i := 0) (off := 0) (vs := [(.bool x22146.Num.Neg), v22150, (.bool x22146.Den.Neg), v22152]) rfl rfl rfl rfl T26 rfl (Nat.le_of_ble_eq_true rfl) (ones_cons rfl (ones_cons r22151.one (ones_cons rfl (ones_cons r22153.one ones_nil)))) ?_
  intro w22154 hp hs
  replace hz := hz.trans hs
  replace r22151 := r22151.step hs
  replace r22153 := r22153.step hs
  refine ⟨Stp I22149 w22154 I22149, Stp.refl _ _, fun x hx => hz.held hx, ?_⟩
  have hz := Stp.refl I22149 w22154
  apply go
  obtain rfl := Option.some.inj h
  refine ⟨_, run_loadVarA T26 rfl (hp.at_ (i := 0) rfl), ?_⟩
  have hp := hp.sel [] (by decide)
  exact ⟨I22149, v22150, v22152, rfl, hp, r22151, r22153⟩

end Go.Proofs.YtepadjfmcbjkmaaGreatDoor

namespace Go.Proofs.YtepadjfmcbjkmaaGreatDoor
open Go Go.Proofs.YtepadjfmcbjkmaaGreatDoor.Gw Go.RowKit
set_option linter.unusedVariables false
attribute [local irreducible] Ev EvQ EvS EvH
def rational_Div_S (f : Rational → Rational → Option (Rational × Int)) : Prop := ∀ (w0 : World) (I0 : Nat → Prop) (x22155 : Rational) (v22156 : Value) (r22157 : RepS (dI .u32) w0 I0 v22156 x22155.Num.Mag) (v22158 : Value) (r22159 : RepS (dI .u32) w0 I0 v22158 x22155.Den.Mag) (x22160 : Rational) (v22161 : Value) (r22162 : RepS (dI .u32) w0 I0 v22161 x22160.Num.Mag) (v22163 : Value) (r22164 : RepS (dI .u32) w0 I0 v22163 x22160.Den.Mag) (hI : ∀ g, I0 g → g < w0.heap.size) (r : (Rational × Int)), f x22155 x22160 = some r →
    Ret Tryz.prog 10 #[(.agg #[(.bool x22155.Num.Neg), v22156, (.bool x22155.Den.Neg), v22158]), (.agg #[(.bool x22160.Num.Neg), v22161, (.bool x22160.Den.Neg), v22163])] w0 fun v w1 => ∃ (I1 : Nat → Prop) (u22165 : Value) (u22166 : Value), v = (.tuple #[(.agg #[(.bool r.1.Num.Neg), u22165, (.bool r.1.Den.Neg), u22166]), (.int .i64 r.2)]) ∧ Hp ⟨w0, I0, []⟩ I1 [] w1 ∧ RepS (dI .u32) w1 I1 u22165 r.1.Num.Mag ∧ RepS (dI .u32) w1 I1 u22166 r.1.Den.Mag
theorem rational_Div_ok (n : Nat) : rational_Div_S (rational_Div n) := by
  intro w0 I0 x22155 v22156 r22157 v22158 r22159 x22160 v22161 r22162 v22163 r22164 hI r h
  unfold rational_Div at h
  refine enter Tryz.func10 rfl (Nat.le_of_ble_eq_true rfl) ?_
  have hp : Hp ⟨w0, I0, []⟩ I0 [] w0 := Hp.start hI
  apply go
  apply go
  refine ev_boxI hp rfl rfl ?_
  intro p22169 I22170 w22168 hp hs a22171
  replace r22162 := r22162.step hs
  replace r22164 := r22164.step hs
  replace r22157 := r22157.step hs
  replace r22159 := r22159.step hs
  refine ev_box hp rfl rfl ?_
  intro g22172 w22173 hp hs
  replace a22171 := a22171.step hs
  replace r22157 := r22157.step hs
  replace r22159 := r22159.step hs
  replace r22162 := r22162.step hs
  replace r22164 := r22164.step hs
  refine ev_alloc hp rfl T26 ?_
  intro g22174 w22175 hp hs
  replace a22171 := a22171.step hs
  replace r22157 := r22157.step hs
  replace r22159 := r22159.step hs
  replace r22162 := r22162.step hs
  replace r22164 := r22164.step hs
  apply go
  apply go
  refine ev (rn_load rfl rfl (run_loadVarA T26 rfl (hp.at_ (i := 1) rfl))) ?_
  obtain ⟨x22176, q22177, h⟩ := bind_some h
  refine ev_call rfl rfl C38 (((rational_Norm_ok n) _ _  (Rational.mk (Int_2.mk x22160.Num.Neg x22160.Num.Mag) (Int_2.mk x22160.Den.Neg x22160.Den.Mag)) v22161 r22162 v22163 r22164 hp.imm _ q22177).mono ?_)
  rintro _ w22178 ⟨I22179, v22180, v22182, hv, hq, r22181, r22183⟩
  replace hv := hv.symm
  subst hv
  have hs := hq.st
  have hp := hp.join0 hq
  replace a22171 := a22171.step hs
  replace r22157 := r22157.step hs
  replace r22159 := r22159.step hs
  replace r22162 := r22162.step hs
  replace r22164 := r22164.step hs
  refine ev_storeA hp (i := 1) (off := 0) (vs := [(.bool x22176.Num.Neg), v22180, (.bool x22176.Den.Neg), v22182]) rfl rfl rfl rfl T26 rfl (Nat.le_of_ble_eq_true rfl) (ones_cons rfl (ones_cons r22181.one (ones_cons rfl (ones_cons r22183.one ones_nil)))) ?_
  intro w22184 hp hs
  replace a22171 := a22171.step hs
  replace r22157 := r22157.step hs
  replace r22159 := r22159.step hs
  replace r22181 := r22181.step hs
  replace r22183 := r22183.step hs
  apply go
  apply go
  apply go
  refine ev0 (rn_field rfl rfl FO26_0) ?_
  refine ev (rn_load rfl rfl (run_loadVarA T24 rfl (((hp.at_ (i := 1) rfl).drop 0).take 2))) ?_
  obtain ⟨x22185, q22186, h⟩ := bind_some h
  refine ev_call rfl rfl C39 (((integer_Sign_ok n) _ _  (Int_2.mk x22176.Num.Neg x22176.Num.Mag) v22180 r22181 hp.imm _ q22186).mono ?_)
  rintro _ w22187 ⟨rfl, hc⟩
  have hs := hp.stp hc
  replace hp := hp.ext hc
  replace a22171 := a22171.step hs
  replace r22157 := r22157.step hs
  replace r22159 := r22159.step hs
  replace r22181 := r22181.step hs
  replace r22183 := r22183.step hs
  apply go
  refine sel_of (fun hc => ?_) (fun hc => ?_)
  ·
    have h := cond_t h hc
    apply go
    apply go
    refine ev0 (fun w => rn_build (cs := [(.bool false), (.slice none 0 0), (.bool false), (.slice none 0 0)]) rfl rfl T26 PL26 rfl) ?_
    refine ev_storeA hp (i := 0) (off := 0) (vs := [(.bool false), (.slice none 0 0), (.bool false), (.slice none 0 0)]) rfl rfl rfl rfl T26 rfl (Nat.le_of_ble_eq_true rfl) (ones_of rfl) ?_
    intro w22188 hp hs
    replace r22181 := r22181.step hs
    replace r22183 := r22183.step hs
    apply go
    obtain rfl := Option.some.inj h
    refine ⟨_, run_loadVarA T26 rfl (hp.at_ (i := 0) rfl), ?_⟩
    have hp := hp.sel [] (by decide)
    exact ⟨I22179, .slice none 0 0, .slice none 0 0, rfl, hp, RepS.nil _ _ _, RepS.nil _ _ _⟩
  ·
    have h := cond_f h hc
    apply go
    apply go
    apply go
    refine ev (rn_load rfl rfl (run_loadVarA T26 rfl a22171)) ?_
    refine ev0 (rn_field rfl rfl FO26_1) ?_
    refine ev (rn_load rfl rfl (run_loadVarA T24 rfl (((hp.at_ (i := 1) rfl).drop 2).take 2))) ?_
    refine ev0 (rn_field rfl rfl FO26_0) ?_
    refine ev (rn_load rfl rfl (run_loadVarA T24 rfl (((hp.at_ (i := 1) rfl).drop 0).take 2))) ?_
    obtain ⟨A22189, m22190, m22191, rfl⟩ := r22183.isSl
    obtain ⟨A22193, m22194, m22195, rfl⟩ := r22181.isSl
    refine ev0 (fun w => rn_build (cs := [(.bool x22176.Den.Neg), (.slice A22189 m22190 m22191), (.bool x22176.Num.Neg), (.slice A22193 m22194 m22195)]) rfl rfl T26 PL26 rfl) ?_
    obtain ⟨x22197, q22198, h⟩ := bind_some h
    refine ev_call rfl rfl C30 (((rational_Mul_ok n) _ _  (Rational.mk (Int_2.mk x22155.Num.Neg x22155.Num.Mag) (Int_2.mk x22155.Den.Neg x22155.Den.Mag)) v22156 r22157 v22158 r22159 (Rational.mk (Int_2.mk x22176.Den.Neg x22176.Den.Mag) (Int_2.mk x22176.Num.Neg x22176.Num.Mag)) (.slice A22189 m22190 m22191) r22183 (.slice A22193 m22194 m22195) r22181 hp.imm _ q22198).mono ?_)
    rintro _ w22199 ⟨I22200, v22201, v22203, hv, hq, r22202, r22204⟩
    replace hv := hv.symm
    subst hv
    have hs := hq.st
    have hp := hp.join0 hq
    replace r22181 := r22181.step hs
    replace r22183 := r22183.step hs
    refine ev_storeA hp (i := 0) (off := 0) (vs := [(.bool x22197.Num.Neg), v22201, (.bool x22197.Den.Neg), v22203]) rfl rfl rfl rfl T26 rfl (Nat.le_of_ble_eq_true rfl) (ones_cons rfl (ones_cons r22202.one (ones_cons rfl (ones_cons r22204.one ones_nil)))) ?_
    intro w22205 hp hs
    replace r22202 := r22202.step hs
    replace r22204 := r22204.step hs
    replace r22181 := r22181.step hs
    replace r22183 := r22183.step hs
    apply go
    obtain rfl := Option.some.inj h
    refine ⟨_, run_loadVarA T26 rfl (hp.at_ (i := 0) rfl), ?_⟩
    have hp := hp.sel [] (by decide)
    exact ⟨I22200, v22201, v22203, rfl, hp, r22202, r22204⟩

end Go.Proofs.YtepadjfmcbjkmaaGreatDoor

namespace Go.Proofs.YtepadjfmcbjkmaaGreatDoor
open Go Go.Proofs.YtepadjfmcbjkmaaGreatDoor.Gw Go.RowKit
set_option linter.unusedVariables false
attribute [local irreducible] Ev EvQ EvS EvH
def ref01_trim_S (f : (List Int) → Option (List Int)) : Prop := ∀ (w0 : World) (I0 : Nat → Prop) (x22206 : (List Int)) (v22207 : Value) (r22208 : RepS (dI .u32) w0 I0 v22207 x22206) (hI : ∀ g, I0 g → g < w0.heap.size) (r : (List Int)), f x22206 = some r →
    Ret Tryz.prog 100 #[v22207] w0 fun v w1 => ∃ (I1 : Nat → Prop) (u22209 : Value) (u22210 : Ent), v = u22209 ∧ Hp ⟨w0, I0, []⟩ I1 [u22210] w1 ∧ OwnS (dI .u32) 46 w1 I1 u22209 u22210 r
theorem ref01_trim_ok (n : Nat) : ref01_trim_S (ref01_trim n) := by
  intro w0 I0 x22206 v22207 r22208 hI r h
  unfold ref01_trim at h
  refine enter Tryz.func100 rfl (Nat.le_of_ble_eq_true rfl) ?_
  have hp : Hp ⟨w0, I0, []⟩ I0 [] w0 := Hp.start hI
  apply go
  apply go
  obtain ⟨y22281, q22282, h⟩ := bind_some h
  refine W.cut (γ := ((List Int) × Value)) (fun g => [(0, (g.2))]) (fun g w' => y22281 = (g.1) ∧ w0 = w' ∧ RepS (dI .u32) w' I0 (g.2) (g.1)) ?_ ?_
  ·
    apply go
    refine W.loop q22282 (γ := Value) (fun s g => [(0, (g))]) (fun s g w' => w0 = w' ∧ RepS (dI .u32) w' I0 (g) (s)) v22207 (.c rfl .n) ⟨rfl, r22208⟩ ?_
    rintro x22302 v22303 _ y22327 ⟨rfl, r22304⟩ q22328 q22329
    unfold ref01_trim_L1 at q22328
    apply go
    obtain ⟨y22337, q22338, q22328⟩ := bind_some q22328
    refine W.cut (γ := Bool) (fun g => [(0, v22303), (14, (.bool (g)))]) (fun g w' => y22337 = (g) ∧ w0 = w') ?_ ?_
    ·
      apply go
      refine ev0 (rn_len rfl rfl Tryz.underlying22 r22304) ?_
      refine sel_of (fun hc => ?_) (fun hc => ?_)
      ·
        have q22338 := cond_t q22338 hc
        refine ev0 (rn_len rfl rfl Tryz.underlying22 r22304) ?_
        obtain ⟨x22339, q22340, q22338⟩ := bind_some q22338
        refine ev_index rfl rfl rfl Tryz.underlying22 T46 r22304 q22340 ?_
        intro p22341 c22342 d22343 a22344
        obtain rfl : c22342 = [(.int .u32 x22339)] := d22343
        refine ev (rn_load rfl rfl (run_loadVar1 T46 (a22344.2 0 _ rfl))) ?_
        obtain rfl := Option.some.inj q22338
        exact ⟨(x22339 == 0), (.c rfl (.c rfl .n)), rfl, rfl⟩
      ·
        have q22338 := cond_f q22338 hc
        obtain rfl := Option.some.inj q22338
        exact ⟨false, (.c rfl (.c rfl .n)), rfl, rfl⟩
    ·
      rintro x22336 _ ⟨hy, rfl⟩
      replace hy := hy.symm
      subst hy
      apply go
      refine sel_of (fun hc => ?_) (fun hc => ?_)
      ·
        have q22328 := cond_t q22328 hc
        apply go
        apply go
        apply go
        refine ev0 (rn_len rfl rfl Tryz.underlying22 r22304) ?_
        obtain ⟨x22345, q22346, q22328⟩ := bind_some q22328
        refine ev_slice (kl := .i64) (kh := .i64) rfl rfl rfl rfl Tryz.underlying22 T46 r22304 q22346 ?_
        intro v22347 r22348
        exact ⟨_, (Option.some.inj q22328).symm, v22347, (.c rfl .n), ⟨rfl, r22348⟩⟩
      ·
        have q22328 := cond_f q22328 hc
        apply go
        have q22349 := congrArg some (q22329 _ (Option.some.inj q22328).symm)
        obtain rfl := Option.some.inj q22349
        exact ⟨(x22302, v22303), (.c rfl .n), rfl, rfl, r22304⟩
  ·
    rintro ⟨x22278, v22279⟩ _ ⟨hy, rfl, r22280⟩
    replace hy := hy.symm
    subst hy
    apply go
    apply go
    refine ev_litON (d := (dI .u32)) (xs := ([] : List Int)) (cs := []) hp rfl rfl Tryz.underlying22 T46 (by decide) (by decide) rfl rfl (Elems.nil _ _ _ _) ?_
    intro v22350 e22352 w22351 hp hs o22353
    replace r22280 := r22280.step hs
    obtain ⟨x22354, q22355, h⟩ := bind_some h
    refine ev_append hp (i := 0) rfl rfl rfl rfl Tryz.underlying22 T46 rfl rfl o22353 r22280 q22355 ?_
    rintro v22356 e22357 w22358 hp hs o22359
    apply go
    obtain rfl := Option.some.inj h
    exact ⟨I0, v22356, e22357, rfl, hp, o22359⟩

end Go.Proofs.YtepadjfmcbjkmaaGreatDoor

namespace Go.Proofs.YtepadjfmcbjkmaaGreatDoor
open Go Go.Proofs.YtepadjfmcbjkmaaGreatDoor.Gw Go.RowKit
set_option linter.unusedVariables false
attribute [local irreducible] Ev EvQ EvS EvH
def ref01_Norm_S (f : Int_2 → Option Int_2) : Prop := ∀ (w0 : World) (I0 : Nat → Prop) (x22375 : Int_2) (v22376 : Value) (r22377 : RepS (dI .u32) w0 I0 v22376 x22375.Mag) (hI : ∀ g, I0 g → g < w0.heap.size) (r : Int_2), f x22375 = some r →
    Ret Tryz.prog 77 #[(.agg #[(.bool x22375.Neg), v22376])] w0 fun v w1 => ∃ (I1 : Nat → Prop) (u22378 : Value), v = (.agg #[(.bool r.Neg), u22378]) ∧ Hp ⟨w0, I0, []⟩ I1 [] w1 ∧ RepS (dI .u32) w1 I1 u22378 r.Mag
theorem ref01_Norm_ok (n : Nat) : ref01_Norm_S (ref01_Norm n) := by
  intro w0 I0 x22375 v22376 r22377 hI r h
  unfold ref01_Norm at h
  refine enter Tryz.func77 rfl (Nat.le_of_ble_eq_true rfl) ?_
  have hp : Hp ⟨w0, I0, []⟩ I0 [] w0 := Hp.start hI
  apply go
  apply go
  refine ev_boxI hp rfl rfl ?_
  intro p22381 I22382 w22380 hp hs a22383
  replace r22377 := r22377.step hs
  refine ev_alloc hp rfl T24 ?_
  intro g22384 w22385 hp hs
  replace a22383 := a22383.step hs
  replace r22377 := r22377.step hs
  apply go
  apply go
  refine ev0 (rn_field rfl rfl FO24_1) ?_
  refine ev (rn_load rfl rfl (run_loadVar1 T22 (a22383.2 1 _ rfl))) ?_
  obtain ⟨x22386, q22387, h⟩ := bind_some h
  refine ev_call rfl rfl C100 (((ref01_trim_ok n) _ _  x22375.Mag v22376 r22377 hp.imm _ q22387).mono ?_)
  rintro _ w22388 ⟨I22389, v22390, e22391, hv, hq, o22392⟩
  replace hv := hv.symm
  subst hv
  have hs := hq.st
  have hp := hp.join0 hq
  replace a22383 := a22383.step hs
  replace r22377 := r22377.step hs
  obtain ⟨y22409, q22410, h⟩ := bind_some h
  refine W.cut (γ := (Bool × (List Int) × Value × Ent)) (fun g => [(2, (.pointer (some ⟨g22384, 0, none⟩)))]) (fun g w' => y22409 = ((g.1), (g.2.1)) ∧ Hp ⟨w0, I0, []⟩ I22389 [(g.2.2.2), some (g22384, [(.bool (g.1)), (g.2.2.1)], 24)] w' ∧ OwnS (dI .u32) 46 w' I22389 (g.2.2.1) (g.2.2.2) (g.2.1)) ?_ ?_
  ·
    apply go
    refine ev0 (rn_field rfl rfl FO24_0) ?_
    refine ev (rn_load rfl rfl (run_loadVar1 T4 (a22383.2 0 _ rfl))) ?_
    refine sel_of (fun hc => ?_) (fun hc => ?_)
    ·
      have q22410 := cond_t q22410 hc
      refine ev0 (x_lenO rfl rfl Tryz.underlying22 o22392) ?_
      obtain ⟨A22411, m22412, m22413, rfl⟩ := o22392.isSl
      refine ev0 (fun w => rn_build (cs := [(.bool (decide ((x22386.length : Int) > 0))), (.slice A22411 m22412 m22413)]) rfl rfl T24 PL24 rfl) ?_
      refine ev_storeA hp (i := 1) (off := 0) (vs := [(.bool (decide ((x22386.length : Int) > 0))), (.slice A22411 m22412 m22413)]) rfl rfl rfl rfl T24 rfl (Nat.le_of_ble_eq_true rfl) (ones_cons rfl (ones_cons o22392.one ones_nil)) ?_
      intro w22415 hp hs
      replace o22392 := o22392.step hs
      obtain rfl := Option.some.inj q22410
      exact ⟨((decide ((x22386.length : Int) > 0)), x22386, (.slice A22411 m22412 m22413), e22391), (.c rfl .n), rfl, hp, o22392⟩
    ·
      have q22410 := cond_f q22410 hc
      obtain ⟨A22416, m22417, m22418, rfl⟩ := o22392.isSl
      refine ev0 (fun w => rn_build (cs := [(.bool false), (.slice A22416 m22417 m22418)]) rfl rfl T24 PL24 rfl) ?_
      refine ev_storeA hp (i := 1) (off := 0) (vs := [(.bool false), (.slice A22416 m22417 m22418)]) rfl rfl rfl rfl T24 rfl (Nat.le_of_ble_eq_true rfl) (ones_cons rfl (ones_cons o22392.one ones_nil)) ?_
      intro w22420 hp hs
      replace o22392 := o22392.step hs
      obtain rfl := Option.some.inj q22410
      exact ⟨(false, x22386, (.slice A22416 m22417 m22418), e22391), (.c rfl .n), rfl, hp, o22392⟩
  ·
    rintro ⟨x22403, x22404, v22405, e22406⟩ w22408 ⟨hy, hp, o22407⟩
    replace hy := hy.symm
    subst hy
    apply go
    obtain rfl := Option.some.inj h
    have r22421 := o22407.frz hp (i := 0) rfl
    obtain ⟨hp, hs⟩ := freeze_hp hp (i := 0) rfl
    have hp := hp.sel [1] (by decide)
    refine ⟨_, run_loadVarA T24 rfl (hp.at_ (i := 0) rfl), ?_⟩
    have hp := hp.sel [] (by decide)
    exact ⟨(Ad I22389 e22406), v22405, rfl, hp, r22421⟩

end Go.Proofs.YtepadjfmcbjkmaaGreatDoor

namespace Go.Proofs.YtepadjfmcbjkmaaGreatDoor
open Go Go.Proofs.YtepadjfmcbjkmaaGreatDoor.Gw Go.RowKit
set_option linter.unusedVariables false
attribute [local irreducible] Ev EvQ EvS EvH
def ref01_Of_S (f : Int → Option Int_2) : Prop := ∀ (w0 : World) (I0 : Nat → Prop) (x22422 : Int) (hI : ∀ g, I0 g → g < w0.heap.size) (r : Int_2), f x22422 = some r →
    Ret Tryz.prog 74 #[(.int .i64 x22422)] w0 fun v w1 => ∃ (I1 : Nat → Prop) (u22423 : Value), v = (.agg #[(.bool r.Neg), u22423]) ∧ Hp ⟨w0, I0, []⟩ I1 [] w1 ∧ RepS (dI .u32) w1 I1 u22423 r.Mag
theorem ref01_Of_ok (n : Nat) : ref01_Of_S (ref01_Of n) := by
  intro w0 I0 x22422 hI r h
  unfold ref01_Of at h
  refine enter Tryz.func74 rfl (Nat.le_of_ble_eq_true rfl) ?_
  have hp : Hp ⟨w0, I0, []⟩ I0 [] w0 := Hp.start hI
  apply go
  apply go
  refine ev_alloc hp rfl T24 ?_
  intro g22424 w22425 hp hs
  apply go
  apply go
  refine ev0 (rn_conv rfl rfl U3 Tryz.underlying75) ?_
  obtain ⟨y22427, q22428, h⟩ := bind_some h
  refine W.cut (γ := Int) (fun g => [(0, (.int .i64 x22422)), (2, (.pointer (some ⟨g22424, 0, none⟩))), (3, (.int .u64 (g)))]) (fun g w' => y22427 = (g) ∧ w22425 = w') ?_ ?_
  ·
    apply go
    apply go
    apply go
    refine sel_of (fun hc => ?_) (fun hc => ?_)
    ·
      have q22428 := cond_t q22428 hc
      apply go
      obtain rfl := Option.some.inj q22428
      exact ⟨(IntKind.u64.wrap (0 - (IntKind.u64.wrap x22422))), (.c rfl (.c rfl (.c rfl .n))), rfl, rfl⟩
    ·
      have q22428 := cond_f q22428 hc
      apply go
      obtain rfl := Option.some.inj q22428
      exact ⟨(IntKind.u64.wrap x22422), (.c rfl (.c rfl (.c rfl .n))), rfl, rfl⟩
  ·
    rintro x22426 _ ⟨hy, rfl⟩
    replace hy := hy.symm
    subst hy
    apply go
    apply go
    refine ev0 (rn_conv rfl rfl U75 Tryz.underlying46) ?_
    refine ⟨by decide, ?_⟩
    refine ev0 (rn_conv rfl rfl U75 Tryz.underlying46) ?_
    refine ev_litN (d := (dI .u32)) (xs := [(IntKind.u32.wrap x22426), (IntKind.u32.wrap (x22426.fdiv (2 ^ min (32 : Int).toNat (IntKind.u64).bits)))]) (cs := [(.int .u32 (IntKind.u32.wrap x22426)), (.int .u32 (IntKind.u32.wrap (x22426.fdiv (2 ^ min (32 : Int).toNat (IntKind.u64).bits))))]) hp rfl rfl Tryz.underlying22 T46 (by decide) rfl rfl (Elems.cons (d := (dI .u32)) (xs := _) rfl (Elems.cons (d := (dI .u32)) (xs := _) rfl (Elems.nil _ _ _ _))) ?_
    intro v22429 I22431 w22430 hp hs r22432
    obtain ⟨A22433, m22434, m22435, rfl⟩ := r22432.isSl
    refine ev0 (fun w => rn_build (cs := [(.bool (decide (x22422 < 0))), (.slice A22433 m22434 m22435)]) rfl rfl T24 PL24 rfl) ?_
    obtain ⟨x22437, q22438, h⟩ := bind_some h
    refine ev_call rfl rfl C77 (((ref01_Norm_ok n) _ _  (Int_2.mk (decide (x22422 < 0)) [(IntKind.u32.wrap x22426), (IntKind.u32.wrap (x22426.fdiv (2 ^ min (32 : Int).toNat (IntKind.u64).bits)))]) (.slice A22433 m22434 m22435) r22432 hp.imm _ q22438).mono ?_)
    rintro _ w22439 ⟨I22440, v22441, hv, hq, r22442⟩
    replace hv := hv.symm
    subst hv
    have hs := hq.st
    have hp := hp.join0 hq
    refine ev_storeA hp (i := 0) (off := 0) (vs := [(.bool x22437.Neg), v22441]) rfl rfl rfl rfl T24 rfl (Nat.le_of_ble_eq_true rfl) (ones_cons rfl (ones_cons r22442.one ones_nil)) ?_
    intro w22443 hp hs
    replace r22442 := r22442.step hs
    apply go
    obtain rfl := Option.some.inj h
    refine ⟨_, run_loadVarA T24 rfl (hp.at_ (i := 0) rfl), ?_⟩
    have hp := hp.sel [] (by decide)
    exact ⟨I22440, v22441, rfl, hp, r22442⟩

end Go.Proofs.YtepadjfmcbjkmaaGreatDoor

namespace Go.Proofs.YtepadjfmcbjkmaaGreatDoor
open Go Go.Proofs.YtepadjfmcbjkmaaGreatDoor.Gw Go.RowKit
set_option linter.unusedVariables false
attribute [local irreducible] Ev EvQ EvS EvH
def ref02_One_S (f : Option Int_2) : Prop := ∀ (w0 : World) (I0 : Nat → Prop)  (hI : ∀ g, I0 g → g < w0.heap.size) (r : Int_2), f  = some r →
    Ret Tryz.prog 45 #[] w0 fun v w1 => ∃ (I1 : Nat → Prop) (u22444 : Value), v = (.agg #[(.bool r.Neg), u22444]) ∧ Hp ⟨w0, I0, []⟩ I1 [] w1 ∧ RepS (dI .u32) w1 I1 u22444 r.Mag
theorem ref02_One_ok (n : Nat) : ref02_One_S (ref02_One n) := by
  intro w0 I0 hI r h
  unfold ref02_One at h
  refine enter Tryz.func45 rfl (Nat.le_of_ble_eq_true rfl) ?_
  have hp : Hp ⟨w0, I0, []⟩ I0 [] w0 := Hp.start hI
  apply go
  apply go
  refine ev_alloc hp rfl T24 ?_
  intro g22445 w22446 hp hs
  apply go
  apply go
  obtain ⟨x22447, q22448, h⟩ := bind_some h
  refine ev_call rfl rfl C74 (((ref01_Of_ok n) _ _  1 hp.imm _ q22448).mono ?_)
  rintro _ w22449 ⟨I22450, v22451, hv, hq, r22452⟩
  replace hv := hv.symm
  subst hv
  have hs := hq.st
  have hp := hp.join0 hq
  refine ev_storeA hp (i := 0) (off := 0) (vs := [(.bool x22447.Neg), v22451]) rfl rfl rfl rfl T24 rfl (Nat.le_of_ble_eq_true rfl) (ones_cons rfl (ones_cons r22452.one ones_nil)) ?_
  intro w22453 hp hs
  replace r22452 := r22452.step hs
  apply go
  obtain rfl := Option.some.inj h
  refine ⟨_, run_loadVarA T24 rfl (hp.at_ (i := 0) rfl), ?_⟩
  have hp := hp.sel [] (by decide)
  exact ⟨I22450, v22451, rfl, hp, r22452⟩

end Go.Proofs.YtepadjfmcbjkmaaGreatDoor

namespace Go.Proofs.YtepadjfmcbjkmaaGreatDoor
open Go Go.Proofs.YtepadjfmcbjkmaaGreatDoor.Gw Go.RowKit
set_option linter.unusedVariables false
attribute [local irreducible] Ev EvQ EvS EvH
def ref01_Sign_S (f : Int_2 → Option Int) : Prop := ∀ (w0 : World) (I0 : Nat → Prop) (x22360 : Int_2) (v22361 : Value) (r22362 : RepS (dI .u32) w0 I0 v22361 x22360.Mag) (hI : ∀ g, I0 g → g < w0.heap.size) (r : Int), f x22360 = some r →
    Ret Tryz.prog 73 #[(.agg #[(.bool x22360.Neg), v22361])] w0 fun v w1 => v = (.int .i64 r) ∧ Ch [] w0 w1
theorem ref01_Sign_ok (n : Nat) : ref01_Sign_S (ref01_Sign n) := by
  intro w0 I0 x22360 v22361 r22362 hI r h
  unfold ref01_Sign at h
  refine enter Tryz.func73 rfl (Nat.le_of_ble_eq_true rfl) ?_
  have hp : Hp ⟨w0, I0, []⟩ I0 [] w0 := Hp.start hI
  apply go
  apply go
  refine ev_boxI hp rfl rfl ?_
  intro p22365 I22366 w22364 hp hs a22367
  replace r22362 := r22362.step hs
  apply go
  apply go
  apply go
  refine ev0 (rn_field rfl rfl FO24_1) ?_
  refine ev (rn_load rfl rfl (run_loadVar1 T22 (a22367.2 1 _ rfl))) ?_
  obtain ⟨x22368, q22369, h⟩ := bind_some h
  refine ev_call rfl rfl C100 (((ref01_trim_ok n) _ _  x22360.Mag v22361 r22362 hp.imm _ q22369).mono ?_)
  rintro _ w22370 ⟨I22371, v22372, e22373, hv, hq, o22374⟩
  replace hv := hv.symm
  subst hv
  have hs := hq.st
  have hp := hp.join0 hq
  replace a22367 := a22367.step hs
  replace r22362 := r22362.step hs
  refine ev0 (x_lenO rfl rfl Tryz.underlying22 o22374) ?_
  apply go
  refine sel_of (fun hc => ?_) (fun hc => ?_)
  ·
    have h := cond_t h hc
    apply go
    apply go
    apply go
    obtain rfl := Option.some.inj h
    exact ⟨rfl, hp.ch⟩
  ·
    have h := cond_f h hc
    apply go
    apply go
    apply go
    apply go
    refine ev0 (rn_field rfl rfl FO24_0) ?_
    refine ev (rn_load rfl rfl (run_loadVar1 T4 (a22367.2 0 _ rfl))) ?_
    apply go
    refine sel_of (fun hc => ?_) (fun hc => ?_)
    ·
      have h := cond_t h hc
      apply go
      apply go
      apply go
      obtain rfl := Option.some.inj h
      exact ⟨rfl, hp.ch⟩
    ·
      have h := cond_f h hc
      apply go
      apply go
      apply go
      apply go
      obtain rfl := Option.some.inj h
      exact ⟨rfl, hp.ch⟩

end Go.Proofs.YtepadjfmcbjkmaaGreatDoor

namespace Go.Proofs.YtepadjfmcbjkmaaGreatDoor
open Go Go.Proofs.YtepadjfmcbjkmaaGreatDoor.Gw Go.RowKit
set_option linter.unusedVariables false
attribute [local irreducible] Ev EvQ EvS EvH
def ref01_cmp_S (f : (List Int) → (List Int) → Option Int) : Prop := ∀ (w0 : World) (I0 : Nat → Prop) (x23188 : (List Int)) (v23189 : Value) (r23190 : RepS (dI .u32) w0 I0 v23189 x23188) (x23191 : (List Int)) (v23192 : Value) (r23193 : RepS (dI .u32) w0 I0 v23192 x23191) (hI : ∀ g, I0 g → g < w0.heap.size) (r : Int), f x23188 x23191 = some r →
    Ret Tryz.prog 78 #[v23189, v23192] w0 fun v w1 => v = (.int .i64 r) ∧ Ch [] w0 w1
theorem ref01_cmp_ok (n : Nat) : ref01_cmp_S (ref01_cmp n) := by
  intro w0 I0 x23188 v23189 r23190 x23191 v23192 r23193 hI r h
  unfold ref01_cmp at h
  refine enter Tryz.func78 rfl (Nat.le_of_ble_eq_true rfl) ?_
  have hp : Hp ⟨w0, I0, []⟩ I0 [] w0 := Hp.start hI
  apply go
  apply go
  apply go
  apply go
  apply go
  refine ev0 (rn_len rfl rfl Tryz.underlying22 r23190) ?_
  refine ev0 (rn_len rfl rfl Tryz.underlying22 r23193) ?_
  apply go
  refine sel_of (fun hc => ?_) (fun hc => ?_)
  ·
    have h := cond_t h hc
    apply go
    apply go
    apply go
    refine ev0 (rn_len rfl rfl Tryz.underlying22 r23190) ?_
    refine ev0 (rn_len rfl rfl Tryz.underlying22 r23193) ?_
    apply go
    refine sel_of (fun hc => ?_) (fun hc => ?_)
    ·
      have h := cond_t h hc
      apply go
      apply go
      apply go
      obtain rfl := Option.some.inj h
      exact ⟨rfl, hp.ch⟩
    ·
      have h := cond_f h hc
      apply go
      apply go
      apply go
      apply go
      obtain rfl := Option.some.inj h
      exact ⟨rfl, hp.ch⟩
  ·
    have h := cond_f h hc
    apply go
    obtain ⟨y23282, q23283, h⟩ := bind_some h
    refine W.cut (γ := Unit) (fun _ => []) (fun _ w' => y23282 = .go () ∧ Hp ⟨w0, I0, []⟩ I0 [] w') ?_ ?_
    ·
      apply go
      apply go
      refine ev0 (rn_len rfl rfl Tryz.underlying22 r23190) ?_
      apply go
      refine W.loop q23283 (γ := Unit) (fun s _ => [(0, v23189), (1, v23192), (5, (.int .i64 (s)))]) (fun s _ w' => Hp ⟨w0, I0, []⟩ I0 [] w' ∧ RepS (dI .u32) w' I0 v23189 x23188 ∧ RepS (dI .u32) w' I0 v23192 x23191) () (.c rfl (.c rfl (.c rfl .n))) ⟨hp, r23190, r23193⟩ ?_
      rintro x23310 ⟨⟩ w23338 y23339 ⟨hp, r23190, r23193⟩ q23340 q23341
      unfold ref01_cmp_L1 at q23340
      apply go
      apply go
      apply go
      apply go
      refine sel_of (fun hc => ?_) (fun hc => ?_)
      ·
        have q23340 := cond_t q23340 hc
        apply go
        apply go
        apply go
        apply go
        apply go
        refine W.quiet (fun w' => Ch [] w23338 w') MX (by kernel_rfl) (Ch.drew [] w23338) ?_
        obtain ⟨x23342, q23343, q23340⟩ := bind_some q23340
        refine evq_index rfl rfl rfl Tryz.underlying22 T46 r23190 q23343 ?_
        intro p23344 c23345 d23346 a23347
        obtain rfl : c23345 = [(.int .u32 x23342)] := d23346
        refine evq (fun w' hw => rn_load rfl rfl (run_loadVar1 T46 ((a23347.step (hp.stp hw)).2 0 _ rfl))) ?_
        obtain ⟨x23348, q23349, q23340⟩ := bind_some q23340
        refine evq_index rfl rfl rfl Tryz.underlying22 T46 r23193 q23349 ?_
        intro p23350 c23351 d23352 a23353
        obtain rfl : c23351 = [(.int .u32 x23348)] := d23352
        refine evq (fun w' hw => rn_load rfl rfl (run_loadVar1 T46 ((a23353.step (hp.stp hw)).2 0 _ rfl))) ?_
        intro w23354 hc
        have hs := hp.stp hc
        replace hp := hp.ext hc
        replace r23190 := r23190.step hs
        replace r23193 := r23193.step hs
        apply go
        refine sel_of (fun hc => ?_) (fun hc => ?_)
        ·
          have q23340 := cond_t q23340 hc
          apply go
          apply go
          apply go
          have q23355 := congrArg some (q23341 _ (Option.some.inj q23340).symm)
          obtain rfl := Option.some.inj q23355
          obtain rfl := Option.some.inj h
          exact ⟨rfl, hp.ch⟩
        ·
          have q23340 := cond_f q23340 hc
          apply go
          apply go
          refine W.quiet (fun w' => Ch [] w23354 w') MX (by kernel_rfl) (Ch.drew [] w23354) ?_
          obtain ⟨x23356, q23357, q23340⟩ := bind_some q23340
          refine evq_index rfl rfl rfl Tryz.underlying22 T46 r23190 q23357 ?_
          intro p23358 c23359 d23360 a23361
          obtain rfl : c23359 = [(.int .u32 x23356)] := d23360
          refine evq (fun w' hw => rn_load rfl rfl (run_loadVar1 T46 ((a23361.step (hp.stp hw)).2 0 _ rfl))) ?_
          obtain ⟨x23362, q23363, q23340⟩ := bind_some q23340
          refine evq_index rfl rfl rfl Tryz.underlying22 T46 r23193 q23363 ?_
          intro p23364 c23365 d23366 a23367
          obtain rfl : c23365 = [(.int .u32 x23362)] := d23366
          refine evq (fun w' hw => rn_load rfl rfl (run_loadVar1 T46 ((a23367.step (hp.stp hw)).2 0 _ rfl))) ?_
          intro w23368 hc
          have hs := hp.stp hc
          replace hp := hp.ext hc
          replace r23190 := r23190.step hs
          replace r23193 := r23193.step hs
          apply go
          refine sel_of (fun hc => ?_) (fun hc => ?_)
          ·
            have q23340 := cond_t q23340 hc
            apply go
            apply go
            apply go
            have q23369 := congrArg some (q23341 _ (Option.some.inj q23340).symm)
            obtain rfl := Option.some.inj q23369
            obtain rfl := Option.some.inj h
            exact ⟨rfl, hp.ch⟩
          ·
            have q23340 := cond_f q23340 hc
            apply go
            apply go
            exact ⟨_, (Option.some.inj q23340).symm, (), (.c rfl (.c rfl (.c rfl .n))), ⟨hp, r23190, r23193⟩⟩
      ·
        have q23340 := cond_f q23340 hc
        apply go
        have q23370 := congrArg some (q23341 _ (Option.some.inj q23340).symm)
        obtain rfl := Option.some.inj q23370
        exact ⟨(), .n, rfl, hp⟩
    ·
      rintro ⟨⟩ w23281 ⟨hy, hp⟩
      replace hy := hy.symm
      subst hy
      apply go
      apply go
      apply go
      obtain rfl := Option.some.inj h
      exact ⟨rfl, hp.ch⟩

end Go.Proofs.YtepadjfmcbjkmaaGreatDoor

namespace Go.Proofs.YtepadjfmcbjkmaaGreatDoor
open Go Go.Proofs.YtepadjfmcbjkmaaGreatDoor.Gw Go.RowKit
set_option linter.unusedVariables false
attribute [local irreducible] Ev EvQ EvS EvH
def ref01_sub_S (f : (List Int) → (List Int) → Option (List Int)) : Prop := ∀ (w0 : World) (I0 : Nat → Prop) (x23371 : (List Int)) (v23372 : Value) (r23373 : RepS (dI .u32) w0 I0 v23372 x23371) (x23374 : (List Int)) (v23375 : Value) (r23376 : RepS (dI .u32) w0 I0 v23375 x23374) (hI : ∀ g, I0 g → g < w0.heap.size) (r : (List Int)), f x23371 x23374 = some r →
    Ret Tryz.prog 104 #[v23372, v23375] w0 fun v w1 => ∃ (I1 : Nat → Prop) (u23377 : Value), v = u23377 ∧ Hp ⟨w0, I0, []⟩ I1 [] w1 ∧ RepS (dI .u32) w1 I1 u23377 r
theorem ref01_sub_ok (n : Nat) : ref01_sub_S (ref01_sub n) := by
  intro w0 I0 x23371 v23372 r23373 x23374 v23375 r23376 hI r h
  unfold ref01_sub at h
  refine enter Tryz.func104 rfl (Nat.le_of_ble_eq_true rfl) ?_
  have hp : Hp ⟨w0, I0, []⟩ I0 [] w0 := Hp.start hI
  apply go
  apply go
  apply go
  apply go
  apply go
  apply go
  obtain ⟨y23510, q23511, h⟩ := bind_some h
  refine W.cut (γ := ((List Int) × Value × Ent × (Nat → Prop))) (fun g => [(5, (g.2.1))]) (fun g w' => y23510 = (g.1) ∧ Hp ⟨w0, I0, []⟩ (g.2.2.2) [(g.2.2.1)] w' ∧ OwnS (dI .u32) 46 w' (g.2.2.2) (g.2.1) (g.2.2.1) (g.1)) ?_ ?_
  ·
    apply go
    apply go
    apply go
    have hp := hp.none_
    have o23598 := OwnS.nil (dI .u32) 46 w0 I0
    refine W.loop q23511 (γ := (Value × Ent × (Nat → Prop))) (fun s g => [(0, v23372), (1, v23375), (5, (g.1)), (6, (.int .i64 (s.2.1))), (7, (.int .i64 (s.2.2)))]) (fun s g w' => Hp ⟨w0, I0, []⟩ (g.2.2) [(g.2.1)] w' ∧ RepS (dI .u32) w' (g.2.2) v23372 x23371 ∧ RepS (dI .u32) w' (g.2.2) v23375 x23374 ∧ OwnS (dI .u32) 46 w' (g.2.2) (g.1) (g.2.1) (s.1)) ((.slice none 0 0), none, I0) (.c rfl (.c rfl (.c rfl (.c rfl (.c rfl .n))))) ⟨hp, r23373, r23376, o23598⟩ ?_
    rintro ⟨x23548, x23552, x23553⟩ ⟨v23549, e23550, I23554⟩ w23597 y23599 ⟨hp, r23373, r23376, o23551⟩ q23600 q23601
    unfold ref01_sub_L1 at q23600
    apply go
    apply go
    apply go
    refine ev0 (rn_len rfl rfl Tryz.underlying22 r23373) ?_
    apply go
    refine sel_of (fun hc => ?_) (fun hc => ?_)
    ·
      have q23600 := cond_t q23600 hc
      apply go
      apply go
      apply go
      apply go
      apply go
      obtain ⟨x23602, q23603, q23600⟩ := bind_some q23600
      refine ev_index rfl rfl rfl Tryz.underlying22 T46 r23373 q23603 ?_
      intro p23604 c23605 d23606 a23607
      obtain rfl : c23605 = [(.int .u32 x23602)] := d23606
      refine ev (rn_load rfl rfl (run_loadVar1 T46 (a23607.2 0 _ rfl))) ?_
      refine ev0 (rn_conv rfl rfl U46 Tryz.underlying2) ?_
      obtain ⟨y23615, q23616, q23600⟩ := bind_some q23600
      refine W.cut (γ := Int) (fun g => [(0, v23372), (1, v23375), (5, v23549), (7, (.int .i64 x23553)), (8, (.int .i64 (g)))]) (fun g w' => y23615 = (g) ∧ w23597 = w') ?_ ?_
      ·
        apply go
        apply go
        refine ev0 (rn_len rfl rfl Tryz.underlying22 r23376) ?_
        apply go
        refine sel_of (fun hc => ?_) (fun hc => ?_)
        ·
          have q23616 := cond_t q23616 hc
          apply go
          obtain ⟨x23617, q23618, q23616⟩ := bind_some q23616
          refine ev_index rfl rfl rfl Tryz.underlying22 T46 r23376 q23618 ?_
          intro p23619 c23620 d23621 a23622
          obtain rfl : c23620 = [(.int .u32 x23617)] := d23621
          refine ev (rn_load rfl rfl (run_loadVar1 T46 (a23622.2 0 _ rfl))) ?_
          refine ev0 (rn_conv rfl rfl U46 Tryz.underlying2) ?_
          obtain rfl := Option.some.inj q23616
          exact ⟨(IntKind.i64.wrap ((IntKind.i64.wrap ((IntKind.i64.wrap x23602) - x23552)) - (IntKind.i64.wrap x23617))), (.c rfl (.c rfl (.c rfl (.c rfl (.c rfl .n))))), rfl, rfl⟩
        ·
          have q23616 := cond_f q23616 hc
          apply go
          obtain rfl := Option.some.inj q23616
          exact ⟨(IntKind.i64.wrap ((IntKind.i64.wrap x23602) - x23552)), (.c rfl (.c rfl (.c rfl (.c rfl (.c rfl .n))))), rfl, rfl⟩
      ·
        rintro x23614 _ ⟨hy, rfl⟩
        replace hy := hy.symm
        subst hy
        apply go
        apply go
        obtain ⟨y23625, q23626, q23600⟩ := bind_some q23600
        refine W.cut (γ := (Int × Int)) (fun g => [(0, v23372), (1, v23375), (5, v23549), (6, (.int .i64 (g.1))), (7, (.int .i64 x23553)), (8, (.int .i64 (g.2)))]) (fun g w' => y23625 = ((g.1), (g.2)) ∧ w23597 = w') ?_ ?_
        ·
          apply go
          apply go
          apply go
          refine sel_of (fun hc => ?_) (fun hc => ?_)
          ·
            have q23626 := cond_t q23626 hc
            apply go
            apply go
            apply go
            obtain rfl := Option.some.inj q23626
            exact ⟨(1, (IntKind.i64.wrap (x23614 + 4294967296))), (.c rfl (.c rfl (.c rfl (.c rfl (.c rfl (.c rfl .n)))))), rfl, rfl⟩
          ·
            have q23626 := cond_f q23626 hc
            apply go
            obtain rfl := Option.some.inj q23626
            exact ⟨(0, x23614), (.c rfl (.c rfl (.c rfl (.c rfl (.c rfl (.c rfl .n)))))), rfl, rfl⟩
        ·
          rintro ⟨x23623, x23624⟩ _ ⟨hy, rfl⟩
          replace hy := hy.symm
          subst hy
          apply go
          refine ev0 (rn_conv rfl rfl U2 Tryz.underlying46) ?_
          refine ev_litN (d := (dI .u32)) (xs := [(IntKind.u32.wrap x23624)]) (cs := [(.int .u32 (IntKind.u32.wrap x23624))]) hp rfl rfl Tryz.underlying22 T46 (by decide) rfl rfl (Elems.cons (d := (dI .u32)) (xs := _) rfl (Elems.nil _ _ _ _)) ?_
          intro v23627 I23629 w23628 hp hs r23630
          replace r23373 := r23373.step hs
          replace r23376 := r23376.step hs
          replace o23551 := o23551.step hs
          obtain ⟨x23631, q23632, q23600⟩ := bind_some q23600
          refine ev_append hp (i := 0) rfl rfl rfl rfl Tryz.underlying22 T46 rfl rfl o23551 r23630 q23632 ?_
          rintro v23633 e23634 w23635 hp hs o23636
          replace r23373 := r23373.step hs
          replace r23376 := r23376.step hs
          apply go
          exact ⟨_, (Option.some.inj q23600).symm, (v23633, e23634, I23629), (.c rfl (.c rfl (.c rfl (.c rfl (.c rfl .n))))), ⟨hp, r23373, r23376, o23636⟩⟩
    ·
      have q23600 := cond_f q23600 hc
      apply go
      have q23637 := congrArg some (q23601 _ (Option.some.inj q23600).symm)
      obtain rfl := Option.some.inj q23637
      exact ⟨(x23548, v23549, e23550, I23554), (.c rfl .n), rfl, hp, o23551⟩
  ·
    rintro ⟨x23504, v23505, e23506, I23508⟩ w23509 ⟨hy, hp, o23507⟩
    replace hy := hy.symm
    subst hy
    apply go
    apply go
    have r23638 := o23507.frz hp (i := 0) rfl
    obtain ⟨hp, hs⟩ := freeze_hp hp (i := 0) rfl
    have hp := hp.sel [] (by decide)
    obtain ⟨x23639, q23640, h⟩ := bind_some h
    refine ev_call rfl rfl C100 (((ref01_trim_ok n) _ _  x23504 v23505 r23638 hp.imm _ q23640).mono ?_)
    rintro _ w23641 ⟨I23642, v23643, e23644, hv, hq, o23645⟩
    replace hv := hv.symm
    subst hv
    have hs := hq.st
    have hp := hp.join0 hq
    apply go
    obtain rfl := Option.some.inj h
    have r23646 := o23645.frz hp (i := 0) rfl
    obtain ⟨hp, hs⟩ := freeze_hp hp (i := 0) rfl
    have hp := hp.sel [] (by decide)
    exact ⟨(Ad I23642 e23644), v23643, rfl, hp, r23646⟩

end Go.Proofs.YtepadjfmcbjkmaaGreatDoor

namespace Go.Proofs.YtepadjfmcbjkmaaGreatDoor
open Go Go.Proofs.YtepadjfmcbjkmaaGreatDoor.Gw Go.RowKit
set_option linter.unusedVariables false
attribute [local irreducible] Ev EvQ EvS EvH
def ref01_add_S (f : (List Int) → (List Int) → Option (List Int)) : Prop := ∀ (w0 : World) (I0 : Nat → Prop) (x23647 : (List Int)) (v23648 : Value) (r23649 : RepS (dI .u32) w0 I0 v23648 x23647) (x23650 : (List Int)) (v23651 : Value) (r23652 : RepS (dI .u32) w0 I0 v23651 x23650) (hI : ∀ g, I0 g → g < w0.heap.size) (r : (List Int)), f x23647 x23650 = some r →
    Ret Tryz.prog 105 #[v23648, v23651] w0 fun v w1 => ∃ (I1 : Nat → Prop) (u23653 : Value), v = u23653 ∧ Hp ⟨w0, I0, []⟩ I1 [] w1 ∧ RepS (dI .u32) w1 I1 u23653 r
theorem ref01_add_ok (n : Nat) : ref01_add_S (ref01_add n) := by
  intro w0 I0 x23647 v23648 r23649 x23650 v23651 r23652 hI r h
  unfold ref01_add at h
  refine enter Tryz.func105 rfl (Nat.le_of_ble_eq_true rfl) ?_
  have hp : Hp ⟨w0, I0, []⟩ I0 [] w0 := Hp.start hI
  apply go
  apply go
  apply go
  apply go
  apply go
  apply go
  obtain ⟨y23810, q23811, h⟩ := bind_some h
  refine W.cut (γ := ((List Int) × Value × Ent × (Nat → Prop))) (fun g => [(5, (g.2.1))]) (fun g w' => y23810 = (g.1) ∧ Hp ⟨w0, I0, []⟩ (g.2.2.2) [(g.2.2.1)] w' ∧ OwnS (dI .u32) 46 w' (g.2.2.2) (g.2.1) (g.2.2.1) (g.1)) ?_ ?_
  ·
    apply go
    apply go
    apply go
    have hp := hp.none_
    have o23914 := OwnS.nil (dI .u32) 46 w0 I0
    refine W.loop q23811 (γ := (Value × Ent × (Nat → Prop))) (fun s g => [(0, v23648), (1, v23651), (5, (g.1)), (6, (.int .u64 (s.2.1))), (7, (.int .i64 (s.2.2)))]) (fun s g w' => Hp ⟨w0, I0, []⟩ (g.2.2) [(g.2.1)] w' ∧ RepS (dI .u32) w' (g.2.2) v23648 x23647 ∧ RepS (dI .u32) w' (g.2.2) v23651 x23650 ∧ OwnS (dI .u32) 46 w' (g.2.2) (g.1) (g.2.1) (s.1)) ((.slice none 0 0), none, I0) (.c rfl (.c rfl (.c rfl (.c rfl (.c rfl .n))))) ⟨hp, r23649, r23652, o23914⟩ ?_
    rintro ⟨x23856, x23860, x23861⟩ ⟨v23857, e23858, I23862⟩ w23913 y23915 ⟨hp, r23649, r23652, o23859⟩ q23916 q23917
    unfold ref01_add_L1 at q23916
    apply go
    obtain ⟨y23919, q23920, q23916⟩ := bind_some q23916
    refine W.cut (γ := Bool) (fun g => [(0, v23648), (1, v23651), (5, v23857), (6, (.int .u64 x23860)), (7, (.int .i64 x23861)), (21, (.bool (g)))]) (fun g w' => y23919 = (g) ∧ w23913 = w') ?_ ?_
    ·
      apply go
      refine ev0 (rn_len rfl rfl Tryz.underlying22 r23649) ?_
      refine sel_of (fun hc => ?_) (fun hc => ?_)
      ·
        have q23920 := cond_t q23920 hc
        obtain rfl := Option.some.inj q23920
        exact ⟨true, (.c rfl (.c rfl (.c rfl (.c rfl (.c rfl (.c rfl .n)))))), rfl, rfl⟩
      ·
        have q23920 := cond_f q23920 hc
        refine ev0 (rn_len rfl rfl Tryz.underlying22 r23652) ?_
        refine sel_of (fun hc => ?_) (fun hc => ?_)
        ·
          have q23920 := cond_t q23920 hc
          obtain rfl := Option.some.inj q23920
          exact ⟨true, (.c rfl (.c rfl (.c rfl (.c rfl (.c rfl (.c rfl .n)))))), rfl, rfl⟩
        ·
          have q23920 := cond_f q23920 hc
          obtain rfl := Option.some.inj q23920
          exact ⟨(decide (x23860 > 0)), (.c rfl (.c rfl (.c rfl (.c rfl (.c rfl (.c rfl .n)))))), rfl, rfl⟩
    ·
      rintro x23918 _ ⟨hy, rfl⟩
      replace hy := hy.symm
      subst hy
      apply go
      refine sel_of (fun hc => ?_) (fun hc => ?_)
      ·
        have q23916 := cond_t q23916 hc
        apply go
        apply go
        apply go
        obtain ⟨y23928, q23929, q23916⟩ := bind_some q23916
        refine W.cut (γ := Int) (fun g => [(0, v23648), (1, v23651), (5, v23857), (6, (.int .u64 (g))), (7, (.int .i64 x23861))]) (fun g w' => y23928 = (g) ∧ w23913 = w') ?_ ?_
        ·
          apply go
          apply go
          refine ev0 (rn_len rfl rfl Tryz.underlying22 r23649) ?_
          apply go
          refine sel_of (fun hc => ?_) (fun hc => ?_)
          ·
            have q23929 := cond_t q23929 hc
            apply go
            obtain ⟨x23930, q23931, q23929⟩ := bind_some q23929
            refine ev_index rfl rfl rfl Tryz.underlying22 T46 r23649 q23931 ?_
            intro p23932 c23933 d23934 a23935
            obtain rfl : c23933 = [(.int .u32 x23930)] := d23934
            refine ev (rn_load rfl rfl (run_loadVar1 T46 (a23935.2 0 _ rfl))) ?_
            refine ev0 (rn_conv rfl rfl U46 Tryz.underlying75) ?_
            obtain rfl := Option.some.inj q23929
            exact ⟨(IntKind.u64.wrap (x23860 + (IntKind.u64.wrap x23930))), (.c rfl (.c rfl (.c rfl (.c rfl (.c rfl .n))))), rfl, rfl⟩
          ·
            have q23929 := cond_f q23929 hc
            apply go
            obtain rfl := Option.some.inj q23929
            exact ⟨x23860, (.c rfl (.c rfl (.c rfl (.c rfl (.c rfl .n))))), rfl, rfl⟩
        ·
          rintro x23927 _ ⟨hy, rfl⟩
          replace hy := hy.symm
          subst hy
          obtain ⟨y23943, q23944, q23916⟩ := bind_some q23916
          refine W.cut (γ := Int) (fun g => [(0, v23648), (1, v23651), (5, v23857), (6, (.int .u64 (g))), (7, (.int .i64 x23861))]) (fun g w' => y23943 = (g) ∧ w23913 = w') ?_ ?_
          ·
            apply go
            apply go
            refine ev0 (rn_len rfl rfl Tryz.underlying22 r23652) ?_
            apply go
            refine sel_of (fun hc => ?_) (fun hc => ?_)
            ·
              have q23944 := cond_t q23944 hc
              apply go
              obtain ⟨x23945, q23946, q23944⟩ := bind_some q23944
              refine ev_index rfl rfl rfl Tryz.underlying22 T46 r23652 q23946 ?_
              intro p23947 c23948 d23949 a23950
              obtain rfl : c23948 = [(.int .u32 x23945)] := d23949
              refine ev (rn_load rfl rfl (run_loadVar1 T46 (a23950.2 0 _ rfl))) ?_
              refine ev0 (rn_conv rfl rfl U46 Tryz.underlying75) ?_
              obtain rfl := Option.some.inj q23944
              exact ⟨(IntKind.u64.wrap (x23927 + (IntKind.u64.wrap x23945))), (.c rfl (.c rfl (.c rfl (.c rfl (.c rfl .n))))), rfl, rfl⟩
            ·
              have q23944 := cond_f q23944 hc
              apply go
              obtain rfl := Option.some.inj q23944
              exact ⟨x23927, (.c rfl (.c rfl (.c rfl (.c rfl (.c rfl .n))))), rfl, rfl⟩
          ·
            rintro x23942 _ ⟨hy, rfl⟩
            replace hy := hy.symm
            subst hy
            apply go
            apply go
            refine ev0 (rn_conv rfl rfl U75 Tryz.underlying46) ?_
            refine ev_litN (d := (dI .u32)) (xs := [(IntKind.u32.wrap x23942)]) (cs := [(.int .u32 (IntKind.u32.wrap x23942))]) hp rfl rfl Tryz.underlying22 T46 (by decide) rfl rfl (Elems.cons (d := (dI .u32)) (xs := _) rfl (Elems.nil _ _ _ _)) ?_
            intro v23951 I23953 w23952 hp hs r23954
            replace r23649 := r23649.step hs
            replace r23652 := r23652.step hs
            replace o23859 := o23859.step hs
            obtain ⟨x23955, q23956, q23916⟩ := bind_some q23916
            refine ev_append hp (i := 0) rfl rfl rfl rfl Tryz.underlying22 T46 rfl rfl o23859 r23954 q23956 ?_
            rintro v23957 e23958 w23959 hp hs o23960
            replace r23649 := r23649.step hs
            replace r23652 := r23652.step hs
            apply go
            refine ⟨by decide, ?_⟩
            apply go
            exact ⟨_, (Option.some.inj q23916).symm, (v23957, e23958, I23953), (.c rfl (.c rfl (.c rfl (.c rfl (.c rfl .n))))), ⟨hp, r23649, r23652, o23960⟩⟩
      ·
        have q23916 := cond_f q23916 hc
        apply go
        have q23961 := congrArg some (q23917 _ (Option.some.inj q23916).symm)
        obtain rfl := Option.some.inj q23961
        exact ⟨(x23856, v23857, e23858, I23862), (.c rfl .n), rfl, hp, o23859⟩
  ·
    rintro ⟨x23804, v23805, e23806, I23808⟩ w23809 ⟨hy, hp, o23807⟩
    replace hy := hy.symm
    subst hy
    apply go
    apply go
    have r23962 := o23807.frz hp (i := 0) rfl
    obtain ⟨hp, hs⟩ := freeze_hp hp (i := 0) rfl
    have hp := hp.sel [] (by decide)
    obtain ⟨x23963, q23964, h⟩ := bind_some h
    refine ev_call rfl rfl C100 (((ref01_trim_ok n) _ _  x23804 v23805 r23962 hp.imm _ q23964).mono ?_)
    rintro _ w23965 ⟨I23966, v23967, e23968, hv, hq, o23969⟩
    replace hv := hv.symm
    subst hv
    have hs := hq.st
    have hp := hp.join0 hq
    apply go
    obtain rfl := Option.some.inj h
    have r23970 := o23969.frz hp (i := 0) rfl
    obtain ⟨hp, hs⟩ := freeze_hp hp (i := 0) rfl
    have hp := hp.sel [] (by decide)
    exact ⟨(Ad I23966 e23968), v23967, rfl, hp, r23970⟩

end Go.Proofs.YtepadjfmcbjkmaaGreatDoor

namespace Go.Proofs.YtepadjfmcbjkmaaGreatDoor
open Go Go.Proofs.YtepadjfmcbjkmaaGreatDoor.Gw Go.RowKit
set_option linter.unusedVariables false
attribute [local irreducible] Ev EvQ EvS EvH
def ref01_Add_S (f : Int_2 → Int_2 → Option Int_2) : Prop := ∀ (w0 : World) (I0 : Nat → Prop) (x25701 : Int_2) (v25702 : Value) (r25703 : RepS (dI .u32) w0 I0 v25702 x25701.Mag) (x25704 : Int_2) (v25705 : Value) (r25706 : RepS (dI .u32) w0 I0 v25705 x25704.Mag) (hI : ∀ g, I0 g → g < w0.heap.size) (r : Int_2), f x25701 x25704 = some r →
    Ret Tryz.prog 84 #[(.agg #[(.bool x25701.Neg), v25702]), (.agg #[(.bool x25704.Neg), v25705])] w0 fun v w1 => ∃ (I1 : Nat → Prop) (u25707 : Value), v = (.agg #[(.bool r.Neg), u25707]) ∧ Hp ⟨w0, I0, []⟩ I1 [] w1 ∧ RepS (dI .u32) w1 I1 u25707 r.Mag
theorem ref01_Add_ok (n : Nat) : ref01_Add_S (ref01_Add n) := by
  intro w0 I0 x25701 v25702 r25703 x25704 v25705 r25706 hI r h
  unfold ref01_Add at h
  refine enter Tryz.func84 rfl (Nat.le_of_ble_eq_true rfl) ?_
  have hp : Hp ⟨w0, I0, []⟩ I0 [] w0 := Hp.start hI
  apply go
  apply go
  refine ev_box hp rfl rfl ?_
  intro g25708 w25709 hp hs
  replace r25706 := r25706.step hs
  replace r25703 := r25703.step hs
  refine ev_box hp rfl rfl ?_
  intro g25710 w25711 hp hs
  replace r25706 := r25706.step hs
  replace r25703 := r25703.step hs
  refine ev_alloc hp rfl T24 ?_
  intro g25712 w25713 hp hs
  replace r25706 := r25706.step hs
  replace r25703 := r25703.step hs
  apply go
  apply go
  refine ev (rn_load rfl rfl (run_loadVarA T24 rfl (hp.at_ (i := 2) rfl))) ?_
  obtain ⟨x25714, q25715, h⟩ := bind_some h
  refine ev_call rfl rfl C77 (((ref01_Norm_ok n) _ _  (Int_2.mk x25701.Neg x25701.Mag) v25702 r25703 hp.imm _ q25715).mono ?_)
  rintro _ w25716 ⟨I25717, v25718, hv, hq, r25719⟩
  replace hv := hv.symm
  subst hv
  have hs := hq.st
  have hp := hp.join0 hq
  replace r25706 := r25706.step hs
  replace r25703 := r25703.step hs
  refine ev_storeA hp (i := 2) (off := 0) (vs := [(.bool x25714.Neg), v25718]) rfl rfl rfl rfl T24 rfl (Nat.le_of_ble_eq_true rfl) (ones_cons rfl (ones_cons r25719.one ones_nil)) ?_
  intro w25720 hp hs
  replace r25706 := r25706.step hs
  replace r25719 := r25719.step hs
  apply go
  apply go
  refine ev (rn_load rfl rfl (run_loadVarA T24 rfl (hp.at_ (i := 1) rfl))) ?_
  obtain ⟨x25721, q25722, h⟩ := bind_some h
  refine ev_call rfl rfl C77 (((ref01_Norm_ok n) _ _  (Int_2.mk x25704.Neg x25704.Mag) v25705 r25706 hp.imm _ q25722).mono ?_)
  rintro _ w25723 ⟨I25724, v25725, hv, hq, r25726⟩
  replace hv := hv.symm
  subst hv
  have hs := hq.st
  have hp := hp.join0 hq
  replace r25706 := r25706.step hs
  replace r25719 := r25719.step hs
  refine ev_storeA hp (i := 1) (off := 0) (vs := [(.bool x25721.Neg), v25725]) rfl rfl rfl rfl T24 rfl (Nat.le_of_ble_eq_true rfl) (ones_cons rfl (ones_cons r25726.one ones_nil)) ?_
  intro w25727 hp hs
  replace r25726 := r25726.step hs
  replace r25719 := r25719.step hs
  apply go
  apply go
  apply go
  refine ev0 (rn_field rfl rfl FO24_0) ?_
  refine ev (rn_load rfl rfl (run_loadVar1 T4 (hp.cell (i := 2) (off := 0) rfl rfl))) ?_
  refine ev0 (rn_field rfl rfl FO24_0) ?_
  refine ev (rn_load rfl rfl (run_loadVar1 T4 (hp.cell (i := 1) (off := 0) rfl rfl))) ?_
  refine ev0 (rn_eqB rfl rfl rfl Tryz.underlying4) ?_
  apply go
  refine sel_of (fun hc => ?_) (fun hc => ?_)
  ·
    have h := cond_t h hc
    apply go
    have hs := hp.stp (Ch.drew [] w25727)
    have hp := hp.drew
    replace r25726 := r25726.step hs
    replace r25719 := r25719.step hs
    refine W.held [(0, true), (1, true), (2, true), (3, true), (4, true), (5, true), (6, false), (7, true), (8, false), (9, false)] (fun x => Stp I25724 w25727.drew I25724 x ∧ OwnK [(g25708, [(.bool x25714.Neg), v25718], 24), (g25710, [(.bool x25721.Neg), v25725], 24)] x) MX (by kernel_rfl) ⟨Stp.refl _ _, (OwnK.cons (hp.own 2 _ _ _ rfl).1 (OwnK.cons (hp.own 1 _ _ _ rfl).1 OwnK.nil))⟩ ?_
    have hz := Stp.refl I25724 w25727.drew
    refine evh0 (rn_field rfl rfl FO24_0) ?_
    refine evh (fun w' hw => rn_load rfl rfl (run_loadVar1 T4 (hw.2.cell (i := 0) (off := 0) rfl rfl))) ?_
    refine evh0 (rn_field rfl rfl FO24_1) ?_
    refine evh (fun w' hw => rn_load rfl rfl (run_loadVar1 T22 (hw.2.cell (i := 0) (off := 1) rfl rfl))) ?_
    refine evh0 (rn_field rfl rfl FO24_1) ?_
    refine evh (fun w' hw => rn_load rfl rfl (run_loadVar1 T22 (hw.2.cell (i := 1) (off := 1) rfl rfl))) ?_
    obtain ⟨x25745, q25746, h⟩ := bind_some h
    refine ev_call rfl rfl C105 (((ref01_add_ok n) _ _  x25714.Mag v25718 r25719 x25721.Mag v25725 r25726 hp.imm _ q25746).mono ?_)
    rintro _ w25747 ⟨I25748, v25749, hv, hq, r25750⟩
    replace hv := hv.symm
    subst hv
    have hs := hq.st
    have hp := hp.join0 hq
    replace hz := hz.trans hs
    replace r25726 := r25726.step hs
    replace r25719 := r25719.step hs
    refine ⟨fun x => Stp I25748 w25747 I25748 x ∧ OwnK [(g25708, [(.bool x25714.Neg), v25718], 24), (g25710, [(.bool x25721.Neg), v25725], 24)] x, ⟨Stp.refl _ _, (OwnK.cons (hp.own 2 _ _ _ rfl).1 (OwnK.cons (hp.own 1 _ _ _ rfl).1 OwnK.nil))⟩, fun x hx => ⟨hz.held hx.1, hx.2⟩, ?_⟩
    have hz := Stp.refl I25748 w25747
    obtain ⟨A25751, m25752, m25753, rfl⟩ := r25750.isSl
    refine evh0 (fun w => rn_build (cs := [(.bool x25714.Neg), (.slice A25751 m25752 m25753)]) rfl rfl T24 PL24 rfl) ?_
    obtain ⟨x25755, q25756, h⟩ := bind_some h
    refine ev_call rfl rfl C77 (((ref01_Norm_ok n) _ _  (Int_2.mk x25714.Neg x25745) (.slice A25751 m25752 m25753) r25750 hp.imm _ q25756).mono ?_)
    rintro _ w25757 ⟨I25758, v25759, hv, hq, r25760⟩
    replace hv := hv.symm
    subst hv
    have hs := hq.st
    have hp := hp.join0 hq
    replace hz := hz.trans hs
    replace r25726 := r25726.step hs
    replace r25719 := r25719.step hs
    refine ⟨fun x => Stp I25758 w25757 I25758 x ∧ OwnK [(g25708, [(.bool x25714.Neg), v25718], 24), (g25710, [(.bool x25721.Neg), v25725], 24)] x, ⟨Stp.refl _ _, (OwnK.cons (hp.own 2 _ _ _ rfl).1 (OwnK.cons (hp.own 1 _ _ _ rfl).1 OwnK.nil))⟩, fun x hx => ⟨hz.held hx.1, hx.2⟩, ?_⟩
    have hz := Stp.refl I25758 w25757
    refine ev_storeA hp (i := 0) (off := 0) (vs := [(.bool x25755.Neg), v25759]) rfl rfl rfl rfl T24 rfl (Nat.le_of_ble_eq_true rfl) (ones_cons rfl (ones_cons r25760.one ones_nil)) ?_
    intro w25761 hp hs
    replace hz := hz.trans hs
    replace r25760 := r25760.step hs
    replace r25726 := r25726.step hs
    replace r25719 := r25719.step hs
    refine ⟨fun x => Stp I25758 w25761 I25758 x ∧ OwnK [(g25708, [(.bool x25714.Neg), v25718], 24), (g25710, [(.bool x25721.Neg), v25725], 24)] x, ⟨Stp.refl _ _, (OwnK.cons (hp.own 2 _ _ _ rfl).1 (OwnK.cons (hp.own 1 _ _ _ rfl).1 OwnK.nil))⟩, fun x hx => ⟨hz.held hx.1, hx.2⟩, ?_⟩
    have hz := Stp.refl I25758 w25761
    apply go
    obtain rfl := Option.some.inj h
    refine ⟨_, run_loadVarA T24 rfl (hp.at_ (i := 0) rfl), ?_⟩
    have hp := hp.sel [] (by decide)
    exact ⟨I25758, v25759, rfl, hp, r25760⟩
  ·
    have h := cond_f h hc
    apply go
    apply go
    apply go
    apply go
    refine ev0 (rn_field rfl rfl FO24_1) ?_
    refine ev (rn_load rfl rfl (run_loadVar1 T22 (hp.cell (i := 2) (off := 1) rfl rfl))) ?_
    refine ev0 (rn_field rfl rfl FO24_1) ?_
    refine ev (rn_load rfl rfl (run_loadVar1 T22 (hp.cell (i := 1) (off := 1) rfl rfl))) ?_
    obtain ⟨x25762, q25763, h⟩ := bind_some h
    refine ev_call rfl rfl C78 (((ref01_cmp_ok n) _ _  x25714.Mag v25718 r25719 x25721.Mag v25725 r25726 hp.imm _ q25763).mono ?_)
    rintro _ w25764 ⟨rfl, hc⟩
    have hs := hp.stp hc
    replace hp := hp.ext hc
    replace r25726 := r25726.step hs
    replace r25719 := r25719.step hs
    apply go
    refine sel_of (fun hc => ?_) (fun hc => ?_)
    ·
      have h := cond_t h hc
      apply go
      have hs := hp.stp (Ch.drew [] w25764)
      have hp := hp.drew
      replace r25726 := r25726.step hs
      replace r25719 := r25719.step hs
      refine W.held [(0, true), (1, true), (2, true), (3, true), (4, true), (5, true), (6, false), (7, true), (8, false), (9, false)] (fun x => Stp I25724 w25764.drew I25724 x ∧ OwnK [(g25710, [(.bool x25721.Neg), v25725], 24), (g25708, [(.bool x25714.Neg), v25718], 24)] x) MX (by kernel_rfl) ⟨Stp.refl _ _, (OwnK.cons (hp.own 1 _ _ _ rfl).1 (OwnK.cons (hp.own 2 _ _ _ rfl).1 OwnK.nil))⟩ ?_
      have hz := Stp.refl I25724 w25764.drew
      refine evh0 (rn_field rfl rfl FO24_0) ?_
      refine evh (fun w' hw => rn_load rfl rfl (run_loadVar1 T4 (hw.2.cell (i := 0) (off := 0) rfl rfl))) ?_
      refine evh0 (rn_field rfl rfl FO24_1) ?_
      refine evh (fun w' hw => rn_load rfl rfl (run_loadVar1 T22 (hw.2.cell (i := 0) (off := 1) rfl rfl))) ?_
      refine evh0 (rn_field rfl rfl FO24_1) ?_
      refine evh (fun w' hw => rn_load rfl rfl (run_loadVar1 T22 (hw.2.cell (i := 1) (off := 1) rfl rfl))) ?_
      obtain ⟨x25782, q25783, h⟩ := bind_some h
      refine ev_call rfl rfl C104 (((ref01_sub_ok n) _ _  x25721.Mag v25725 r25726 x25714.Mag v25718 r25719 hp.imm _ q25783).mono ?_)
      rintro _ w25784 ⟨I25785, v25786, hv, hq, r25787⟩
      replace hv := hv.symm
      subst hv
      have hs := hq.st
      have hp := hp.join0 hq
      replace hz := hz.trans hs
      replace r25726 := r25726.step hs
      replace r25719 := r25719.step hs
      refine ⟨fun x => Stp I25785 w25784 I25785 x ∧ OwnK [(g25710, [(.bool x25721.Neg), v25725], 24), (g25708, [(.bool x25714.Neg), v25718], 24)] x, ⟨Stp.refl _ _, (OwnK.cons (hp.own 1 _ _ _ rfl).1 (OwnK.cons (hp.own 2 _ _ _ rfl).1 OwnK.nil))⟩, fun x hx => ⟨hz.held hx.1, hx.2⟩, ?_⟩
      have hz := Stp.refl I25785 w25784
      obtain ⟨A25788, m25789, m25790, rfl⟩ := r25787.isSl
      refine evh0 (fun w => rn_build (cs := [(.bool x25721.Neg), (.slice A25788 m25789 m25790)]) rfl rfl T24 PL24 rfl) ?_
      obtain ⟨x25792, q25793, h⟩ := bind_some h
      refine ev_call rfl rfl C77 (((ref01_Norm_ok n) _ _  (Int_2.mk x25721.Neg x25782) (.slice A25788 m25789 m25790) r25787 hp.imm _ q25793).mono ?_)
      rintro _ w25794 ⟨I25795, v25796, hv, hq, r25797⟩
      replace hv := hv.symm
      subst hv
      have hs := hq.st
      have hp := hp.join0 hq
      replace hz := hz.trans hs
      replace r25726 := r25726.step hs
      replace r25719 := r25719.step hs
      refine ⟨fun x => Stp I25795 w25794 I25795 x ∧ OwnK [(g25710, [(.bool x25721.Neg), v25725], 24), (g25708, [(.bool x25714.Neg), v25718], 24)] x, ⟨Stp.refl _ _, (OwnK.cons (hp.own 1 _ _ _ rfl).1 (OwnK.cons (hp.own 2 _ _ _ rfl).1 OwnK.nil))⟩, fun x hx => ⟨hz.held hx.1, hx.2⟩, ?_⟩
      have hz := Stp.refl I25795 w25794
      refine ev_storeA hp (i := 0) (off := 0) (vs := [(.bool x25792.Neg), v25796]) rfl rfl rfl rfl T24 rfl (Nat.le_of_ble_eq_true rfl) (ones_cons rfl (ones_cons r25797.one ones_nil)) ?_
      intro w25798 hp hs
      replace hz := hz.trans hs
      replace r25797 := r25797.step hs
      replace r25726 := r25726.step hs
      replace r25719 := r25719.step hs
      refine ⟨fun x => Stp I25795 w25798 I25795 x ∧ OwnK [(g25710, [(.bool x25721.Neg), v25725], 24), (g25708, [(.bool x25714.Neg), v25718], 24)] x, ⟨Stp.refl _ _, (OwnK.cons (hp.own 1 _ _ _ rfl).1 (OwnK.cons (hp.own 2 _ _ _ rfl).1 OwnK.nil))⟩, fun x hx => ⟨hz.held hx.1, hx.2⟩, ?_⟩
      have hz := Stp.refl I25795 w25798
      apply go
      obtain rfl := Option.some.inj h
      refine ⟨_, run_loadVarA T24 rfl (hp.at_ (i := 0) rfl), ?_⟩
      have hp := hp.sel [] (by decide)
      exact ⟨I25795, v25796, rfl, hp, r25797⟩
    ·
      have h := cond_f h hc
      apply go
      apply go
      have hs := hp.stp (Ch.drew [] w25764)
      have hp := hp.drew
      replace r25726 := r25726.step hs
      replace r25719 := r25719.step hs
      refine W.held [(0, true), (1, true), (2, true), (3, true), (4, true), (5, true), (6, false), (7, true), (8, false), (9, false)] (fun x => Stp I25724 w25764.drew I25724 x ∧ OwnK [(g25708, [(.bool x25714.Neg), v25718], 24), (g25710, [(.bool x25721.Neg), v25725], 24)] x) MX (by kernel_rfl) ⟨Stp.refl _ _, (OwnK.cons (hp.own 2 _ _ _ rfl).1 (OwnK.cons (hp.own 1 _ _ _ rfl).1 OwnK.nil))⟩ ?_
      have hz := Stp.refl I25724 w25764.drew
      refine evh0 (rn_field rfl rfl FO24_0) ?_
      refine evh (fun w' hw => rn_load rfl rfl (run_loadVar1 T4 (hw.2.cell (i := 0) (off := 0) rfl rfl))) ?_
      refine evh0 (rn_field rfl rfl FO24_1) ?_
      refine evh (fun w' hw => rn_load rfl rfl (run_loadVar1 T22 (hw.2.cell (i := 0) (off := 1) rfl rfl))) ?_
      refine evh0 (rn_field rfl rfl FO24_1) ?_
      refine evh (fun w' hw => rn_load rfl rfl (run_loadVar1 T22 (hw.2.cell (i := 1) (off := 1) rfl rfl))) ?_
      obtain ⟨x25816, q25817, h⟩ := bind_some h
      refine ev_call rfl rfl C104 (((ref01_sub_ok n) _ _  x25714.Mag v25718 r25719 x25721.Mag v25725 r25726 hp.imm _ q25817).mono ?_)
      rintro _ w25818 ⟨I25819, v25820, hv, hq, r25821⟩
      replace hv := hv.symm
      subst hv
      have hs := hq.st
      have hp := hp.join0 hq
      replace hz := hz.trans hs
      replace r25726 := r25726.step hs
      replace r25719 := r25719.step hs
      refine ⟨fun x => Stp I25819 w25818 I25819 x ∧ OwnK [(g25708, [(.bool x25714.Neg), v25718], 24), (g25710, [(.bool x25721.Neg), v25725], 24)] x, ⟨Stp.refl _ _, (OwnK.cons (hp.own 2 _ _ _ rfl).1 (OwnK.cons (hp.own 1 _ _ _ rfl).1 OwnK.nil))⟩, fun x hx => ⟨hz.held hx.1, hx.2⟩, ?_⟩
      have hz := Stp.refl I25819 w25818
      obtain ⟨A25822, m25823, m25824, rfl⟩ := r25821.isSl
      refine evh0 (fun w => rn_build (cs := [(.bool x25714.Neg), (.slice A25822 m25823 m25824)]) rfl rfl T24 PL24 rfl) ?_
      obtain ⟨x25826, q25827, h⟩ := bind_some h
      refine ev_call rfl rfl C77 (((ref01_Norm_ok n) _ _  (Int_2.mk x25714.Neg x25816) (.slice A25822 m25823 m25824) r25821 hp.imm _ q25827).mono ?_)
      rintro _ w25828 ⟨I25829, v25830, hv, hq, r25831⟩
      replace hv := hv.symm
      subst hv
      have hs := hq.st
      have hp := hp.join0 hq
      replace hz := hz.trans hs
      replace r25726 := r25726.step hs
      replace r25719 := r25719.step hs
      refine ⟨fun x => Stp I25829 w25828 I25829 x ∧ OwnK [(g25708, [(.bool x25714.Neg), v25718], 24), (g25710, [(.bool x25721.Neg), v25725], 24)] x, ⟨Stp.refl _ _, (OwnK.cons (hp.own 2 _ _ _ rfl).1 (OwnK.cons (hp.own 1 _ _ _ rfl).1 OwnK.nil))⟩, fun x hx => ⟨hz.held hx.1, hx.2⟩, ?_⟩
      have hz := Stp.refl I25829 w25828
      refine ev_storeA hp (i := 0) (off := 0) (vs := [(.bool x25826.Neg), v25830]) rfl rfl rfl rfl T24 rfl (Nat.le_of_ble_eq_true rfl) (ones_cons rfl (ones_cons r25831.one ones_nil)) ?_
      intro w25832 hp hs
      replace hz := hz.trans hs
      replace r25831 := r25831.step hs
      replace r25726 := r25726.step hs
      replace r25719 := r25719.step hs
      refine ⟨fun x => Stp I25829 w25832 I25829 x ∧ OwnK [(g25708, [(.bool x25714.Neg), v25718], 24), (g25710, [(.bool x25721.Neg), v25725], 24)] x, ⟨Stp.refl _ _, (OwnK.cons (hp.own 2 _ _ _ rfl).1 (OwnK.cons (hp.own 1 _ _ _ rfl).1 OwnK.nil))⟩, fun x hx => ⟨hz.held hx.1, hx.2⟩, ?_⟩
      have hz := Stp.refl I25829 w25832
      apply go
      obtain rfl := Option.some.inj h
      refine ⟨_, run_loadVarA T24 rfl (hp.at_ (i := 0) rfl), ?_⟩
      have hp := hp.sel [] (by decide)
      exact ⟨I25829, v25830, rfl, hp, r25831⟩

end Go.Proofs.YtepadjfmcbjkmaaGreatDoor

namespace Go.Proofs.YtepadjfmcbjkmaaGreatDoor
open Go Go.Proofs.YtepadjfmcbjkmaaGreatDoor.Gw Go.RowKit
set_option linter.unusedVariables false
attribute [local irreducible] Ev EvQ EvS EvH
def ref01_Abs_S (f : Int_2 → Option Int_2) : Prop := ∀ (w0 : World) (I0 : Nat → Prop) (x22476 : Int_2) (v22477 : Value) (r22478 : RepS (dI .u32) w0 I0 v22477 x22476.Mag) (hI : ∀ g, I0 g → g < w0.heap.size) (r : Int_2), f x22476 = some r →
    Ret Tryz.prog 102 #[(.agg #[(.bool x22476.Neg), v22477])] w0 fun v w1 => ∃ (I1 : Nat → Prop) (u22479 : Value), v = (.agg #[(.bool r.Neg), u22479]) ∧ Hp ⟨w0, I0, []⟩ I1 [] w1 ∧ RepS (dI .u32) w1 I1 u22479 r.Mag
theorem ref01_Abs_ok (n : Nat) : ref01_Abs_S (ref01_Abs n) := by
  intro w0 I0 x22476 v22477 r22478 hI r h
  unfold ref01_Abs at h
  refine enter Tryz.func102 rfl (Nat.le_of_ble_eq_true rfl) ?_
  have hp : Hp ⟨w0, I0, []⟩ I0 [] w0 := Hp.start hI
  apply go
  apply go
  refine ev_boxI hp rfl rfl ?_
  intro p22482 I22483 w22481 hp hs a22484
  replace r22478 := r22478.step hs
  refine ev_alloc hp rfl T24 ?_
  intro g22485 w22486 hp hs
  replace a22484 := a22484.step hs
  replace r22478 := r22478.step hs
  apply go
  apply go
  refine ev0 (rn_field rfl rfl FO24_1) ?_
  refine ev (rn_load rfl rfl (run_loadVar1 T22 (a22484.2 1 _ rfl))) ?_
  obtain ⟨A22487, m22488, m22489, rfl⟩ := r22478.isSl
  refine ev0 (fun w => rn_build (cs := [(.bool false), (.slice A22487 m22488 m22489)]) rfl rfl T24 PL24 rfl) ?_
  obtain ⟨x22491, q22492, h⟩ := bind_some h
  refine ev_call rfl rfl C77 (((ref01_Norm_ok n) _ _  (Int_2.mk false x22476.Mag) (.slice A22487 m22488 m22489) r22478 hp.imm _ q22492).mono ?_)
  rintro _ w22493 ⟨I22494, v22495, hv, hq, r22496⟩
  replace hv := hv.symm
  subst hv
  have hs := hq.st
  have hp := hp.join0 hq
  refine ev_storeA hp (i := 0) (off := 0) (vs := [(.bool x22491.Neg), v22495]) rfl rfl rfl rfl T24 rfl (Nat.le_of_ble_eq_true rfl) (ones_cons rfl (ones_cons r22496.one ones_nil)) ?_
  intro w22497 hp hs
  replace r22496 := r22496.step hs
  apply go
  obtain rfl := Option.some.inj h
  refine ⟨_, run_loadVarA T24 rfl (hp.at_ (i := 0) rfl), ?_⟩
  have hp := hp.sel [] (by decide)
  exact ⟨I22494, v22495, rfl, hp, r22496⟩

end Go.Proofs.YtepadjfmcbjkmaaGreatDoor

namespace Go.Proofs.YtepadjfmcbjkmaaGreatDoor
open Go Go.Proofs.YtepadjfmcbjkmaaGreatDoor.Gw Go.RowKit
set_option linter.unusedVariables false
attribute [local irreducible] Ev EvQ EvS EvH
def ref01_bit_S (f : (List Int) → Int → Option Int) : Prop := ∀ (w0 : World) (I0 : Nat → Prop) (x24704 : (List Int)) (v24705 : Value) (r24706 : RepS (dI .u32) w0 I0 v24705 x24704) (x24707 : Int) (hI : ∀ g, I0 g → g < w0.heap.size) (r : Int), f x24704 x24707 = some r →
    Ret Tryz.prog 133 #[v24705, (.int .i64 x24707)] w0 fun v w1 => v = (.int .u32 r) ∧ Ch [] w0 w1
theorem ref01_bit_ok (n : Nat) : ref01_bit_S (ref01_bit n) := by
  intro w0 I0 x24704 v24705 r24706 x24707 hI r h
  unfold ref01_bit at h
  refine enter Tryz.func133 rfl (Nat.le_of_ble_eq_true rfl) ?_
  have hp : Hp ⟨w0, I0, []⟩ I0 [] w0 := Hp.start hI
  apply go
  apply go
  apply go
  apply go
  apply go
  refine ⟨by decide, ?_⟩
  refine ev0 (rn_len rfl rfl Tryz.underlying22 r24706) ?_
  apply go
  refine sel_of (fun hc => ?_) (fun hc => ?_)
  ·
    have h := cond_t h hc
    apply go
    apply go
    apply go
    obtain rfl := Option.some.inj h
    exact ⟨rfl, hp.ch⟩
  ·
    have h := cond_f h hc
    apply go
    apply go
    apply go
    refine ⟨by decide, ?_⟩
    obtain ⟨x24708, q24709, h⟩ := bind_some h
    refine ev_index rfl rfl rfl Tryz.underlying22 T46 r24706 q24709 ?_
    intro p24710 c24711 d24712 a24713
    obtain rfl : c24711 = [(.int .u32 x24708)] := d24712
    refine ev (rn_load rfl rfl (run_loadVar1 T46 (a24713.2 0 _ rfl))) ?_
    refine ⟨by decide, ?_⟩
    refine ev0 (rn_conv rfl rfl U3 Tryz.underlying76) ?_
    obtain ⟨q24714, _, h⟩ := need_some h
    refine ⟨q24714, ?_⟩
    refine ⟨by decide, ?_⟩
    apply go
    obtain rfl := Option.some.inj h
    exact ⟨rfl, hp.ch⟩

end Go.Proofs.YtepadjfmcbjkmaaGreatDoor

namespace Go.Proofs.YtepadjfmcbjkmaaGreatDoor
open Go Go.Proofs.YtepadjfmcbjkmaaGreatDoor.Gw Go.RowKit
set_option linter.unusedVariables false
attribute [local irreducible] Ev EvQ EvS EvH
def ref01_divide_S (f : (List Int) → (List Int) → Option ((List Int) × (List Int))) : Prop := ∀ (w0 : World) (I0 : Nat → Prop) (x24715 : (List Int)) (v24716 : Value) (r24717 : RepS (dI .u32) w0 I0 v24716 x24715) (x24718 : (List Int)) (v24719 : Value) (r24720 : RepS (dI .u32) w0 I0 v24719 x24718) (hI : ∀ g, I0 g → g < w0.heap.size) (r : ((List Int) × (List Int))), f x24715 x24718 = some r →
    Ret Tryz.prog 110 #[v24716, v24719] w0 fun v w1 => ∃ (I1 : Nat → Prop) (u24721 : Value) (u24722 : Value), v = (.tuple #[u24721, u24722]) ∧ Hp ⟨w0, I0, []⟩ I1 [] w1 ∧ RepS (dI .u32) w1 I1 u24721 r.1 ∧ RepS (dI .u32) w1 I1 u24722 r.2
theorem ref01_divide_ok (n : Nat) : ref01_divide_S (ref01_divide n) := by
  intro w0 I0 x24715 v24716 r24717 x24718 v24719 r24720 hI r h
  unfold ref01_divide at h
  refine enter Tryz.func110 rfl (Nat.le_of_ble_eq_true rfl) ?_
  have hp : Hp ⟨w0, I0, []⟩ I0 [] w0 := Hp.start hI
  apply go
  apply go
  apply go
  apply go
  refine ev0 (rn_len rfl rfl Tryz.underlying22 r24717) ?_
  obtain ⟨x24723, q24724, h⟩ := bind_some h
  refine ev_make (d := (dI .u32)) (x0 := 0) hp rfl rfl rfl Tryz.underlying22 T46 (fun _ _ => rfl) (Nat.le_of_ble_eq_true rfl) q24724 ?_
  intro v24725 e24726 w24727 hp hs o24728
  replace r24717 := r24717.step hs
  replace r24720 := r24720.step hs
  apply go
  apply go
  obtain ⟨y25214, q25215, h⟩ := bind_some h
  refine W.cut (γ := ((List Int) × (List Int) × Ent × Value × (Nat → Prop))) (fun g => [(6, v24725), (7, (g.2.2.2.1))]) (fun g w' => y25214 = ((g.1), (g.2.1)) ∧ Hp ⟨w0, I0, []⟩ (g.2.2.2.2) [(g.2.2.1)] w' ∧ OwnS (dI .u32) 46 w' (g.2.2.2.2) v24725 (g.2.2.1) (g.1) ∧ RepS (dI .u32) w' (g.2.2.2.2) (g.2.2.2.1) (g.2.1)) ?_ ?_
  ·
    apply go
    apply go
    refine ev0 (rn_len rfl rfl Tryz.underlying22 r24717) ?_
    apply go
    refine W.loop q25215 (γ := (Ent × Value × (Nat → Prop))) (fun s g => [(0, v24716), (1, v24719), (6, v24725), (7, (g.2.1)), (8, (.int .i64 (s.2.2)))]) (fun s g w' => Hp ⟨w0, I0, []⟩ (g.2.2) [(g.1)] w' ∧ RepS (dI .u32) w' (g.2.2) v24716 x24715 ∧ RepS (dI .u32) w' (g.2.2) v24719 x24718 ∧ OwnS (dI .u32) 46 w' (g.2.2) v24725 (g.1) (s.1) ∧ RepS (dI .u32) w' (g.2.2) (g.2.1) (s.2.1)) (e24726, (.slice none 0 0), I0) (.c rfl (.c rfl (.c rfl (.c rfl (.c rfl .n))))) ⟨hp, r24717, r24720, o24728, RepS.nil _ _ _⟩ ?_
    rintro ⟨x25367, x25371, x25374⟩ ⟨e25369, v25372, I25375⟩ w25536 y25537 ⟨hp, r24717, r24720, o25370, r25373⟩ q25538 q25539
    unfold ref01_divide_L1 at q25538
    apply go
    apply go
    apply go
    apply go
    refine sel_of (fun hc => ?_) (fun hc => ?_)
    ·
      have q25538 := cond_t q25538 hc
      apply go
      obtain ⟨y25619, q25620, q25538⟩ := bind_some q25538
      refine W.cut (γ := ((List Int) × (List Int) × Ent × Value × (Nat → Prop))) (fun g => [(0, v24716), (1, v24719), (6, v24725), (7, (g.2.2.2.1)), (8, (.int .i64 x25374))]) (fun g w' => y25619 = ((g.1), (g.2.1)) ∧ Hp ⟨w0, I0, []⟩ (g.2.2.2.2) [(g.2.2.1)] w' ∧ RepS (dI .u32) w' (g.2.2.2.2) v24716 x24715 ∧ RepS (dI .u32) w' (g.2.2.2.2) v24719 x24718 ∧ OwnS (dI .u32) 46 w' (g.2.2.2.2) v24725 (g.2.2.1) (g.1) ∧ RepS (dI .u32) w' (g.2.2.2.2) (g.2.2.2.1) (g.2.1)) ?_ ?_
      ·
        apply go
        apply go
        apply go
        obtain ⟨x25621, q25622, q25620⟩ := bind_some q25620
        refine ev_call rfl rfl C105 (((ref01_add_ok n) _ _  x25371 v25372 r25373 x25371 v25372 r25373 hp.imm _ q25622).mono ?_)
        rintro _ w25623 ⟨I25624, v25625, hv, hq, r25626⟩
        replace hv := hv.symm
        subst hv
        have hs := hq.st
        have hp := hp.join0 hq
        replace r24717 := r24717.step hs
        replace r24720 := r24720.step hs
        replace o25370 := o25370.step hs
        obtain ⟨y25645, q25646, q25620⟩ := bind_some q25620
        refine W.cut (γ := ((List Int) × Value × (Nat → Prop))) (fun g => [(0, v24716), (1, v24719), (6, v24725), (7, (g.2.1)), (8, (.int .i64 x25374))]) (fun g w' => y25645 = (g.1) ∧ Hp ⟨w0, I0, []⟩ (g.2.2) [e25369] w' ∧ RepS (dI .u32) w' (g.2.2) v24716 x24715 ∧ RepS (dI .u32) w' (g.2.2) v24719 x24718 ∧ OwnS (dI .u32) 46 w' (g.2.2) v24725 e25369 x25367 ∧ RepS (dI .u32) w' (g.2.2) (g.2.1) (g.1)) ?_ ?_
        ·
          apply go
          apply go
          obtain ⟨x25647, q25648, q25646⟩ := bind_some q25646
          refine ev_call rfl rfl C133 (((ref01_bit_ok n) _ _  x24715 v24716 r24717 x25374 hp.imm _ q25648).mono ?_)
          rintro _ w25649 ⟨rfl, hc⟩
          have hs := hp.stp hc
          replace hp := hp.ext hc
          replace r24717 := r24717.step hs
          replace r24720 := r24720.step hs
          replace o25370 := o25370.step hs
          replace r25626 := r25626.step hs
          apply go
          refine sel_of (fun hc => ?_) (fun hc => ?_)
          ·
            have q25646 := cond_t q25646 hc
            apply go
            refine ev_litN (d := (dI .u32)) (xs := [1]) (cs := [(.int .u32 1)]) hp rfl rfl Tryz.underlying22 T46 (by decide) rfl rfl (Elems.cons (d := (dI .u32)) (xs := _) rfl (Elems.nil _ _ _ _)) ?_
            intro v25650 I25652 w25651 hp hs r25653
            replace r24717 := r24717.step hs
            replace r24720 := r24720.step hs
            replace o25370 := o25370.step hs
            replace r25626 := r25626.step hs
            obtain ⟨x25654, q25655, q25646⟩ := bind_some q25646
            refine ev_call rfl rfl C105 (((ref01_add_ok n) _ _  x25621 v25625 r25626 [1] v25650 r25653 hp.imm _ q25655).mono ?_)
            rintro _ w25656 ⟨I25657, v25658, hv, hq, r25659⟩
            replace hv := hv.symm
            subst hv
            have hs := hq.st
            have hp := hp.join0 hq
            replace r24717 := r24717.step hs
            replace r24720 := r24720.step hs
            replace o25370 := o25370.step hs
            obtain rfl := Option.some.inj q25646
            exact ⟨(x25654, v25658, I25657), (.c rfl (.c rfl (.c rfl (.c rfl (.c rfl .n))))), rfl, hp, r24717, r24720, o25370, r25659⟩
          ·
            have q25646 := cond_f q25646 hc
            apply go
            obtain rfl := Option.some.inj q25646
            exact ⟨(x25621, v25625, I25624), (.c rfl (.c rfl (.c rfl (.c rfl (.c rfl .n))))), rfl, hp, r24717, r24720, o25370, r25626⟩
        ·
          rintro ⟨x25640, v25641, I25643⟩ w25644 ⟨hy, hp, r24717, r24720, o25370, r25642⟩
          replace hy := hy.symm
          subst hy
          apply go
          apply go
          obtain ⟨x25660, q25661, q25620⟩ := bind_some q25620
          refine ev_call rfl rfl C78 (((ref01_cmp_ok n) _ _  x25640 v25641 r25642 x24718 v24719 r24720 hp.imm _ q25661).mono ?_)
          rintro _ w25662 ⟨rfl, hc⟩
          have hs := hp.stp hc
          replace hp := hp.ext hc
          replace r24717 := r24717.step hs
          replace r24720 := r24720.step hs
          replace o25370 := o25370.step hs
          replace r25642 := r25642.step hs
          apply go
          refine sel_of (fun hc => ?_) (fun hc => ?_)
          ·
            have q25620 := cond_t q25620 hc
            apply go
            apply go
            obtain ⟨x25663, q25664, q25620⟩ := bind_some q25620
            refine ev_call rfl rfl C104 (((ref01_sub_ok n) _ _  x25640 v25641 r25642 x24718 v24719 r24720 hp.imm _ q25664).mono ?_)
            rintro _ w25665 ⟨I25666, v25667, hv, hq, r25668⟩
            replace hv := hv.symm
            subst hv
            have hs := hq.st
            have hp := hp.join0 hq
            replace r24717 := r24717.step hs
            replace r24720 := r24720.step hs
            replace o25370 := o25370.step hs
            apply go
            refine ⟨by decide, ?_⟩
            refine ⟨by decide, ?_⟩
            obtain ⟨x25669, q25670, q25620⟩ := bind_some q25620
            refine ev_indexO rfl rfl rfl Tryz.underlying22 T46 o25370 q25670 ?_
            intro g25671 c25672 h25675 d25673 l25674
            refine ev (rn_load rfl rfl (run_loadVar1 T46 (hp.cellE (i := 0) rfl h25675 d25673 (j := 0) rfl))) ?_
            refine ⟨by decide, ?_⟩
            refine ev0 (rn_conv rfl rfl U3 Tryz.underlying76) ?_
            obtain ⟨q25677, _, q25620⟩ := need_some q25620
            refine ⟨q25677, ?_⟩
            obtain ⟨x25678, q25679, q25620⟩ := bind_some q25620
            refine ev_indexO rfl rfl rfl Tryz.underlying22 T46 o25370 q25679 ?_
            intro g25680 c25681 h25684 d25682 l25683
            refine ev_storeE hp (i := 0) rfl h25684 rfl rfl rfl T46 o25370 q25679 (x0 := (IntKind.u32.wrap (x25669 + (IntKind.u32.wrap ((1 : Int) * 2 ^ min (IntKind.u64.wrap (x25374.tmod 32)).toNat (IntKind.u32).bits))))) rfl ?_
            intro e25687 w25686 hp hs o25688
            replace r24717 := r24717.step hs
            replace r24720 := r24720.step hs
            replace r25668 := r25668.step hs
            obtain rfl := Option.some.inj q25620
            exact ⟨((upd x25367 (IntKind.i64.wrap (x25374.tdiv 32)) (IntKind.u32.wrap (x25669 + (IntKind.u32.wrap ((1 : Int) * 2 ^ min (IntKind.u64.wrap (x25374.tmod 32)).toNat (IntKind.u32).bits))))), x25663, e25687, v25667, I25666), (.c rfl (.c rfl (.c rfl (.c rfl (.c rfl .n))))), rfl, hp, r24717, r24720, o25688, r25668⟩
          ·
            have q25620 := cond_f q25620 hc
            apply go
            obtain rfl := Option.some.inj q25620
            exact ⟨(x25367, x25640, e25369, v25641, I25643), (.c rfl (.c rfl (.c rfl (.c rfl (.c rfl .n))))), rfl, hp, r24717, r24720, o25370, r25642⟩
      ·
        rintro ⟨x25610, x25614, e25612, v25615, I25617⟩ w25618 ⟨hy, hp, r24717, r24720, o25613, r25616⟩
        replace hy := hy.symm
        subst hy
        apply go
        exact ⟨_, (Option.some.inj q25538).symm, (e25612, v25615, I25617), (.c rfl (.c rfl (.c rfl (.c rfl (.c rfl .n))))), ⟨hp, r24717, r24720, o25613, r25616⟩⟩
    ·
      have q25538 := cond_f q25538 hc
      apply go
      have q25691 := congrArg some (q25539 _ (Option.some.inj q25538).symm)
      obtain rfl := Option.some.inj q25691
      exact ⟨(x25367, x25371, e25369, v25372, I25375), (.c rfl (.c rfl .n)), rfl, hp, o25370, r25373⟩
  ·
    rintro ⟨x25205, x25209, e25207, v25210, I25212⟩ w25213 ⟨hy, hp, o25208, r25211⟩
    replace hy := hy.symm
    subst hy
    apply go
    apply go
    have r25692 := o25208.frz hp (i := 0) rfl
    obtain ⟨hp, hs⟩ := freeze_hp hp (i := 0) rfl
    replace r25211 := r25211.step hs
    have hp := hp.sel [] (by decide)
    obtain ⟨x25693, q25694, h⟩ := bind_some h
    refine ev_call rfl rfl C100 (((ref01_trim_ok n) _ _  x25205 v24725 r25692 hp.imm _ q25694).mono ?_)
    rintro _ w25695 ⟨I25696, v25697, e25698, hv, hq, o25699⟩
    replace hv := hv.symm
    subst hv
    have hs := hq.st
    have hp := hp.join0 hq
    replace r25211 := r25211.step hs
    apply go
    obtain rfl := Option.some.inj h
    have r25700 := o25699.frz hp (i := 0) rfl
    obtain ⟨hp, hs⟩ := freeze_hp hp (i := 0) rfl
    replace r25211 := r25211.step hs
    have hp := hp.sel [] (by decide)
    exact ⟨(Ad I25696 e25698), v25697, v25210, rfl, hp, r25700, r25211⟩

end Go.Proofs.YtepadjfmcbjkmaaGreatDoor

namespace Go.Proofs.YtepadjfmcbjkmaaGreatDoor
open Go Go.Proofs.YtepadjfmcbjkmaaGreatDoor.Gw Go.RowKit
set_option linter.unusedVariables false
attribute [local irreducible] Ev EvQ EvS EvH
def ref01_Neg_S (f : Int_2 → Option Int_2) : Prop := ∀ (w0 : World) (I0 : Nat → Prop) (x22454 : Int_2) (v22455 : Value) (r22456 : RepS (dI .u32) w0 I0 v22455 x22454.Mag) (hI : ∀ g, I0 g → g < w0.heap.size) (r : Int_2), f x22454 = some r →
    Ret Tryz.prog 75 #[(.agg #[(.bool x22454.Neg), v22455])] w0 fun v w1 => ∃ (I1 : Nat → Prop) (u22457 : Value), v = (.agg #[(.bool r.Neg), u22457]) ∧ Hp ⟨w0, I0, []⟩ I1 [] w1 ∧ RepS (dI .u32) w1 I1 u22457 r.Mag
theorem ref01_Neg_ok (n : Nat) : ref01_Neg_S (ref01_Neg n) := by
  intro w0 I0 x22454 v22455 r22456 hI r h
  unfold ref01_Neg at h
  refine enter Tryz.func75 rfl (Nat.le_of_ble_eq_true rfl) ?_
  have hp : Hp ⟨w0, I0, []⟩ I0 [] w0 := Hp.start hI
  apply go
  apply go
  refine ev_boxI hp rfl rfl ?_
  intro p22460 I22461 w22459 hp hs a22462
  replace r22456 := r22456.step hs
  refine ev_alloc hp rfl T24 ?_
  intro g22463 w22464 hp hs
  replace a22462 := a22462.step hs
  replace r22456 := r22456.step hs
  apply go
  apply go
  refine ev0 (rn_field rfl rfl FO24_0) ?_
  refine ev (rn_load rfl rfl (run_loadVar1 T4 (a22462.2 0 _ rfl))) ?_
  refine ev0 (rn_field rfl rfl FO24_1) ?_
  refine ev (rn_load rfl rfl (run_loadVar1 T22 (a22462.2 1 _ rfl))) ?_
  obtain ⟨A22465, m22466, m22467, rfl⟩ := r22456.isSl
  refine ev0 (fun w => rn_build (cs := [(.bool (!x22454.Neg)), (.slice A22465 m22466 m22467)]) rfl rfl T24 PL24 rfl) ?_
  obtain ⟨x22469, q22470, h⟩ := bind_some h
  refine ev_call rfl rfl C77 (((ref01_Norm_ok n) _ _  (Int_2.mk (!x22454.Neg) x22454.Mag) (.slice A22465 m22466 m22467) r22456 hp.imm _ q22470).mono ?_)
  rintro _ w22471 ⟨I22472, v22473, hv, hq, r22474⟩
  replace hv := hv.symm
  subst hv
  have hs := hq.st
  have hp := hp.join0 hq
  refine ev_storeA hp (i := 0) (off := 0) (vs := [(.bool x22469.Neg), v22473]) rfl rfl rfl rfl T24 rfl (Nat.le_of_ble_eq_true rfl) (ones_cons rfl (ones_cons r22474.one ones_nil)) ?_
  intro w22475 hp hs
  replace r22474 := r22474.step hs
  apply go
  obtain rfl := Option.some.inj h
  refine ⟨_, run_loadVarA T24 rfl (hp.at_ (i := 0) rfl), ?_⟩
  have hp := hp.sel [] (by decide)
  exact ⟨I22472, v22473, rfl, hp, r22474⟩

end Go.Proofs.YtepadjfmcbjkmaaGreatDoor

namespace Go.Proofs.YtepadjfmcbjkmaaGreatDoor
open Go Go.Proofs.YtepadjfmcbjkmaaGreatDoor.Gw Go.RowKit
set_option linter.unusedVariables false
attribute [local irreducible] Ev EvQ EvS EvH
def ref01_Sub_S (f : Int_2 → Int_2 → Option Int_2) : Prop := ∀ (w0 : World) (I0 : Nat → Prop) (x25833 : Int_2) (v25834 : Value) (r25835 : RepS (dI .u32) w0 I0 v25834 x25833.Mag) (x25836 : Int_2) (v25837 : Value) (r25838 : RepS (dI .u32) w0 I0 v25837 x25836.Mag) (hI : ∀ g, I0 g → g < w0.heap.size) (r : Int_2), f x25833 x25836 = some r →
    Ret Tryz.prog 111 #[(.agg #[(.bool x25833.Neg), v25834]), (.agg #[(.bool x25836.Neg), v25837])] w0 fun v w1 => ∃ (I1 : Nat → Prop) (u25839 : Value), v = (.agg #[(.bool r.Neg), u25839]) ∧ Hp ⟨w0, I0, []⟩ I1 [] w1 ∧ RepS (dI .u32) w1 I1 u25839 r.Mag
theorem ref01_Sub_ok (n : Nat) : ref01_Sub_S (ref01_Sub n) := by
  intro w0 I0 x25833 v25834 r25835 x25836 v25837 r25838 hI r h
  unfold ref01_Sub at h
  refine enter Tryz.func111 rfl (Nat.le_of_ble_eq_true rfl) ?_
  have hp : Hp ⟨w0, I0, []⟩ I0 [] w0 := Hp.start hI
  apply go
  apply go
  refine ev_boxI hp rfl rfl ?_
  intro p25842 I25843 w25841 hp hs a25844
  replace r25838 := r25838.step hs
  replace r25835 := r25835.step hs
  refine ev_boxI hp rfl rfl ?_
  intro p25847 I25848 w25846 hp hs a25849
  replace a25844 := a25844.step hs
  replace r25835 := r25835.step hs
  replace r25838 := r25838.step hs
  refine ev_alloc hp rfl T24 ?_
  intro g25850 w25851 hp hs
  replace a25844 := a25844.step hs
  replace r25835 := r25835.step hs
  replace a25849 := a25849.step hs
  replace r25838 := r25838.step hs
  apply go
  have hs := hp.stp (Ch.drew [] w25851)
  have hp := hp.drew
  replace a25844 := a25844.step hs
  replace r25835 := r25835.step hs
  replace a25849 := a25849.step hs
  replace r25838 := r25838.step hs
  refine W.held [(0, true), (1, true), (2, false), (3, false), (4, false)] (Stp I25848 w25851.drew I25848) MX (by kernel_rfl) (Stp.refl _ _) ?_
  have hz := Stp.refl I25848 w25851.drew
  refine evh (fun w' hw => rn_load rfl rfl (run_loadVarA T24 rfl (a25844.step hw))) ?_
  refine evh (fun w' hw => rn_load rfl rfl (run_loadVarA T24 rfl (a25849.step hw))) ?_
  obtain ⟨x25865, q25866, h⟩ := bind_some h
  refine ev_call rfl rfl C75 (((ref01_Neg_ok n) _ _  (Int_2.mk x25836.Neg x25836.Mag) v25837 r25838 hp.imm _ q25866).mono ?_)
  rintro _ w25867 ⟨I25868, v25869, hv, hq, r25870⟩
  replace hv := hv.symm
  subst hv
  have hs := hq.st
  have hp := hp.join0 hq
  replace hz := hz.trans hs
  replace r25835 := r25835.step hs
  refine ⟨Stp I25868 w25867 I25868, Stp.refl _ _, fun x hx => hz.held hx, ?_⟩
  have hz := Stp.refl I25868 w25867
  obtain ⟨x25871, q25872, h⟩ := bind_some h
  refine ev_call rfl rfl C84 (((ref01_Add_ok n) _ _  (Int_2.mk x25833.Neg x25833.Mag) v25834 r25835 x25865 v25869 r25870 hp.imm _ q25872).mono ?_)
  rintro _ w25873 ⟨I25874, v25875, hv, hq, r25876⟩
  replace hv := hv.symm
  subst hv
  have hs := hq.st
  have hp := hp.join0 hq
  replace hz := hz.trans hs
  refine ⟨Stp I25874 w25873 I25874, Stp.refl _ _, fun x hx => hz.held hx, ?_⟩
  have hz := Stp.refl I25874 w25873
  refine ev_storeA hp (i := 0) (off := 0) (vs := [(.bool x25871.Neg), v25875]) rfl rfl rfl rfl T24 rfl (Nat.le_of_ble_eq_true rfl) (ones_cons rfl (ones_cons r25876.one ones_nil)) ?_
  intro w25877 hp hs
  replace hz := hz.trans hs
  replace r25876 := r25876.step hs
  refine ⟨Stp I25874 w25877 I25874, Stp.refl _ _, fun x hx => hz.held hx, ?_⟩
  have hz := Stp.refl I25874 w25877
  apply go
  obtain rfl := Option.some.inj h
  refine ⟨_, run_loadVarA T24 rfl (hp.at_ (i := 0) rfl), ?_⟩
  have hp := hp.sel [] (by decide)
  exact ⟨I25874, v25875, rfl, hp, r25876⟩

end Go.Proofs.YtepadjfmcbjkmaaGreatDoor

namespace Go.Proofs.YtepadjfmcbjkmaaGreatDoor
open Go Go.Proofs.YtepadjfmcbjkmaaGreatDoor.Gw Go.RowKit
set_option linter.unusedVariables false
attribute [local irreducible] Ev EvQ EvS EvH
def ref01_DivMod_S (f : Int_2 → Int_2 → Option (Int_2 × Int_2 × Int)) : Prop := ∀ (w0 : World) (I0 : Nat → Prop) (x25878 : Int_2) (v25879 : Value) (r25880 : RepS (dI .u32) w0 I0 v25879 x25878.Mag) (x25881 : Int_2) (v25882 : Value) (r25883 : RepS (dI .u32) w0 I0 v25882 x25881.Mag) (hI : ∀ g, I0 g → g < w0.heap.size) (r : (Int_2 × Int_2 × Int)), f x25878 x25881 = some r →
    Ret Tryz.prog 83 #[(.agg #[(.bool x25878.Neg), v25879]), (.agg #[(.bool x25881.Neg), v25882])] w0 fun v w1 => ∃ (I1 : Nat → Prop) (u25884 : Value) (u25885 : Value), v = (.tuple #[(.agg #[(.bool r.1.Neg), u25884]), (.agg #[(.bool r.2.1.Neg), u25885]), (.int .i64 r.2.2)]) ∧ Hp ⟨w0, I0, []⟩ I1 [] w1 ∧ RepS (dI .u32) w1 I1 u25884 r.1.Mag ∧ RepS (dI .u32) w1 I1 u25885 r.2.1.Mag
theorem ref01_DivMod_ok (n : Nat) : ref01_DivMod_S (ref01_DivMod n) := by
  intro w0 I0 x25878 v25879 r25880 x25881 v25882 r25883 hI r h
  unfold ref01_DivMod at h
  refine enter Tryz.func83 rfl (Nat.le_of_ble_eq_true rfl) ?_
  have hp : Hp ⟨w0, I0, []⟩ I0 [] w0 := Hp.start hI
  apply go
  apply go
  refine ev_boxI hp rfl rfl ?_
  intro p25888 I25889 w25887 hp hs a25890
  replace r25883 := r25883.step hs
  replace r25880 := r25880.step hs
  refine ev_boxI hp rfl rfl ?_
  intro p25893 I25894 w25892 hp hs a25895
  replace a25890 := a25890.step hs
  replace r25880 := r25880.step hs
  replace r25883 := r25883.step hs
  refine ev_alloc hp rfl T24 ?_
  intro g25896 w25897 hp hs
  replace a25890 := a25890.step hs
  replace r25880 := r25880.step hs
  replace a25895 := a25895.step hs
  replace r25883 := r25883.step hs
  refine ev_alloc hp rfl T24 ?_
  intro g25898 w25899 hp hs
  replace a25890 := a25890.step hs
  replace r25880 := r25880.step hs
  replace a25895 := a25895.step hs
  replace r25883 := r25883.step hs
  apply go
  apply go
  apply go
  refine ev (rn_load rfl rfl (run_loadVarA T24 rfl a25895)) ?_
  obtain ⟨x25900, q25901, h⟩ := bind_some h
  refine ev_call rfl rfl C73 (((ref01_Sign_ok n) _ _  (Int_2.mk x25881.Neg x25881.Mag) v25882 r25883 hp.imm _ q25901).mono ?_)
  rintro _ w25902 ⟨rfl, hc⟩
  have hs := hp.stp hc
  replace hp := hp.ext hc
  replace a25890 := a25890.step hs
  replace r25880 := r25880.step hs
  replace a25895 := a25895.step hs
  replace r25883 := r25883.step hs
  apply go
  refine sel_of (fun hc => ?_) (fun hc => ?_)
  ·
    have h := cond_t h hc
    apply go
    apply go
    refine ev0 (fun w => rn_build (cs := [(.bool false), (.slice none 0 0)]) rfl rfl T24 PL24 rfl) ?_
    refine ev0 (fun w => rn_build (cs := [(.bool false), (.slice none 0 0)]) rfl rfl T24 PL24 rfl) ?_
    refine ev_storeA hp (i := 1) (off := 0) (vs := [(.bool false), (.slice none 0 0)]) rfl rfl rfl rfl T24 rfl (Nat.le_of_ble_eq_true rfl) (ones_of rfl) ?_
    intro w25903 hp hs
    refine ev_storeA hp (i := 0) (off := 0) (vs := [(.bool false), (.slice none 0 0)]) rfl rfl rfl rfl T24 rfl (Nat.le_of_ble_eq_true rfl) (ones_of rfl) ?_
    intro w25904 hp hs
    apply go
    obtain rfl := Option.some.inj h
    refine ⟨_, run_loadVarA T24 rfl (hp.at_ (i := 1) rfl), ?_⟩
    refine ⟨_, run_loadVarA T24 rfl (hp.at_ (i := 0) rfl), ?_⟩
    have hp := hp.sel [] (by decide)
    exact ⟨I25894, .slice none 0 0, .slice none 0 0, rfl, hp, RepS.nil _ _ _, RepS.nil _ _ _⟩
  ·
    have h := cond_f h hc
    apply go
    apply go
    have hs := hp.stp (Ch.drew [] w25902)
    have hp := hp.drew
    replace a25890 := a25890.step hs
    replace r25880 := r25880.step hs
    replace a25895 := a25895.step hs
    replace r25883 := r25883.step hs
    refine W.held [(0, true), (1, true), (3, true), (4, true), (2, false), (5, false), (6, false), (7, true), (8, true), (9, true), (10, true), (11, true)] (Stp I25894 w25902.drew I25894) MX (by kernel_rfl) (Stp.refl _ _) ?_
    have hz := Stp.refl I25894 w25902.drew
    refine evh0 (rn_field rfl rfl FO24_1) ?_
    refine evh (fun w' hw => rn_load rfl rfl (run_loadVar1 T22 ((a25890.step hw).2 1 _ rfl))) ?_
    refine evh0 (rn_field rfl rfl FO24_1) ?_
    refine evh (fun w' hw => rn_load rfl rfl (run_loadVar1 T22 ((a25895.step hw).2 1 _ rfl))) ?_
    obtain ⟨x25930, q25931, h⟩ := bind_some h
    refine ev_call rfl rfl C100 (((ref01_trim_ok n) _ _  x25878.Mag v25879 r25880 hp.imm _ q25931).mono ?_)
    rintro _ w25932 ⟨I25933, v25934, e25935, hv, hq, o25936⟩
    replace hv := hv.symm
    subst hv
    have hs := hq.st
    have hp := hp.join0 hq
    replace hz := hz.trans hs
    replace a25890 := a25890.step hs
    replace r25880 := r25880.step hs
    replace a25895 := a25895.step hs
    replace r25883 := r25883.step hs
    refine ⟨Stp I25933 w25932 I25933, Stp.refl _ _, fun x hx => hz.held hx, ?_⟩
    have hz := Stp.refl I25933 w25932
    obtain ⟨x25937, q25938, h⟩ := bind_some h
    refine ev_call rfl rfl C100 (((ref01_trim_ok n) _ _  x25881.Mag v25882 r25883 hp.imm _ q25938).mono ?_)
    rintro _ w25939 ⟨I25940, v25941, e25942, hv, hq, o25943⟩
    replace hv := hv.symm
    subst hv
    have hs := hq.st
    have hp := hp.join0 hq
    replace hz := hz.trans hs
    replace a25890 := a25890.step hs
    replace r25880 := r25880.step hs
    replace a25895 := a25895.step hs
    replace r25883 := r25883.step hs
    replace o25936 := o25936.step hs
    refine ⟨Stp I25940 w25939 I25940, Stp.refl _ _, fun x hx => hz.held hx, ?_⟩
    have hz := Stp.refl I25940 w25939
    have r25944 := o25936.frz hp (i := 1) rfl
    obtain ⟨hp, hs⟩ := freeze_hp hp (i := 1) rfl
    replace hz := hz.trans hs
    replace a25890 := a25890.step hs
    replace r25880 := r25880.step hs
    replace a25895 := a25895.step hs
    replace r25883 := r25883.step hs
    replace o25943 := o25943.step hs
    have hp := hp.sel [0, 2, 3] (by decide)
    have r25945 := o25943.frz hp (i := 0) rfl
    obtain ⟨hp, hs⟩ := freeze_hp hp (i := 0) rfl
    replace hz := hz.trans hs
    replace a25890 := a25890.step hs
    replace r25880 := r25880.step hs
    replace a25895 := a25895.step hs
    replace r25883 := r25883.step hs
    replace r25944 := r25944.step hs
    have hp := hp.sel [1, 2] (by decide)
    obtain ⟨⟨x25946, x25947⟩, q25948, h⟩ := bind_some h
    refine ev_call rfl rfl C110 (((ref01_divide_ok n) _ _  x25930 v25934 r25944 x25937 v25941 r25945 hp.imm _ q25948).mono ?_)
    rintro _ w25949 ⟨I25950, v25951, v25953, hv, hq, r25952, r25954⟩
    replace hv := hv.symm
    subst hv
    have hs := hq.st
    have hp := hp.join0 hq
    replace hz := hz.trans hs
    replace a25890 := a25890.step hs
    replace r25880 := r25880.step hs
    replace a25895 := a25895.step hs
    replace r25883 := r25883.step hs
    refine ⟨Stp I25950 w25949 I25950, Stp.refl _ _, fun x hx => hz.held hx, ?_⟩
    have hz := Stp.refl I25950 w25949
    apply go
    apply go
    refine ev0 (rn_field rfl rfl FO24_0) ?_
    refine ev (rn_load rfl rfl (run_loadVar1 T4 (a25890.2 0 _ rfl))) ?_
    refine ev0 (rn_field rfl rfl FO24_0) ?_
    refine ev (rn_load rfl rfl (run_loadVar1 T4 (a25895.2 0 _ rfl))) ?_
    refine ev0 (rn_neB rfl rfl rfl Tryz.underlying4) ?_
    obtain ⟨A25955, m25956, m25957, rfl⟩ := r25952.isSl
    refine ev0 (fun w => rn_build (cs := [(.bool (!(x25878.Neg == x25881.Neg))), (.slice A25955 m25956 m25957)]) rfl rfl T24 PL24 rfl) ?_
    obtain ⟨x25959, q25960, h⟩ := bind_some h
    refine ev_call rfl rfl C77 (((ref01_Norm_ok n) _ _  (Int_2.mk (!(x25878.Neg == x25881.Neg)) x25946) (.slice A25955 m25956 m25957) r25952 hp.imm _ q25960).mono ?_)
    rintro _ w25961 ⟨I25962, v25963, hv, hq, r25964⟩
    replace hv := hv.symm
    subst hv
    have hs := hq.st
    have hp := hp.join0 hq
    replace a25890 := a25890.step hs
    replace r25880 := r25880.step hs
    replace a25895 := a25895.step hs
    replace r25883 := r25883.step hs
    replace r25954 := r25954.step hs
    refine ev_alloc hp rfl T24 ?_
    intro g25965 w25966 hp hs
    replace a25890 := a25890.step hs
    replace r25880 := r25880.step hs
    replace a25895 := a25895.step hs
    replace r25883 := r25883.step hs
    replace r25954 := r25954.step hs
    replace r25964 := r25964.step hs
    refine ev_storeA hp (i := 0) (off := 0) (vs := [(.bool x25959.Neg), v25963]) rfl rfl rfl rfl T24 rfl (Nat.le_of_ble_eq_true rfl) (ones_cons rfl (ones_cons r25964.one ones_nil)) ?_
    intro w25967 hp hs
    replace a25890 := a25890.step hs
    replace r25880 := r25880.step hs
    replace a25895 := a25895.step hs
    replace r25883 := r25883.step hs
    replace r25954 := r25954.step hs
    replace r25964 := r25964.step hs
    apply go
    apply go
    refine ev0 (rn_field rfl rfl FO24_0) ?_
    refine ev (rn_load rfl rfl (run_loadVar1 T4 (a25890.2 0 _ rfl))) ?_
    obtain ⟨A25968, m25969, m25970, rfl⟩ := r25954.isSl
    refine ev0 (fun w => rn_build (cs := [(.bool x25878.Neg), (.slice A25968 m25969 m25970)]) rfl rfl T24 PL24 rfl) ?_
    obtain ⟨x25972, q25973, h⟩ := bind_some h
    refine ev_call rfl rfl C77 (((ref01_Norm_ok n) _ _  (Int_2.mk x25878.Neg x25947) (.slice A25968 m25969 m25970) r25954 hp.imm _ q25973).mono ?_)
    rintro _ w25974 ⟨I25975, v25976, hv, hq, r25977⟩
    replace hv := hv.symm
    subst hv
    have hs := hq.st
    have hp := hp.join0 hq
    replace a25895 := a25895.step hs
    replace r25883 := r25883.step hs
    replace r25964 := r25964.step hs
    refine ev_alloc hp rfl T24 ?_
    intro g25978 w25979 hp hs
    replace a25895 := a25895.step hs
    replace r25883 := r25883.step hs
    replace r25977 := r25977.step hs
    replace r25964 := r25964.step hs
    refine ev_storeA hp (i := 0) (off := 0) (vs := [(.bool x25972.Neg), v25976]) rfl rfl rfl rfl T24 rfl (Nat.le_of_ble_eq_true rfl) (ones_cons rfl (ones_cons r25977.one ones_nil)) ?_
    intro w25980 hp hs
    replace a25895 := a25895.step hs
    replace r25883 := r25883.step hs
    replace r25977 := r25977.step hs
    replace r25964 := r25964.step hs
    obtain ⟨y26069, q26070, h⟩ := bind_some h
    refine W.cut (γ := (Bool × (List Int) × Bool × (List Int) × Value × Value × (Nat → Prop))) (fun g => [(4, (.pointer (some ⟨g25896, 0, none⟩))), (5, (.pointer (some ⟨g25898, 0, none⟩))), (9, (.pointer (some ⟨g25965, 0, none⟩))), (10, (.pointer (some ⟨g25978, 0, none⟩)))]) (fun g w' => y26069 = ((g.1), (g.2.1), (g.2.2.1), (g.2.2.2.1)) ∧ Hp ⟨w0, I0, []⟩ (g.2.2.2.2.2.2) [some (g25896, [(.bool false), (.slice none 0 0)], 24), some (g25898, [(.bool false), (.slice none 0 0)], 24), some (g25965, [(.bool (g.1)), (g.2.2.2.2.1)], 24), some (g25978, [(.bool (g.2.2.1)), (g.2.2.2.2.2.1)], 24)] w' ∧ RepS (dI .u32) w' (g.2.2.2.2.2.2) (g.2.2.2.2.1) (g.2.1) ∧ RepS (dI .u32) w' (g.2.2.2.2.2.2) (g.2.2.2.2.2.1) (g.2.2.2.1)) ?_ ?_
    ·
      apply go
      apply go
      refine ev0 (rn_field rfl rfl FO24_0) ?_
      refine ev (rn_load rfl rfl (run_loadVar1 T4 (hp.cell (i := 0) (off := 0) rfl rfl))) ?_
      apply go
      refine sel_of (fun hc => ?_) (fun hc => ?_)
      ·
        have q26070 := cond_t q26070 hc
        apply go
        have hs := hp.stp (Ch.drew [] w25980)
        have hp := hp.drew
        replace a25895 := a25895.step hs
        replace r25883 := r25883.step hs
        replace r25977 := r25977.step hs
        replace r25964 := r25964.step hs
        refine W.heldG (.q 0 (.q 1 (.l 2 (.l 3 (.l 4 .done .no) .no) .no))) (SK (Stp I25975 w25980.drew I25975) [(g25978, [(.bool x25972.Neg), v25976], 24)] [[4]]) MX (by kernel_rfl) ⟨Stp.refl _ _, (kp_cons (fun _ => (hp.own 0 _ _ _ rfl).1) kp_nil)⟩ ?_
        have hz := Stp.refl I25975 w25980.drew
        refine ⟨SK.same (by kernel_rfl), ?_⟩
        refine evh (fun w' hw => rn_load rfl rfl (run_loadVarA T24 rfl ((S0.keep (p := 0) hw rfl rfl (by kernel_rfl)).at_ (i := 0) rfl))) ?_
        refine ⟨SK.same (by kernel_rfl), ?_⟩
        refine evh (fun w' hw => rn_load rfl rfl (run_loadVarA T24 rfl (a25895.step (S0.si hw)))) ?_
        refine ⟨?_, trivial⟩
        obtain ⟨x26084, q26085, q26070⟩ := bind_some q26070
        refine ev_call rfl rfl C102 (((ref01_Abs_ok n) _ _  (Int_2.mk x25881.Neg x25881.Mag) v25882 r25883 hp.imm _ q26085).mono ?_)
        rintro _ w26086 ⟨I26087, v26088, hv, hq, r26089⟩
        replace hv := hv.symm
        subst hv
        have hs := hq.st
        have hp := hp.join0 hq
        replace hz := hz.trans hs
        replace a25895 := a25895.step hs
        replace r25883 := r25883.step hs
        replace r25977 := r25977.step hs
        replace r25964 := r25964.step hs
        refine ⟨SK (Stp I26087 w26086 I26087) [(g25978, [(.bool x25972.Neg), v25976], 24)] [[4]], ⟨Stp.refl _ _, (kp_cons (fun _ => (hp.own 0 _ _ _ rfl).1) kp_nil)⟩, fun L x h => ⟨hz.held h.1, h.2⟩, ?_⟩
        have hz := Stp.refl I26087 w26086
        refine ⟨?_, trivial⟩
        obtain ⟨x26090, q26091, q26070⟩ := bind_some q26070
        refine ev_call rfl rfl C84 (((ref01_Add_ok n) _ _  (Int_2.mk x25972.Neg x25972.Mag) v25976 r25977 x26084 v26088 r26089 hp.imm _ q26091).mono ?_)
        rintro _ w26092 ⟨I26093, v26094, hv, hq, r26095⟩
        replace hv := hv.symm
        subst hv
        have hs := hq.st
        have hp := hp.join0 hq
        replace hz := hz.trans hs
        replace a25895 := a25895.step hs
        replace r25883 := r25883.step hs
        replace r25977 := r25977.step hs
        replace r25964 := r25964.step hs
        refine ⟨SK (Stp I26093 w26092 I26093) [(g25978, [(.bool x25972.Neg), v25976], 24)] [[4]], ⟨Stp.refl _ _, (kp_cons (fun _ => (hp.own 0 _ _ _ rfl).1) kp_nil)⟩, fun L x h => ⟨hz.held h.1, h.2⟩, ?_⟩
        have hz := Stp.refl I26093 w26092
        refine ⟨?_, trivial⟩
        refine ev_storeA hp (i := 0) (off := 0) (vs := [(.bool x26090.Neg), v26094]) rfl rfl rfl rfl T24 rfl (Nat.le_of_ble_eq_true rfl) (ones_cons rfl (ones_cons r26095.one ones_nil)) ?_
        intro w26096 hp hs
        replace hz := hz.trans hs
        replace a25895 := a25895.step hs
        replace r25883 := r25883.step hs
        replace r26095 := r26095.step hs
        replace r25964 := r25964.step hs
        refine ⟨SK (Stp I26093 w26096 I26093) [(g25978, [(.bool x25972.Neg), v25976], 24)] [[4]], ⟨Stp.refl _ _, (kp_cons (kp_off (by kernel_rfl)) kp_nil)⟩, fun L x h => ⟨hz.held h.1, h.2⟩, ?_⟩
        have hz := Stp.refl I26093 w26096
        apply go
        apply go
        refine ev0 (rn_field rfl rfl FO24_0) ?_
        refine ev (rn_load rfl rfl (run_loadVar1 T4 (a25895.2 0 _ rfl))) ?_
        apply go
        refine sel_of (fun hc => ?_) (fun hc => ?_)
        ·
          have q26070 := cond_t q26070 hc
          have hs := hp.stp (Ch.drew [] w26096)
          have hp := hp.drew
          replace r26095 := r26095.step hs
          replace r25964 := r25964.step hs
          refine W.heldG (.q 0 (.l 1 (.l 2 (.l 3 .done .no) .no) .no)) (SK (Stp I26093 w26096.drew I26093) [(g25965, [(.bool x25959.Neg), v25963], 24)] [[3]]) MX (by kernel_rfl) ⟨Stp.refl _ _, (kp_cons (fun _ => (hp.own 1 _ _ _ rfl).1) kp_nil)⟩ ?_
          have hz := Stp.refl I26093 w26096.drew
          refine ⟨SK.same (by kernel_rfl), ?_⟩
          refine evh (fun w' hw => rn_load rfl rfl (run_loadVarA T24 rfl ((S0.keep (p := 0) hw rfl rfl (by kernel_rfl)).at_ (i := 0) rfl))) ?_
          refine ⟨?_, trivial⟩
          obtain ⟨x26110, q26111, q26070⟩ := bind_some q26070
          refine ev_call rfl rfl C74 (((ref01_Of_ok n) _ _  1 hp.imm _ q26111).mono ?_)
          rintro _ w26112 ⟨I26113, v26114, hv, hq, r26115⟩
          replace hv := hv.symm
          subst hv
          have hs := hq.st
          have hp := hp.join0 hq
          replace hz := hz.trans hs
          replace r25964 := r25964.step hs
          replace r26095 := r26095.step hs
          refine ⟨SK (Stp I26113 w26112 I26113) [(g25965, [(.bool x25959.Neg), v25963], 24)] [[3]], ⟨Stp.refl _ _, (kp_cons (fun _ => (hp.own 1 _ _ _ rfl).1) kp_nil)⟩, fun L x h => ⟨hz.held h.1, h.2⟩, ?_⟩
          have hz := Stp.refl I26113 w26112
          refine ⟨?_, trivial⟩
          obtain ⟨x26116, q26117, q26070⟩ := bind_some q26070
          refine ev_call rfl rfl C84 (((ref01_Add_ok n) _ _  (Int_2.mk x25959.Neg x25959.Mag) v25963 r25964 x26110 v26114 r26115 hp.imm _ q26117).mono ?_)
          rintro _ w26118 ⟨I26119, v26120, hv, hq, r26121⟩
          replace hv := hv.symm
          subst hv
          have hs := hq.st
          have hp := hp.join0 hq
          replace hz := hz.trans hs
          replace r26095 := r26095.step hs
          replace r25964 := r25964.step hs
          refine ⟨SK (Stp I26119 w26118 I26119) [(g25965, [(.bool x25959.Neg), v25963], 24)] [[3]], ⟨Stp.refl _ _, (kp_cons (fun _ => (hp.own 1 _ _ _ rfl).1) kp_nil)⟩, fun L x h => ⟨hz.held h.1, h.2⟩, ?_⟩
          have hz := Stp.refl I26119 w26118
          refine ⟨?_, trivial⟩
          refine ev_storeA hp (i := 1) (off := 0) (vs := [(.bool x26116.Neg), v26120]) rfl rfl rfl rfl T24 rfl (Nat.le_of_ble_eq_true rfl) (ones_cons rfl (ones_cons r26121.one ones_nil)) ?_
          intro w26122 hp hs
          replace hz := hz.trans hs
          replace r26095 := r26095.step hs
          replace r26121 := r26121.step hs
          refine ⟨SK (Stp I26119 w26122 I26119) [(g25965, [(.bool x25959.Neg), v25963], 24)] [[3]], ⟨Stp.refl _ _, (kp_cons (kp_off (by kernel_rfl)) kp_nil)⟩, fun L x h => ⟨hz.held h.1, h.2⟩, ?_⟩
          have hz := Stp.refl I26119 w26122
          obtain rfl := Option.some.inj q26070
          have hp := hp.perm [3, 2, 1, 0] (by decide)
          exact ⟨(x26116.Neg, x26116.Mag, x26090.Neg, x26090.Mag, v26120, v26094, I26119), (.c rfl (.c rfl (.c rfl (.c rfl .n)))), rfl, hp, r26121, r26095⟩
        ·
          have q26070 := cond_f q26070 hc
          have hs := hp.stp (Ch.drew [] w26096)
          have hp := hp.drew
          replace r26095 := r26095.step hs
          replace r25964 := r25964.step hs
          refine W.heldG (.q 0 (.l 1 (.l 2 (.l 3 .done .no) .no) .no)) (SK (Stp I26093 w26096.drew I26093) [(g25965, [(.bool x25959.Neg), v25963], 24)] [[3]]) MX (by kernel_rfl) ⟨Stp.refl _ _, (kp_cons (fun _ => (hp.own 1 _ _ _ rfl).1) kp_nil)⟩ ?_
          have hz := Stp.refl I26093 w26096.drew
          refine ⟨SK.same (by kernel_rfl), ?_⟩
          refine evh (fun w' hw => rn_load rfl rfl (run_loadVarA T24 rfl ((S0.keep (p := 0) hw rfl rfl (by kernel_rfl)).at_ (i := 0) rfl))) ?_
          refine ⟨?_, trivial⟩
          obtain ⟨x26136, q26137, q26070⟩ := bind_some q26070
          refine ev_call rfl rfl C74 (((ref01_Of_ok n) _ _  1 hp.imm _ q26137).mono ?_)
          rintro _ w26138 ⟨I26139, v26140, hv, hq, r26141⟩
          replace hv := hv.symm
          subst hv
          have hs := hq.st
          have hp := hp.join0 hq
          replace hz := hz.trans hs
          replace r25964 := r25964.step hs
          replace r26095 := r26095.step hs
          refine ⟨SK (Stp I26139 w26138 I26139) [(g25965, [(.bool x25959.Neg), v25963], 24)] [[3]], ⟨Stp.refl _ _, (kp_cons (fun _ => (hp.own 1 _ _ _ rfl).1) kp_nil)⟩, fun L x h => ⟨hz.held h.1, h.2⟩, ?_⟩
          have hz := Stp.refl I26139 w26138
          refine ⟨?_, trivial⟩
          obtain ⟨x26142, q26143, q26070⟩ := bind_some q26070
          refine ev_call rfl rfl C111 (((ref01_Sub_ok n) _ _  (Int_2.mk x25959.Neg x25959.Mag) v25963 r25964 x26136 v26140 r26141 hp.imm _ q26143).mono ?_)
          rintro _ w26144 ⟨I26145, v26146, hv, hq, r26147⟩
          replace hv := hv.symm
          subst hv
          have hs := hq.st
          have hp := hp.join0 hq
          replace hz := hz.trans hs
          replace r26095 := r26095.step hs
          replace r25964 := r25964.step hs
          refine ⟨SK (Stp I26145 w26144 I26145) [(g25965, [(.bool x25959.Neg), v25963], 24)] [[3]], ⟨Stp.refl _ _, (kp_cons (fun _ => (hp.own 1 _ _ _ rfl).1) kp_nil)⟩, fun L x h => ⟨hz.held h.1, h.2⟩, ?_⟩
          have hz := Stp.refl I26145 w26144
          refine ⟨?_, trivial⟩
          refine ev_storeA hp (i := 1) (off := 0) (vs := [(.bool x26142.Neg), v26146]) rfl rfl rfl rfl T24 rfl (Nat.le_of_ble_eq_true rfl) (ones_cons rfl (ones_cons r26147.one ones_nil)) ?_
          intro w26148 hp hs
          replace hz := hz.trans hs
          replace r26095 := r26095.step hs
          replace r26147 := r26147.step hs
          refine ⟨SK (Stp I26145 w26148 I26145) [(g25965, [(.bool x25959.Neg), v25963], 24)] [[3]], ⟨Stp.refl _ _, (kp_cons (kp_off (by kernel_rfl)) kp_nil)⟩, fun L x h => ⟨hz.held h.1, h.2⟩, ?_⟩
          have hz := Stp.refl I26145 w26148
          obtain rfl := Option.some.inj q26070
          have hp := hp.perm [3, 2, 1, 0] (by decide)
          exact ⟨(x26142.Neg, x26142.Mag, x26090.Neg, x26090.Mag, v26146, v26094, I26145), (.c rfl (.c rfl (.c rfl (.c rfl .n)))), rfl, hp, r26147, r26095⟩
      ·
        have q26070 := cond_f q26070 hc
        apply go
        obtain rfl := Option.some.inj q26070
        have hp := hp.perm [3, 2, 1, 0] (by decide)
        exact ⟨(x25959.Neg, x25959.Mag, x25972.Neg, x25972.Mag, v25963, v25976, I25975), (.c rfl (.c rfl (.c rfl (.c rfl .n)))), rfl, hp, r25964, r25977⟩
    ·
      rintro ⟨x26059, x26060, x26063, x26064, v26061, v26065, I26067⟩ w26068 ⟨hy, hp, r26062, r26066⟩
      replace hy := hy.symm
      subst hy
      apply go
      have hs := hp.stp (Ch.drew [] w26068)
      have hp := hp.drew
      replace r26062 := r26062.step hs
      replace r26066 := r26066.step hs
      refine W.held [(0, true), (1, true), (2, false), (3, false), (4, true)] (fun x => Stp I26067 w26068.drew I26067 x ∧ OwnK [(g25965, [(.bool x26059), v26061], 24), (g25978, [(.bool x26063), v26065], 24)] x) MX (by kernel_rfl) ⟨Stp.refl _ _, (OwnK.cons (hp.own 2 _ _ _ rfl).1 (OwnK.cons (hp.own 3 _ _ _ rfl).1 OwnK.nil))⟩ ?_
      have hz := Stp.refl I26067 w26068.drew
      refine evh (fun w' hw => rn_load rfl rfl (run_loadVarA T24 rfl (hw.2.at_ (i := 0) rfl))) ?_
      refine evh (fun w' hw => rn_load rfl rfl (run_loadVarA T24 rfl (hw.2.at_ (i := 1) rfl))) ?_
      refine ev_storeA hp (i := 0) (off := 0) (vs := [(.bool x26059), v26061]) rfl rfl rfl rfl T24 rfl (Nat.le_of_ble_eq_true rfl) (ones_cons rfl (ones_cons r26062.one ones_nil)) ?_
      intro w26151 hp hs
      replace hz := hz.trans hs
      replace r26066 := r26066.step hs
      replace r26062 := r26062.step hs
      refine ⟨fun x => Stp I26067 w26151 I26067 x ∧ OwnK [(g25965, [(.bool x26059), v26061], 24), (g25978, [(.bool x26063), v26065], 24)] x, ⟨Stp.refl _ _, (OwnK.cons (hp.own 2 _ _ _ rfl).1 (OwnK.cons (hp.own 3 _ _ _ rfl).1 OwnK.nil))⟩, fun x hx => ⟨hz.held hx.1, hx.2⟩, ?_⟩
      have hz := Stp.refl I26067 w26151
      refine ev_storeA hp (i := 1) (off := 0) (vs := [(.bool x26063), v26065]) rfl rfl rfl rfl T24 rfl (Nat.le_of_ble_eq_true rfl) (ones_cons rfl (ones_cons r26066.one ones_nil)) ?_
      intro w26152 hp hs
      replace hz := hz.trans hs
      replace r26062 := r26062.step hs
      replace r26066 := r26066.step hs
      refine ⟨fun x => Stp I26067 w26152 I26067 x ∧ OwnK [(g25965, [(.bool x26059), v26061], 24), (g25978, [(.bool x26063), v26065], 24)] x, ⟨Stp.refl _ _, (OwnK.cons (hp.own 2 _ _ _ rfl).1 (OwnK.cons (hp.own 3 _ _ _ rfl).1 OwnK.nil))⟩, fun x hx => ⟨hz.held hx.1, hx.2⟩, ?_⟩
      have hz := Stp.refl I26067 w26152
      apply go
      obtain rfl := Option.some.inj h
      refine ⟨_, run_loadVarA T24 rfl (hp.at_ (i := 0) rfl), ?_⟩
      refine ⟨_, run_loadVarA T24 rfl (hp.at_ (i := 1) rfl), ?_⟩
      have hp := hp.sel [] (by decide)
      exact ⟨I26067, v26061, v26065, rfl, hp, r26062, r26066⟩

end Go.Proofs.YtepadjfmcbjkmaaGreatDoor

namespace Go.Proofs.YtepadjfmcbjkmaaGreatDoor
open Go Go.Proofs.YtepadjfmcbjkmaaGreatDoor.Gw Go.RowKit
set_option linter.unusedVariables false
attribute [local irreducible] Ev EvQ EvS EvH
def ref02_part_S (f : Int_2 → Int_2 → Option Int_2) : Prop := ∀ (w0 : World) (I0 : Nat → Prop) (x26153 : Int_2) (v26154 : Value) (r26155 : RepS (dI .u32) w0 I0 v26154 x26153.Mag) (x26156 : Int_2) (v26157 : Value) (r26158 : RepS (dI .u32) w0 I0 v26157 x26156.Mag) (hI : ∀ g, I0 g → g < w0.heap.size) (r : Int_2), f x26153 x26156 = some r →
    Ret Tryz.prog 50 #[(.agg #[(.bool x26153.Neg), v26154]), (.agg #[(.bool x26156.Neg), v26157])] w0 fun v w1 => ∃ (I1 : Nat → Prop) (u26159 : Value), v = (.agg #[(.bool r.Neg), u26159]) ∧ Hp ⟨w0, I0, []⟩ I1 [] w1 ∧ RepS (dI .u32) w1 I1 u26159 r.Mag
theorem ref02_part_ok (n : Nat) : ref02_part_S (ref02_part n) := by
  intro w0 I0 x26153 v26154 r26155 x26156 v26157 r26158 hI r h
  unfold ref02_part at h
  refine enter Tryz.func50 rfl (Nat.le_of_ble_eq_true rfl) ?_
  have hp : Hp ⟨w0, I0, []⟩ I0 [] w0 := Hp.start hI
  apply go
  apply go
  refine ev_boxI hp rfl rfl ?_
  intro p26162 I26163 w26161 hp hs a26164
  replace r26158 := r26158.step hs
  replace r26155 := r26155.step hs
  refine ev_boxI hp rfl rfl ?_
  intro p26167 I26168 w26166 hp hs a26169
  replace a26164 := a26164.step hs
  replace r26155 := r26155.step hs
  replace r26158 := r26158.step hs
  refine ev_alloc hp rfl T24 ?_
  intro g26170 w26171 hp hs
  replace a26164 := a26164.step hs
  replace r26155 := r26155.step hs
  replace a26169 := a26169.step hs
  replace r26158 := r26158.step hs
  apply go
  apply go
  refine ev (rn_load rfl rfl (run_loadVarA T24 rfl a26164)) ?_
  refine ev (rn_load rfl rfl (run_loadVarA T24 rfl a26169)) ?_
  obtain ⟨⟨x26172, x26173, x26174⟩, q26175, h⟩ := bind_some h
  refine ev_call rfl rfl C83 (((ref01_DivMod_ok n) _ _  (Int_2.mk x26153.Neg x26153.Mag) v26154 r26155 (Int_2.mk x26156.Neg x26156.Mag) v26157 r26158 hp.imm _ q26175).mono ?_)
  rintro _ w26176 ⟨I26177, v26178, v26180, hv, hq, r26179, r26181⟩
  replace hv := hv.symm
  subst hv
  have hs := hq.st
  have hp := hp.join0 hq
  refine ev_alloc hp rfl T24 ?_
  intro g26182 w26183 hp hs
  replace r26179 := r26179.step hs
  replace r26181 := r26181.step hs
  refine ev_alloc hp rfl T24 ?_
  intro g26184 w26185 hp hs
  replace r26179 := r26179.step hs
  replace r26181 := r26181.step hs
  refine ev_storeA hp (i := 1) (off := 0) (vs := [(.bool x26172.Neg), v26178]) rfl rfl rfl rfl T24 rfl (Nat.le_of_ble_eq_true rfl) (ones_cons rfl (ones_cons r26179.one ones_nil)) ?_
  intro w26186 hp hs
  replace r26181 := r26181.step hs
  replace r26179 := r26179.step hs
  refine ev_storeA hp (i := 0) (off := 0) (vs := [(.bool x26173.Neg), v26180]) rfl rfl rfl rfl T24 rfl (Nat.le_of_ble_eq_true rfl) (ones_cons rfl (ones_cons r26181.one ones_nil)) ?_
  intro w26187 hp hs
  replace r26181 := r26181.step hs
  replace r26179 := r26179.step hs
  apply go
  apply go
  refine ev (rn_load rfl rfl (run_loadVarA T24 rfl (hp.at_ (i := 1) rfl))) ?_
  refine ev_storeA hp (i := 2) (off := 0) (vs := [(.bool x26172.Neg), v26178]) rfl rfl rfl rfl T24 rfl (Nat.le_of_ble_eq_true rfl) (ones_cons rfl (ones_cons r26179.one ones_nil)) ?_
  intro w26188 hp hs
  replace r26181 := r26181.step hs
  replace r26179 := r26179.step hs
  apply go
  obtain rfl := Option.some.inj h
  refine ⟨_, run_loadVarA T24 rfl (hp.at_ (i := 2) rfl), ?_⟩
  have hp := hp.sel [] (by decide)
  exact ⟨I26177, v26178, rfl, hp, r26179⟩

end Go.Proofs.YtepadjfmcbjkmaaGreatDoor

namespace Go.Proofs.YtepadjfmcbjkmaaGreatDoor
open Go Go.Proofs.YtepadjfmcbjkmaaGreatDoor.Gw Go.RowKit
set_option linter.unusedVariables false
attribute [local irreducible] Ev EvQ EvS EvH
def ref01_half_S (f : (List Int) → Option (List Int)) : Prop := ∀ (w0 : World) (I0 : Nat → Prop) (x22498 : (List Int)) (v22499 : Value) (r22500 : RepS (dI .u32) w0 I0 v22499 x22498) (hI : ∀ g, I0 g → g < w0.heap.size) (r : (List Int)), f x22498 = some r →
    Ret Tryz.prog 103 #[v22499] w0 fun v w1 => ∃ (I1 : Nat → Prop) (u22501 : Value), v = u22501 ∧ Hp ⟨w0, I0, []⟩ I1 [] w1 ∧ RepS (dI .u32) w1 I1 u22501 r
theorem ref01_half_ok (n : Nat) : ref01_half_S (ref01_half n) := by
  intro w0 I0 x22498 v22499 r22500 hI r h
  unfold ref01_half at h
  refine enter Tryz.func103 rfl (Nat.le_of_ble_eq_true rfl) ?_
  have hp : Hp ⟨w0, I0, []⟩ I0 [] w0 := Hp.start hI
  apply go
  apply go
  apply go
  apply go
  refine ev_litON (d := (dI .u32)) (xs := ([] : List Int)) (cs := []) hp rfl rfl Tryz.underlying22 T46 (by decide) (by decide) rfl rfl (Elems.nil _ _ _ _) ?_
  intro v22502 e22504 w22503 hp hs o22505
  replace r22500 := r22500.step hs
  obtain ⟨x22506, q22507, h⟩ := bind_some h
  refine ev_append hp (i := 0) rfl rfl rfl rfl Tryz.underlying22 T46 rfl rfl o22505 r22500 q22507 ?_
  rintro v22508 e22509 w22510 hp hs o22511
  replace r22500 := r22500.step hs
  obtain ⟨y22847, q22848, h⟩ := bind_some h
  refine W.cut (γ := ((List Int) × Ent)) (fun g => [(3, v22508)]) (fun g w' => y22847 = (g.1) ∧ Hp ⟨w0, I0, []⟩ I0 [(g.2)] w' ∧ OwnS (dI .u32) 46 w' I0 v22508 (g.2) (g.1)) ?_ ?_
  ·
    apply go
    apply go
    apply go
    refine W.loop q22848 (γ := Ent) (fun s g => [(0, v22499), (3, v22508), (4, (.int .i64 (s.2)))]) (fun s g w' => Hp ⟨w0, I0, []⟩ I0 [(g)] w' ∧ RepS (dI .u32) w' I0 v22499 x22498 ∧ OwnS (dI .u32) 46 w' I0 v22508 (g) (s.1)) e22509 (.c rfl (.c rfl (.c rfl .n))) ⟨hp, r22500, o22511⟩ ?_
    rintro ⟨x22954, x22958⟩ e22956 w23069 y23070 ⟨hp, r22500, o22957⟩ q23071 q23072
    unfold ref01_half_L1 at q23071
    apply go
    apply go
    apply go
    refine ev0 (x_lenO rfl rfl Tryz.underlying22 o22957) ?_
    apply go
    refine sel_of (fun hc => ?_) (fun hc => ?_)
    ·
      have q23071 := cond_t q23071 hc
      apply go
      obtain ⟨y23127, q23128, q23071⟩ := bind_some q23071
      refine W.cut (γ := ((List Int) × Ent)) (fun g => [(0, v22499), (3, v22508), (4, (.int .i64 x22958))]) (fun g w' => y23127 = (g.1) ∧ Hp ⟨w0, I0, []⟩ I0 [(g.2)] w' ∧ RepS (dI .u32) w' I0 v22499 x22498 ∧ OwnS (dI .u32) 46 w' I0 v22508 (g.2) (g.1)) ?_ ?_
      ·
        apply go
        apply go
        apply go
        obtain ⟨x23129, q23130, q23128⟩ := bind_some q23128
        refine ev_indexO rfl rfl rfl Tryz.underlying22 T46 o22957 q23130 ?_
        intro g23131 c23132 h23135 d23133 l23134
        refine ev (rn_load rfl rfl (run_loadVar1 T46 (hp.cellE (i := 0) rfl h23135 d23133 (j := 0) rfl))) ?_
        refine ⟨by decide, ?_⟩
        obtain ⟨x23137, q23138, q23128⟩ := bind_some q23128
        refine ev_indexO rfl rfl rfl Tryz.underlying22 T46 o22957 q23138 ?_
        intro g23139 c23140 h23143 d23141 l23142
        refine ev_storeE hp (i := 0) rfl h23143 rfl rfl rfl T46 o22957 q23138 (x0 := (x23129.fdiv (2 ^ min (1 : Int).toNat (IntKind.u32).bits))) rfl ?_
        intro e23146 w23145 hp hs o23147
        replace r22500 := r22500.step hs
        apply go
        apply go
        refine ev0 (rn_len rfl rfl Tryz.underlying22 r22500) ?_
        apply go
        refine sel_of (fun hc => ?_) (fun hc => ?_)
        ·
          have q23128 := cond_t q23128 hc
          have hs := hp.stp (Ch.drew [] w23145)
          have hp := hp.drew
          replace r22500 := r22500.step hs
          replace o23147 := o23147.step hs
          refine W.tail 15 MX (by kernel_rfl) ?_
          obtain ⟨x23151, q23152, q23128⟩ := bind_some q23128
          refine evs_indexO rfl rfl rfl Tryz.underlying22 T46 o23147 q23152 ?_
          intro g23153 c23154 h23157 d23155 l23156
          refine evs (rn_load rfl rfl (run_loadVar1 T46 (hp.cellE (i := 0) rfl h23157 d23155 (j := 0) rfl))) ?_
          obtain ⟨x23159, q23160, q23128⟩ := bind_some q23128
          refine evs_index rfl rfl rfl Tryz.underlying22 T46 r22500 q23160 ?_
          intro p23161 c23162 d23163 a23164
          obtain rfl : c23162 = [(.int .u32 x23159)] := d23163
          refine evs (rn_load rfl rfl (run_loadVar1 T46 (a23164.2 0 _ rfl))) ?_
          refine ⟨by decide, ?_⟩
          refine ⟨by decide, ?_⟩
          obtain ⟨x23165, q23166, q23128⟩ := bind_some q23128
          refine evs_indexO rfl rfl rfl Tryz.underlying22 T46 o23147 q23166 ?_
          intro g23167 c23168 h23171 d23169 l23170
          refine ev_storeE hp (i := 0) rfl h23171 rfl rfl rfl T46 o23147 q23166 (x0 := (IntKind.u32.wrap (x23151 + (IntKind.u32.wrap ((x23159.tmod 2) * 2 ^ min (31 : Int).toNat (IntKind.u32).bits))))) rfl ?_
          intro e23174 w23173 hp hs o23175
          replace r22500 := r22500.step hs
          obtain rfl := Option.some.inj q23128
          exact ⟨((upd (upd x22954 x22958 (x23129.fdiv (2 ^ min (1 : Int).toNat (IntKind.u32).bits))) x22958 (IntKind.u32.wrap (x23151 + (IntKind.u32.wrap ((x23159.tmod 2) * 2 ^ min (31 : Int).toNat (IntKind.u32).bits))))), e23174), (.c rfl (.c rfl (.c rfl .n))), rfl, hp, r22500, o23175⟩
        ·
          have q23128 := cond_f q23128 hc
          apply go
          obtain rfl := Option.some.inj q23128
          exact ⟨((upd x22954 x22958 (x23129.fdiv (2 ^ min (1 : Int).toNat (IntKind.u32).bits))), e23146), (.c rfl (.c rfl (.c rfl .n))), rfl, hp, r22500, o23147⟩
      ·
        rintro ⟨x23122, e23124⟩ w23126 ⟨hy, hp, r22500, o23125⟩
        replace hy := hy.symm
        subst hy
        apply go
        exact ⟨_, (Option.some.inj q23071).symm, e23124, (.c rfl (.c rfl (.c rfl .n))), ⟨hp, r22500, o23125⟩⟩
    ·
      have q23071 := cond_f q23071 hc
      apply go
      have q23178 := congrArg some (q23072 _ (Option.some.inj q23071).symm)
      obtain rfl := Option.some.inj q23178
      exact ⟨(x22954, e22956), (.c rfl .n), rfl, hp, o22957⟩
  ·
    rintro ⟨x22842, e22844⟩ w22846 ⟨hy, hp, o22845⟩
    replace hy := hy.symm
    subst hy
    apply go
    apply go
    have r23179 := o22845.frz hp (i := 0) rfl
    obtain ⟨hp, hs⟩ := freeze_hp hp (i := 0) rfl
    have hp := hp.sel [] (by decide)
    obtain ⟨x23180, q23181, h⟩ := bind_some h
    refine ev_call rfl rfl C100 (((ref01_trim_ok n) _ _  x22842 v22508 r23179 hp.imm _ q23181).mono ?_)
    rintro _ w23182 ⟨I23183, v23184, e23185, hv, hq, o23186⟩
    replace hv := hv.symm
    subst hv
    have hs := hq.st
    have hp := hp.join0 hq
    apply go
    obtain rfl := Option.some.inj h
    have r23187 := o23186.frz hp (i := 0) rfl
    obtain ⟨hp, hs⟩ := freeze_hp hp (i := 0) rfl
    have hp := hp.sel [] (by decide)
    exact ⟨(Ad I23183 e23185), v23184, rfl, hp, r23187⟩

end Go.Proofs.YtepadjfmcbjkmaaGreatDoor

namespace Go.Proofs.YtepadjfmcbjkmaaGreatDoor
open Go Go.Proofs.YtepadjfmcbjkmaaGreatDoor.Gw Go.RowKit
set_option linter.unusedVariables false
attribute [local irreducible] Ev EvQ EvS EvH
def ref01_Gcd_S (f : Int_2 → Int_2 → Option Int_2) : Prop := ∀ (w0 : World) (I0 : Nat → Prop) (x23971 : Int_2) (v23972 : Value) (r23973 : RepS (dI .u32) w0 I0 v23972 x23971.Mag) (x23974 : Int_2) (v23975 : Value) (r23976 : RepS (dI .u32) w0 I0 v23975 x23974.Mag) (hI : ∀ g, I0 g → g < w0.heap.size) (r : Int_2), f x23971 x23974 = some r →
    Ret Tryz.prog 76 #[(.agg #[(.bool x23971.Neg), v23972]), (.agg #[(.bool x23974.Neg), v23975])] w0 fun v w1 => ∃ (I1 : Nat → Prop) (u23977 : Value), v = (.agg #[(.bool r.Neg), u23977]) ∧ Hp ⟨w0, I0, []⟩ I1 [] w1 ∧ RepS (dI .u32) w1 I1 u23977 r.Mag
theorem ref01_Gcd_ok (n : Nat) : ref01_Gcd_S (ref01_Gcd n) := by
  intro w0 I0 x23971 v23972 r23973 x23974 v23975 r23976 hI r h
  unfold ref01_Gcd at h
  refine enter Tryz.func76 rfl (Nat.le_of_ble_eq_true rfl) ?_
  have hp : Hp ⟨w0, I0, []⟩ I0 [] w0 := Hp.start hI
  apply go
  apply go
  refine ev_boxI hp rfl rfl ?_
  intro p23980 I23981 w23979 hp hs a23982
  replace r23976 := r23976.step hs
  replace r23973 := r23973.step hs
  refine ev_boxI hp rfl rfl ?_
  intro p23985 I23986 w23984 hp hs a23987
  replace a23982 := a23982.step hs
  replace r23973 := r23973.step hs
  replace r23976 := r23976.step hs
  refine ev_alloc hp rfl T24 ?_
  intro g23988 w23989 hp hs
  replace a23982 := a23982.step hs
  replace r23973 := r23973.step hs
  replace a23987 := a23987.step hs
  replace r23976 := r23976.step hs
  apply go
  apply go
  refine ev0 (rn_field rfl rfl FO24_1) ?_
  refine ev (rn_load rfl rfl (run_loadVar1 T22 (a23982.2 1 _ rfl))) ?_
  obtain ⟨x23990, q23991, h⟩ := bind_some h
  refine ev_call rfl rfl C100 (((ref01_trim_ok n) _ _  x23971.Mag v23972 r23973 hp.imm _ q23991).mono ?_)
  rintro _ w23992 ⟨I23993, v23994, e23995, hv, hq, o23996⟩
  replace hv := hv.symm
  subst hv
  have hs := hq.st
  have hp := hp.join0 hq
  replace a23982 := a23982.step hs
  replace r23973 := r23973.step hs
  replace a23987 := a23987.step hs
  replace r23976 := r23976.step hs
  apply go
  apply go
  refine ev0 (rn_field rfl rfl FO24_1) ?_
  refine ev (rn_load rfl rfl (run_loadVar1 T22 (a23987.2 1 _ rfl))) ?_
  obtain ⟨x23997, q23998, h⟩ := bind_some h
  refine ev_call rfl rfl C100 (((ref01_trim_ok n) _ _  x23974.Mag v23975 r23976 hp.imm _ q23998).mono ?_)
  rintro _ w23999 ⟨I24000, v24001, e24002, hv, hq, o24003⟩
  replace hv := hv.symm
  subst hv
  have hs := hq.st
  have hp := hp.join0 hq
  replace a23982 := a23982.step hs
  replace r23973 := r23973.step hs
  replace a23987 := a23987.step hs
  replace r23976 := r23976.step hs
  replace o23996 := o23996.step hs
  apply go
  apply go
  apply go
  refine ev0 (x_lenO rfl rfl Tryz.underlying22 o23996) ?_
  apply go
  refine sel_of (fun hc => ?_) (fun hc => ?_)
  ·
    have h := cond_t h hc
    apply go
    apply go
    refine ev (rn_load rfl rfl (run_loadVarA T24 rfl a23987)) ?_
    obtain ⟨x24004, q24005, h⟩ := bind_some h
    refine ev_call rfl rfl C102 (((ref01_Abs_ok n) _ _  (Int_2.mk x23974.Neg x23974.Mag) v23975 r23976 hp.imm _ q24005).mono ?_)
    rintro _ w24006 ⟨I24007, v24008, hv, hq, r24009⟩
    replace hv := hv.symm
    subst hv
    have hs := hq.st
    have hp := hp.join0 hq
    refine ev_storeA hp (i := 2) (off := 0) (vs := [(.bool x24004.Neg), v24008]) rfl rfl rfl rfl T24 rfl (Nat.le_of_ble_eq_true rfl) (ones_cons rfl (ones_cons r24009.one ones_nil)) ?_
    intro w24010 hp hs
    replace r24009 := r24009.step hs
    apply go
    obtain rfl := Option.some.inj h
    refine ⟨_, run_loadVarA T24 rfl (hp.at_ (i := 2) rfl), ?_⟩
    have hp := hp.sel [] (by decide)
    exact ⟨I24007, v24008, rfl, hp, r24009⟩
  ·
    have h := cond_f h hc
    apply go
    apply go
    apply go
    apply go
    refine ev0 (x_lenO rfl rfl Tryz.underlying22 o24003) ?_
    apply go
    refine sel_of (fun hc => ?_) (fun hc => ?_)
    ·
      have h := cond_t h hc
      apply go
      apply go
      refine ev (rn_load rfl rfl (run_loadVarA T24 rfl a23982)) ?_
      obtain ⟨x24011, q24012, h⟩ := bind_some h
      refine ev_call rfl rfl C102 (((ref01_Abs_ok n) _ _  (Int_2.mk x23971.Neg x23971.Mag) v23972 r23973 hp.imm _ q24012).mono ?_)
      rintro _ w24013 ⟨I24014, v24015, hv, hq, r24016⟩
      replace hv := hv.symm
      subst hv
      have hs := hq.st
      have hp := hp.join0 hq
      refine ev_storeA hp (i := 2) (off := 0) (vs := [(.bool x24011.Neg), v24015]) rfl rfl rfl rfl T24 rfl (Nat.le_of_ble_eq_true rfl) (ones_cons rfl (ones_cons r24016.one ones_nil)) ?_
      intro w24017 hp hs
      replace r24016 := r24016.step hs
      apply go
      obtain rfl := Option.some.inj h
      refine ⟨_, run_loadVarA T24 rfl (hp.at_ (i := 2) rfl), ?_⟩
      have hp := hp.sel [] (by decide)
      exact ⟨I24014, v24015, rfl, hp, r24016⟩
    ·
      have h := cond_f h hc
      apply go
      apply go
      apply go
      obtain ⟨y24177, q24178, h⟩ := bind_some h
      refine W.cut (γ := ((List Int) × (List Int) × Int × Value × Value × (Nat → Prop))) (fun g => [(4, (.pointer (some ⟨g23988, 0, none⟩))), (5, (g.2.2.2.1)), (6, (g.2.2.2.2.1)), (7, (.int .i64 (g.2.2.1)))]) (fun g w' => y24177 = ((g.1), (g.2.1), (g.2.2.1)) ∧ Hp ⟨w0, I0, []⟩ (g.2.2.2.2.2) [some (g23988, [(.bool false), (.slice none 0 0)], 24)] w' ∧ RepS (dI .u32) w' (g.2.2.2.2.2) (g.2.2.2.1) (g.1) ∧ RepS (dI .u32) w' (g.2.2.2.2.2) (g.2.2.2.2.1) (g.2.1)) ?_ ?_
      ·
        apply go
        have r24284 := o23996.frz hp (i := 1) rfl
        obtain ⟨hp, hs⟩ := freeze_hp hp (i := 1) rfl
        replace o24003 := o24003.step hs
        have hp := hp.sel [0, 2] (by decide)
        have r24285 := o24003.frz hp (i := 0) rfl
        obtain ⟨hp, hs⟩ := freeze_hp hp (i := 0) rfl
        replace r24284 := r24284.step hs
        have hp := hp.sel [1] (by decide)
        refine W.loop q24178 (γ := (Value × Value × (Nat → Prop))) (fun s g => [(4, (.pointer (some ⟨g23988, 0, none⟩))), (5, (g.1)), (6, (g.2.1)), (7, (.int .i64 (s.2.2)))]) (fun s g w' => Hp ⟨w0, I0, []⟩ (g.2.2) [some (g23988, [(.bool false), (.slice none 0 0)], 24)] w' ∧ RepS (dI .u32) w' (g.2.2) (g.1) (s.1) ∧ RepS (dI .u32) w' (g.2.2) (g.2.1) (s.2.1)) (v23994, v24001, (Ad (Ad I24000 e23995) e24002)) (.c rfl (.c rfl (.c rfl (.c rfl .n)))) ⟨hp, r24284, r24285⟩ ?_
        rintro ⟨x24228, x24231, x24234⟩ ⟨v24229, v24232, I24235⟩ w24283 y24286 ⟨hp, r24230, r24233⟩ q24287 q24288
        unfold ref01_Gcd_L1 at q24287
        apply go
        obtain ⟨y24302, q24303, q24287⟩ := bind_some q24287
        refine W.cut (γ := Bool) (fun g => [(4, (.pointer (some ⟨g23988, 0, none⟩))), (5, v24229), (6, v24232), (7, (.int .i64 x24234)), (36, (.bool (g)))]) (fun g w' => y24302 = (g) ∧ w24283 = w') ?_ ?_
        ·
          apply go
          obtain ⟨x24304, q24305, q24303⟩ := bind_some q24303
          refine ev_index rfl rfl rfl Tryz.underlying22 T46 r24230 q24305 ?_
          intro p24306 c24307 d24308 a24309
          obtain rfl : c24307 = [(.int .u32 x24304)] := d24308
          refine ev (rn_load rfl rfl (run_loadVar1 T46 (a24309.2 0 _ rfl))) ?_
          refine ⟨by decide, ?_⟩
          refine sel_of (fun hc => ?_) (fun hc => ?_)
          ·
            have q24303 := cond_t q24303 hc
            obtain ⟨x24310, q24311, q24303⟩ := bind_some q24303
            refine ev_index rfl rfl rfl Tryz.underlying22 T46 r24233 q24311 ?_
            intro p24312 c24313 d24314 a24315
            obtain rfl : c24313 = [(.int .u32 x24310)] := d24314
            refine ev (rn_load rfl rfl (run_loadVar1 T46 (a24315.2 0 _ rfl))) ?_
            refine ⟨by decide, ?_⟩
            obtain rfl := Option.some.inj q24303
            exact ⟨((x24310.tmod 2) == 0), (.c rfl (.c rfl (.c rfl (.c rfl (.c rfl .n))))), rfl, rfl⟩
          ·
            have q24303 := cond_f q24303 hc
            obtain rfl := Option.some.inj q24303
            exact ⟨false, (.c rfl (.c rfl (.c rfl (.c rfl (.c rfl .n))))), rfl, rfl⟩
        ·
          rintro x24301 _ ⟨hy, rfl⟩
          replace hy := hy.symm
          subst hy
          apply go
          refine sel_of (fun hc => ?_) (fun hc => ?_)
          ·
            have q24287 := cond_t q24287 hc
            apply go
            apply go
            apply go
            apply go
            obtain ⟨x24316, q24317, q24287⟩ := bind_some q24287
            refine ev_call rfl rfl C103 (((ref01_half_ok n) _ _  x24228 v24229 r24230 hp.imm _ q24317).mono ?_)
            rintro _ w24318 ⟨I24319, v24320, hv, hq, r24321⟩
            replace hv := hv.symm
            subst hv
            have hs := hq.st
            have hp := hp.join0 hq
            replace r24233 := r24233.step hs
            apply go
            apply go
            obtain ⟨x24322, q24323, q24287⟩ := bind_some q24287
            refine ev_call rfl rfl C103 (((ref01_half_ok n) _ _  x24231 v24232 r24233 hp.imm _ q24323).mono ?_)
            rintro _ w24324 ⟨I24325, v24326, hv, hq, r24327⟩
            replace hv := hv.symm
            subst hv
            have hs := hq.st
            have hp := hp.join0 hq
            replace r24321 := r24321.step hs
            apply go
            exact ⟨_, (Option.some.inj q24287).symm, (v24320, v24326, I24325), (.c rfl (.c rfl (.c rfl (.c rfl .n)))), ⟨hp, r24321, r24327⟩⟩
          ·
            have q24287 := cond_f q24287 hc
            apply go
            have q24328 := congrArg some (q24288 _ (Option.some.inj q24287).symm)
            obtain rfl := Option.some.inj q24328
            exact ⟨(x24228, x24231, x24234, v24229, v24232, I24235), (.c rfl (.c rfl (.c rfl (.c rfl .n)))), rfl, hp, r24230, r24233⟩
      ·
        rintro ⟨x24168, x24171, x24174, v24169, v24172, I24175⟩ w24176 ⟨hy, hp, r24170, r24173⟩
        replace hy := hy.symm
        subst hy
        obtain ⟨y24479, q24480, h⟩ := bind_some h
        refine W.cut (γ := ((List Int) × Value × (Nat → Prop))) (fun g => [(4, (.pointer (some ⟨g23988, 0, none⟩))), (5, (g.2.1)), (7, (.int .i64 x24174))]) (fun g w' => y24479 = (g.1) ∧ Hp ⟨w0, I0, []⟩ (g.2.2) [some (g23988, [(.bool false), (.slice none 0 0)], 24)] w' ∧ RepS (dI .u32) w' (g.2.2) (g.2.1) (g.1)) ?_ ?_
        ·
          apply go
          refine W.loop q24480 (γ := (Value × Value × (Nat → Prop))) (fun s g => [(4, (.pointer (some ⟨g23988, 0, none⟩))), (5, (g.1)), (6, (g.2.1)), (7, (.int .i64 x24174))]) (fun s g w' => Hp ⟨w0, I0, []⟩ (g.2.2) [some (g23988, [(.bool false), (.slice none 0 0)], 24)] w' ∧ RepS (dI .u32) w' (g.2.2) (g.1) (s.1) ∧ RepS (dI .u32) w' (g.2.2) (g.2.1) (s.2)) (v24169, v24172, I24175) (.c rfl (.c rfl (.c rfl (.c rfl .n)))) ⟨hp, r24170, r24173⟩ ?_
          rintro ⟨x24523, x24526⟩ ⟨v24524, v24527, I24529⟩ w24579 y24580 ⟨hp, r24525, r24528⟩ q24581 q24582
          unfold ref01_Gcd_L3 at q24581
          apply go
          apply go
          apply go
          obtain ⟨x24583, q24584, q24581⟩ := bind_some q24581
          refine ev_call rfl rfl C78 (((ref01_cmp_ok n) _ _  x24523 v24524 r24525 x24526 v24527 r24528 hp.imm _ q24584).mono ?_)
          rintro _ w24585 ⟨rfl, hc⟩
          have hs := hp.stp hc
          replace hp := hp.ext hc
          replace r24525 := r24525.step hs
          replace r24528 := r24528.step hs
          apply go
          refine sel_of (fun hc => ?_) (fun hc => ?_)
          ·
            have q24581 := cond_t q24581 hc
            apply go
            apply go
            apply go
            apply go
            apply go
            obtain ⟨x24586, q24587, q24581⟩ := bind_some q24581
            refine ev_index rfl rfl rfl Tryz.underlying22 T46 r24525 q24587 ?_
            intro p24588 c24589 d24590 a24591
            obtain rfl : c24589 = [(.int .u32 x24586)] := d24590
            refine ev (rn_load rfl rfl (run_loadVar1 T46 (a24591.2 0 _ rfl))) ?_
            refine ⟨by decide, ?_⟩
            apply go
            refine sel_of (fun hc => ?_) (fun hc => ?_)
            ·
              have q24581 := cond_t q24581 hc
              apply go
              obtain ⟨x24592, q24593, q24581⟩ := bind_some q24581
              refine ev_call rfl rfl C103 (((ref01_half_ok n) _ _  x24523 v24524 r24525 hp.imm _ q24593).mono ?_)
              rintro _ w24594 ⟨I24595, v24596, hv, hq, r24597⟩
              replace hv := hv.symm
              subst hv
              have hs := hq.st
              have hp := hp.join0 hq
              replace r24528 := r24528.step hs
              exact ⟨_, (Option.some.inj q24581).symm, (v24596, v24527, I24595), (.c rfl (.c rfl (.c rfl (.c rfl .n)))), ⟨hp, r24597, r24528⟩⟩
            ·
              have q24581 := cond_f q24581 hc
              apply go
              apply go
              obtain ⟨x24598, q24599, q24581⟩ := bind_some q24581
              refine ev_index rfl rfl rfl Tryz.underlying22 T46 r24528 q24599 ?_
              intro p24600 c24601 d24602 a24603
              obtain rfl : c24601 = [(.int .u32 x24598)] := d24602
              refine ev (rn_load rfl rfl (run_loadVar1 T46 (a24603.2 0 _ rfl))) ?_
              refine ⟨by decide, ?_⟩
              apply go
              refine sel_of (fun hc => ?_) (fun hc => ?_)
              ·
                have q24581 := cond_t q24581 hc
                apply go
                obtain ⟨x24604, q24605, q24581⟩ := bind_some q24581
                refine ev_call rfl rfl C103 (((ref01_half_ok n) _ _  x24526 v24527 r24528 hp.imm _ q24605).mono ?_)
                rintro _ w24606 ⟨I24607, v24608, hv, hq, r24609⟩
                replace hv := hv.symm
                subst hv
                have hs := hq.st
                have hp := hp.join0 hq
                replace r24525 := r24525.step hs
                exact ⟨_, (Option.some.inj q24581).symm, (v24524, v24608, I24607), (.c rfl (.c rfl (.c rfl (.c rfl .n)))), ⟨hp, r24525, r24609⟩⟩
              ·
                have q24581 := cond_f q24581 hc
                apply go
                apply go
                obtain ⟨x24610, q24611, q24581⟩ := bind_some q24581
                refine ev_call rfl rfl C78 (((ref01_cmp_ok n) _ _  x24523 v24524 r24525 x24526 v24527 r24528 hp.imm _ q24611).mono ?_)
                rintro _ w24612 ⟨rfl, hc⟩
                have hs := hp.stp hc
                replace hp := hp.ext hc
                replace r24525 := r24525.step hs
                replace r24528 := r24528.step hs
                apply go
                refine sel_of (fun hc => ?_) (fun hc => ?_)
                ·
                  have q24581 := cond_t q24581 hc
                  apply go
                  obtain ⟨x24613, q24614, q24581⟩ := bind_some q24581
                  refine ev_call rfl rfl C104 (((ref01_sub_ok n) _ _  x24523 v24524 r24525 x24526 v24527 r24528 hp.imm _ q24614).mono ?_)
                  rintro _ w24615 ⟨I24616, v24617, hv, hq, r24618⟩
                  replace hv := hv.symm
                  subst hv
                  have hs := hq.st
                  have hp := hp.join0 hq
                  replace r24528 := r24528.step hs
                  exact ⟨_, (Option.some.inj q24581).symm, (v24617, v24527, I24616), (.c rfl (.c rfl (.c rfl (.c rfl .n)))), ⟨hp, r24618, r24528⟩⟩
                ·
                  have q24581 := cond_f q24581 hc
                  apply go
                  obtain ⟨x24619, q24620, q24581⟩ := bind_some q24581
                  refine ev_call rfl rfl C104 (((ref01_sub_ok n) _ _  x24526 v24527 r24528 x24523 v24524 r24525 hp.imm _ q24620).mono ?_)
                  rintro _ w24621 ⟨I24622, v24623, hv, hq, r24624⟩
                  replace hv := hv.symm
                  subst hv
                  have hs := hq.st
                  have hp := hp.join0 hq
                  replace r24525 := r24525.step hs
                  exact ⟨_, (Option.some.inj q24581).symm, (v24524, v24623, I24622), (.c rfl (.c rfl (.c rfl (.c rfl .n)))), ⟨hp, r24525, r24624⟩⟩
          ·
            have q24581 := cond_f q24581 hc
            apply go
            have q24625 := congrArg some (q24582 _ (Option.some.inj q24581).symm)
            obtain rfl := Option.some.inj q24625
            exact ⟨(x24523, v24524, I24529), (.c rfl (.c rfl (.c rfl .n))), rfl, hp, r24525⟩
        ·
          rintro ⟨x24474, v24475, I24477⟩ w24478 ⟨hy, hp, r24476⟩
          replace hy := hy.symm
          subst hy
          obtain ⟨y24664, q24665, h⟩ := bind_some h
          refine W.cut (γ := ((List Int) × Value × (Nat → Prop))) (fun g => [(4, (.pointer (some ⟨g23988, 0, none⟩))), (5, (g.2.1))]) (fun g w' => y24664 = (g.1) ∧ Hp ⟨w0, I0, []⟩ (g.2.2) [some (g23988, [(.bool false), (.slice none 0 0)], 24)] w' ∧ RepS (dI .u32) w' (g.2.2) (g.2.1) (g.1)) ?_ ?_
          ·
            apply go
            apply go
            apply go
            refine W.loop q24665 (γ := (Value × (Nat → Prop))) (fun s g => [(4, (.pointer (some ⟨g23988, 0, none⟩))), (5, (g.1)), (7, (.int .i64 x24174)), (8, (.int .i64 (s.2)))]) (fun s g w' => Hp ⟨w0, I0, []⟩ (g.2) [some (g23988, [(.bool false), (.slice none 0 0)], 24)] w' ∧ RepS (dI .u32) w' (g.2) (g.1) (s.1)) (v24475, I24477) (.c rfl (.c rfl (.c rfl (.c rfl .n)))) ⟨hp, r24476⟩ ?_
            rintro ⟨x24672, x24675⟩ ⟨v24673, I24676⟩ w24688 y24689 ⟨hp, r24674⟩ q24690 q24691
            unfold ref01_Gcd_L5 at q24690
            apply go
            apply go
            apply go
            apply go
            refine sel_of (fun hc => ?_) (fun hc => ?_)
            ·
              have q24690 := cond_t q24690 hc
              apply go
              apply go
              apply go
              apply go
              obtain ⟨x24692, q24693, q24690⟩ := bind_some q24690
              refine ev_call rfl rfl C105 (((ref01_add_ok n) _ _  x24672 v24673 r24674 x24672 v24673 r24674 hp.imm _ q24693).mono ?_)
              rintro _ w24694 ⟨I24695, v24696, hv, hq, r24697⟩
              replace hv := hv.symm
              subst hv
              have hs := hq.st
              have hp := hp.join0 hq
              apply go
              exact ⟨_, (Option.some.inj q24690).symm, (v24696, I24695), (.c rfl (.c rfl (.c rfl (.c rfl .n)))), ⟨hp, r24697⟩⟩
            ·
              have q24690 := cond_f q24690 hc
              apply go
              have q24698 := congrArg some (q24691 _ (Option.some.inj q24690).symm)
              obtain rfl := Option.some.inj q24698
              exact ⟨(x24672, v24673, I24676), (.c rfl (.c rfl .n)), rfl, hp, r24674⟩
          ·
            rintro ⟨x24659, v24660, I24662⟩ w24663 ⟨hy, hp, r24661⟩
            replace hy := hy.symm
            subst hy
            apply go
            apply go
            obtain ⟨A24699, m24700, m24701, rfl⟩ := r24661.isSl
            refine ev0 (fun w => rn_build (cs := [(.bool false), (.slice A24699 m24700 m24701)]) rfl rfl T24 PL24 rfl) ?_
            refine ev_storeA hp (i := 0) (off := 0) (vs := [(.bool false), (.slice A24699 m24700 m24701)]) rfl rfl rfl rfl T24 rfl (Nat.le_of_ble_eq_true rfl) (ones_cons rfl (ones_cons r24661.one ones_nil)) ?_
            intro w24703 hp hs
            replace r24661 := r24661.step hs
            apply go
            obtain rfl := Option.some.inj h
            refine ⟨_, run_loadVarA T24 rfl (hp.at_ (i := 0) rfl), ?_⟩
            have hp := hp.sel [] (by decide)
            exact ⟨I24662, (.slice A24699 m24700 m24701), rfl, hp, r24661⟩

end Go.Proofs.YtepadjfmcbjkmaaGreatDoor

namespace Go.Proofs.YtepadjfmcbjkmaaGreatDoor
open Go Go.Proofs.YtepadjfmcbjkmaaGreatDoor.Gw Go.RowKit
set_option linter.unusedVariables false
attribute [local irreducible] Ev EvQ EvS EvH
def ref02_New_S (f : Int_2 → Int_2 → Option Rational) : Prop := ∀ (w0 : World) (I0 : Nat → Prop) (x26189 : Int_2) (v26190 : Value) (r26191 : RepS (dI .u32) w0 I0 v26190 x26189.Mag) (x26192 : Int_2) (v26193 : Value) (r26194 : RepS (dI .u32) w0 I0 v26193 x26192.Mag) (hI : ∀ g, I0 g → g < w0.heap.size) (r : Rational), f x26189 x26192 = some r →
    Ret Tryz.prog 41 #[(.agg #[(.bool x26189.Neg), v26190]), (.agg #[(.bool x26192.Neg), v26193])] w0 fun v w1 => ∃ (I1 : Nat → Prop) (u26195 : Value) (u26196 : Value), v = (.agg #[(.bool r.Num.Neg), u26195, (.bool r.Den.Neg), u26196]) ∧ Hp ⟨w0, I0, []⟩ I1 [] w1 ∧ RepS (dI .u32) w1 I1 u26195 r.Num.Mag ∧ RepS (dI .u32) w1 I1 u26196 r.Den.Mag
theorem ref02_New_ok (n : Nat) : ref02_New_S (ref02_New n) := by
  intro w0 I0 x26189 v26190 r26191 x26192 v26193 r26194 hI r h
  unfold ref02_New at h
  refine enter Tryz.func41 rfl (Nat.le_of_ble_eq_true rfl) ?_
  have hp : Hp ⟨w0, I0, []⟩ I0 [] w0 := Hp.start hI
  apply go
  apply go
  refine ev_box hp rfl rfl ?_
  intro g26197 w26198 hp hs
  replace r26194 := r26194.step hs
  replace r26191 := r26191.step hs
  refine ev_box hp rfl rfl ?_
  intro g26199 w26200 hp hs
  replace r26194 := r26194.step hs
  replace r26191 := r26191.step hs
  refine ev_alloc hp rfl T26 ?_
  intro g26201 w26202 hp hs
  replace r26194 := r26194.step hs
  replace r26191 := r26191.step hs
  apply go
  obtain ⟨y26211, q26212, h⟩ := bind_some h
  refine W.cut (γ := Bool) (fun g => [(2, (.pointer (some ⟨g26197, 0, none⟩))), (3, (.pointer (some ⟨g26199, 0, none⟩))), (4, (.pointer (some ⟨g26201, 0, none⟩))), (13, (.bool (g)))]) (fun g w' => y26211 = (g) ∧ Hp ⟨w0, I0, []⟩ I0 [some (g26197, [(.bool x26189.Neg), v26190], 24), some (g26199, [(.bool x26192.Neg), v26193], 24), some (g26201, [(.bool false), (.slice none 0 0), (.bool false), (.slice none 0 0)], 26)] w' ∧ RepS (dI .u32) w' I0 v26190 x26189.Mag ∧ RepS (dI .u32) w' I0 v26193 x26192.Mag) ?_ ?_
  ·
    apply go
    refine ev (rn_load rfl rfl (run_loadVarA T24 rfl (hp.at_ (i := 2) rfl))) ?_
    obtain ⟨x26213, q26214, q26212⟩ := bind_some q26212
    refine ev_call rfl rfl C73 (((ref01_Sign_ok n) _ _  (Int_2.mk x26189.Neg x26189.Mag) v26190 r26191 hp.imm _ q26214).mono ?_)
    rintro _ w26215 ⟨rfl, hc⟩
    have hs := hp.stp hc
    replace hp := hp.ext hc
    replace r26194 := r26194.step hs
    replace r26191 := r26191.step hs
    refine sel_of (fun hc => ?_) (fun hc => ?_)
    ·
      have q26212 := cond_t q26212 hc
      obtain rfl := Option.some.inj q26212
      have hp := hp.perm [2, 1, 0] (by decide)
      exact ⟨true, (.c rfl (.c rfl (.c rfl (.c rfl .n)))), rfl, hp, r26191, r26194⟩
    ·
      have q26212 := cond_f q26212 hc
      refine ev (rn_load rfl rfl (run_loadVarA T24 rfl (hp.at_ (i := 1) rfl))) ?_
      obtain ⟨x26216, q26217, q26212⟩ := bind_some q26212
      refine ev_call rfl rfl C73 (((ref01_Sign_ok n) _ _  (Int_2.mk x26192.Neg x26192.Mag) v26193 r26194 hp.imm _ q26217).mono ?_)
      rintro _ w26218 ⟨rfl, hc⟩
      have hs := hp.stp hc
      replace hp := hp.ext hc
      replace r26194 := r26194.step hs
      replace r26191 := r26191.step hs
      obtain rfl := Option.some.inj q26212
      have hp := hp.perm [2, 1, 0] (by decide)
      exact ⟨(x26216 == 0), (.c rfl (.c rfl (.c rfl (.c rfl .n)))), rfl, hp, r26191, r26194⟩
  ·
    rintro x26209 w26210 ⟨hy, hp, r26191, r26194⟩
    replace hy := hy.symm
    subst hy
    apply go
    refine sel_of (fun hc => ?_) (fun hc => ?_)
    ·
      have h := cond_t h hc
      apply go
      apply go
      obtain ⟨x26219, q26220, h⟩ := bind_some h
      refine ev_call rfl rfl C74 (((ref01_Of_ok n) _ _  0 hp.imm _ q26220).mono ?_)
      rintro _ w26221 ⟨I26222, v26223, hv, hq, r26224⟩
      replace hv := hv.symm
      subst hv
      have hs := hq.st
      have hp := hp.join0 hq
      replace r26191 := r26191.step hs
      replace r26194 := r26194.step hs
      obtain ⟨x26225, q26226, h⟩ := bind_some h
      refine ev_call rfl rfl C45 (((ref02_One_ok n) _ _   hp.imm _ q26226).mono ?_)
      rintro _ w26227 ⟨I26228, v26229, hv, hq, r26230⟩
      replace hv := hv.symm
      subst hv
      have hs := hq.st
      have hp := hp.join0 hq
      replace r26224 := r26224.step hs
      replace r26191 := r26191.step hs
      replace r26194 := r26194.step hs
      obtain ⟨A26231, m26232, m26233, rfl⟩ := r26224.isSl
      obtain ⟨A26235, m26236, m26237, rfl⟩ := r26230.isSl
      refine ev0 (fun w => rn_build (cs := [(.bool x26219.Neg), (.slice A26231 m26232 m26233), (.bool x26225.Neg), (.slice A26235 m26236 m26237)]) rfl rfl T26 PL26 rfl) ?_
      refine ev_storeA hp (i := 2) (off := 0) (vs := [(.bool x26219.Neg), (.slice A26231 m26232 m26233), (.bool x26225.Neg), (.slice A26235 m26236 m26237)]) rfl rfl rfl rfl T26 rfl (Nat.le_of_ble_eq_true rfl) (ones_cons rfl (ones_cons r26224.one (ones_cons rfl (ones_cons r26230.one ones_nil)))) ?_
      intro w26239 hp hs
      replace r26191 := r26191.step hs
      replace r26194 := r26194.step hs
      replace r26224 := r26224.step hs
      replace r26230 := r26230.step hs
      apply go
      obtain rfl := Option.some.inj h
      refine ⟨_, run_loadVarA T26 rfl (hp.at_ (i := 2) rfl), ?_⟩
      have hp := hp.sel [] (by decide)
      exact ⟨I26228, (.slice A26231 m26232 m26233), (.slice A26235 m26236 m26237), rfl, hp, r26224, r26230⟩
    ·
      have h := cond_f h hc
      apply go
      obtain ⟨y26267, q26268, h⟩ := bind_some h
      refine W.cut (γ := (Bool × (List Int) × Bool × (List Int) × Value × Value × (Nat → Prop))) (fun g => [(2, (.pointer (some ⟨g26197, 0, none⟩))), (3, (.pointer (some ⟨g26199, 0, none⟩))), (4, (.pointer (some ⟨g26201, 0, none⟩)))]) (fun g w' => y26267 = ((g.1), (g.2.1), (g.2.2.1), (g.2.2.2.1)) ∧ Hp ⟨w0, I0, []⟩ (g.2.2.2.2.2.2) [some (g26197, [(.bool (g.1)), (g.2.2.2.2.1)], 24), some (g26199, [(.bool (g.2.2.1)), (g.2.2.2.2.2.1)], 24), some (g26201, [(.bool false), (.slice none 0 0), (.bool false), (.slice none 0 0)], 26)] w' ∧ RepS (dI .u32) w' (g.2.2.2.2.2.2) (g.2.2.2.2.1) (g.2.1) ∧ RepS (dI .u32) w' (g.2.2.2.2.2.2) (g.2.2.2.2.2.1) (g.2.2.2.1)) ?_ ?_
      ·
        apply go
        apply go
        refine ev (rn_load rfl rfl (run_loadVarA T24 rfl (hp.at_ (i := 1) rfl))) ?_
        obtain ⟨x26269, q26270, q26268⟩ := bind_some q26268
        refine ev_call rfl rfl C73 (((ref01_Sign_ok n) _ _  (Int_2.mk x26192.Neg x26192.Mag) v26193 r26194 hp.imm _ q26270).mono ?_)
        rintro _ w26271 ⟨rfl, hc⟩
        have hs := hp.stp hc
        replace hp := hp.ext hc
        replace r26191 := r26191.step hs
        replace r26194 := r26194.step hs
        apply go
        refine sel_of (fun hc => ?_) (fun hc => ?_)
        ·
          have q26268 := cond_t q26268 hc
          apply go
          apply go
          refine ev (rn_load rfl rfl (run_loadVarA T24 rfl (hp.at_ (i := 0) rfl))) ?_
          obtain ⟨x26272, q26273, q26268⟩ := bind_some q26268
          refine ev_call rfl rfl C75 (((ref01_Neg_ok n) _ _  (Int_2.mk x26189.Neg x26189.Mag) v26190 r26191 hp.imm _ q26273).mono ?_)
          rintro _ w26274 ⟨I26275, v26276, hv, hq, r26277⟩
          replace hv := hv.symm
          subst hv
          have hs := hq.st
          have hp := hp.join0 hq
          replace r26191 := r26191.step hs
          replace r26194 := r26194.step hs
          refine ev_storeA hp (i := 0) (off := 0) (vs := [(.bool x26272.Neg), v26276]) rfl rfl rfl rfl T24 rfl (Nat.le_of_ble_eq_true rfl) (ones_cons rfl (ones_cons r26277.one ones_nil)) ?_
          intro w26278 hp hs
          replace r26277 := r26277.step hs
          replace r26194 := r26194.step hs
          apply go
          refine ev (rn_load rfl rfl (run_loadVarA T24 rfl (hp.at_ (i := 1) rfl))) ?_
          obtain ⟨x26279, q26280, q26268⟩ := bind_some q26268
          refine ev_call rfl rfl C75 (((ref01_Neg_ok n) _ _  (Int_2.mk x26192.Neg x26192.Mag) v26193 r26194 hp.imm _ q26280).mono ?_)
          rintro _ w26281 ⟨I26282, v26283, hv, hq, r26284⟩
          replace hv := hv.symm
          subst hv
          have hs := hq.st
          have hp := hp.join0 hq
          replace r26277 := r26277.step hs
          replace r26194 := r26194.step hs
          refine ev_storeA hp (i := 1) (off := 0) (vs := [(.bool x26279.Neg), v26283]) rfl rfl rfl rfl T24 rfl (Nat.le_of_ble_eq_true rfl) (ones_cons rfl (ones_cons r26284.one ones_nil)) ?_
          intro w26285 hp hs
          replace r26277 := r26277.step hs
          replace r26284 := r26284.step hs
          obtain rfl := Option.some.inj q26268
          exact ⟨(x26272.Neg, x26272.Mag, x26279.Neg, x26279.Mag, v26276, v26283, I26282), (.c rfl (.c rfl (.c rfl .n))), rfl, hp, r26277, r26284⟩
        ·
          have q26268 := cond_f q26268 hc
          apply go
          obtain rfl := Option.some.inj q26268
          exact ⟨(x26189.Neg, x26189.Mag, x26192.Neg, x26192.Mag, v26190, v26193, I0), (.c rfl (.c rfl (.c rfl .n))), rfl, hp, r26191, r26194⟩
      ·
        rintro ⟨x26257, x26258, x26261, x26262, v26259, v26263, I26265⟩ w26266 ⟨hy, hp, r26260, r26264⟩
        replace hy := hy.symm
        subst hy
        apply go
        apply go
        refine ev (rn_load rfl rfl (run_loadVarA T24 rfl (hp.at_ (i := 0) rfl))) ?_
        refine ev (rn_load rfl rfl (run_loadVarA T24 rfl (hp.at_ (i := 1) rfl))) ?_
        obtain ⟨x26286, q26287, h⟩ := bind_some h
        refine ev_call rfl rfl C76 (((ref01_Gcd_ok n) _ _  (Int_2.mk x26257 x26258) v26259 r26260 (Int_2.mk x26261 x26262) v26263 r26264 hp.imm _ q26287).mono ?_)
        rintro _ w26288 ⟨I26289, v26290, hv, hq, r26291⟩
        replace hv := hv.symm
        subst hv
        have hs := hq.st
        have hp := hp.join0 hq
        replace r26260 := r26260.step hs
        replace r26264 := r26264.step hs
        refine ev_alloc hp rfl T24 ?_
        intro g26292 w26293 hp hs
        replace r26291 := r26291.step hs
        replace r26260 := r26260.step hs
        replace r26264 := r26264.step hs
        refine ev_storeA hp (i := 0) (off := 0) (vs := [(.bool x26286.Neg), v26290]) rfl rfl rfl rfl T24 rfl (Nat.le_of_ble_eq_true rfl) (ones_cons rfl (ones_cons r26291.one ones_nil)) ?_
        intro w26294 hp hs
        replace r26291 := r26291.step hs
        replace r26260 := r26260.step hs
        replace r26264 := r26264.step hs
        apply go
        have hs := hp.stp (Ch.drew [] w26294)
        have hp := hp.drew
        replace r26291 := r26291.step hs
        replace r26260 := r26260.step hs
        replace r26264 := r26264.step hs
        refine W.held [(0, true), (1, true), (3, true), (4, true), (2, false), (5, false), (6, true), (7, false)] (fun x => Stp I26289 w26294.drew I26289 x ∧ OwnK [(g26197, [(.bool x26257), v26259], 24), (g26292, [(.bool x26286.Neg), v26290], 24), (g26199, [(.bool x26261), v26263], 24)] x) MX (by kernel_rfl) ⟨Stp.refl _ _, (OwnK.cons (hp.own 1 _ _ _ rfl).1 (OwnK.cons (hp.own 0 _ _ _ rfl).1 (OwnK.cons (hp.own 2 _ _ _ rfl).1 OwnK.nil)))⟩ ?_
        have hz := Stp.refl I26289 w26294.drew
        refine evh (fun w' hw => rn_load rfl rfl (run_loadVarA T24 rfl (hw.2.at_ (i := 0) rfl))) ?_
        refine evh (fun w' hw => rn_load rfl rfl (run_loadVarA T24 rfl (hw.2.at_ (i := 1) rfl))) ?_
        refine evh (fun w' hw => rn_load rfl rfl (run_loadVarA T24 rfl (hw.2.at_ (i := 2) rfl))) ?_
        refine evh (fun w' hw => rn_load rfl rfl (run_loadVarA T24 rfl (hw.2.at_ (i := 1) rfl))) ?_
        obtain ⟨x26316, q26317, h⟩ := bind_some h
        refine ev_call rfl rfl C50 (((ref02_part_ok n) _ _  (Int_2.mk x26257 x26258) v26259 r26260 (Int_2.mk x26286.Neg x26286.Mag) v26290 r26291 hp.imm _ q26317).mono ?_)
        rintro _ w26318 ⟨I26319, v26320, hv, hq, r26321⟩
        replace hv := hv.symm
        subst hv
        have hs := hq.st
        have hp := hp.join0 hq
        replace hz := hz.trans hs
        replace r26264 := r26264.step hs
        replace r26291 := r26291.step hs
        replace r26260 := r26260.step hs
        refine ⟨fun x => Stp I26319 w26318 I26319 x ∧ OwnK [(g26197, [(.bool x26257), v26259], 24), (g26292, [(.bool x26286.Neg), v26290], 24), (g26199, [(.bool x26261), v26263], 24)] x, ⟨Stp.refl _ _, (OwnK.cons (hp.own 1 _ _ _ rfl).1 (OwnK.cons (hp.own 0 _ _ _ rfl).1 (OwnK.cons (hp.own 2 _ _ _ rfl).1 OwnK.nil)))⟩, fun x hx => ⟨hz.held hx.1, hx.2⟩, ?_⟩
        have hz := Stp.refl I26319 w26318
        obtain ⟨x26322, q26323, h⟩ := bind_some h
        refine ev_call rfl rfl C50 (((ref02_part_ok n) _ _  (Int_2.mk x26261 x26262) v26263 r26264 (Int_2.mk x26286.Neg x26286.Mag) v26290 r26291 hp.imm _ q26323).mono ?_)
        rintro _ w26324 ⟨I26325, v26326, hv, hq, r26327⟩
        replace hv := hv.symm
        subst hv
        have hs := hq.st
        have hp := hp.join0 hq
        replace hz := hz.trans hs
        replace r26321 := r26321.step hs
        replace r26291 := r26291.step hs
        replace r26260 := r26260.step hs
        replace r26264 := r26264.step hs
        refine ⟨fun x => Stp I26325 w26324 I26325 x ∧ OwnK [(g26197, [(.bool x26257), v26259], 24), (g26292, [(.bool x26286.Neg), v26290], 24), (g26199, [(.bool x26261), v26263], 24)] x, ⟨Stp.refl _ _, (OwnK.cons (hp.own 1 _ _ _ rfl).1 (OwnK.cons (hp.own 0 _ _ _ rfl).1 (OwnK.cons (hp.own 2 _ _ _ rfl).1 OwnK.nil)))⟩, fun x hx => ⟨hz.held hx.1, hx.2⟩, ?_⟩
        have hz := Stp.refl I26325 w26324
        obtain ⟨A26328, m26329, m26330, rfl⟩ := r26321.isSl
        obtain ⟨A26332, m26333, m26334, rfl⟩ := r26327.isSl
        refine evh0 (fun w => rn_build (cs := [(.bool x26316.Neg), (.slice A26328 m26329 m26330), (.bool x26322.Neg), (.slice A26332 m26333 m26334)]) rfl rfl T26 PL26 rfl) ?_
        refine ev_storeA hp (i := 3) (off := 0) (vs := [(.bool x26316.Neg), (.slice A26328 m26329 m26330), (.bool x26322.Neg), (.slice A26332 m26333 m26334)]) rfl rfl rfl rfl T26 rfl (Nat.le_of_ble_eq_true rfl) (ones_cons rfl (ones_cons r26321.one (ones_cons rfl (ones_cons r26327.one ones_nil)))) ?_
        intro w26336 hp hs
        replace hz := hz.trans hs
        replace r26291 := r26291.step hs
        replace r26260 := r26260.step hs
        replace r26264 := r26264.step hs
        replace r26321 := r26321.step hs
        replace r26327 := r26327.step hs
        refine ⟨fun x => Stp I26325 w26336 I26325 x ∧ OwnK [(g26197, [(.bool x26257), v26259], 24), (g26292, [(.bool x26286.Neg), v26290], 24), (g26199, [(.bool x26261), v26263], 24)] x, ⟨Stp.refl _ _, (OwnK.cons (hp.own 1 _ _ _ rfl).1 (OwnK.cons (hp.own 0 _ _ _ rfl).1 (OwnK.cons (hp.own 2 _ _ _ rfl).1 OwnK.nil)))⟩, fun x hx => ⟨hz.held hx.1, hx.2⟩, ?_⟩
        have hz := Stp.refl I26325 w26336
        apply go
        obtain rfl := Option.some.inj h
        refine ⟨_, run_loadVarA T26 rfl (hp.at_ (i := 3) rfl), ?_⟩
        have hp := hp.sel [] (by decide)
        exact ⟨I26325, (.slice A26328 m26329 m26330), (.slice A26332 m26333 m26334), rfl, hp, r26321, r26327⟩

end Go.Proofs.YtepadjfmcbjkmaaGreatDoor

namespace Go.Proofs.YtepadjfmcbjkmaaGreatDoor
open Go Go.Proofs.YtepadjfmcbjkmaaGreatDoor.Gw Go.RowKit
set_option linter.unusedVariables false
attribute [local irreducible] Ev EvQ EvS EvH
def ref02_Norm_S (f : Rational → Option Rational) : Prop := ∀ (w0 : World) (I0 : Nat → Prop) (x26337 : Rational) (v26338 : Value) (r26339 : RepS (dI .u32) w0 I0 v26338 x26337.Num.Mag) (v26340 : Value) (r26341 : RepS (dI .u32) w0 I0 v26340 x26337.Den.Mag) (hI : ∀ g, I0 g → g < w0.heap.size) (r : Rational), f x26337 = some r →
    Ret Tryz.prog 35 #[(.agg #[(.bool x26337.Num.Neg), v26338, (.bool x26337.Den.Neg), v26340])] w0 fun v w1 => ∃ (I1 : Nat → Prop) (u26342 : Value) (u26343 : Value), v = (.agg #[(.bool r.Num.Neg), u26342, (.bool r.Den.Neg), u26343]) ∧ Hp ⟨w0, I0, []⟩ I1 [] w1 ∧ RepS (dI .u32) w1 I1 u26342 r.Num.Mag ∧ RepS (dI .u32) w1 I1 u26343 r.Den.Mag
theorem ref02_Norm_ok (n : Nat) : ref02_Norm_S (ref02_Norm n) := by
  intro w0 I0 x26337 v26338 r26339 v26340 r26341 hI r h
  unfold ref02_Norm at h
  refine enter Tryz.func35 rfl (Nat.le_of_ble_eq_true rfl) ?_
  have hp : Hp ⟨w0, I0, []⟩ I0 [] w0 := Hp.start hI
  apply go
  apply go
  refine ev_boxI hp rfl rfl ?_
  intro p26346 I26347 w26345 hp hs a26348
  replace r26339 := r26339.step hs
  replace r26341 := r26341.step hs
  refine ev_alloc hp rfl T26 ?_
  intro g26349 w26350 hp hs
  replace a26348 := a26348.step hs
  replace r26339 := r26339.step hs
  replace r26341 := r26341.step hs
  apply go
  apply go
  refine ev0 (rn_field rfl rfl FO26_0) ?_
  refine ev (rn_load rfl rfl (run_loadVarA T24 rfl ((a26348.drop 0).take 2))) ?_
  refine ev0 (rn_field rfl rfl FO26_1) ?_
  refine ev (rn_load rfl rfl (run_loadVarA T24 rfl ((a26348.drop 2).take 2))) ?_
  obtain ⟨x26351, q26352, h⟩ := bind_some h
  refine ev_call rfl rfl C41 (((ref02_New_ok n) _ _  (Int_2.mk x26337.Num.Neg x26337.Num.Mag) v26338 r26339 (Int_2.mk x26337.Den.Neg x26337.Den.Mag) v26340 r26341 hp.imm _ q26352).mono ?_)
  rintro _ w26353 ⟨I26354, v26355, v26357, hv, hq, r26356, r26358⟩
  replace hv := hv.symm
  subst hv
  have hs := hq.st
  have hp := hp.join0 hq
  refine ev_storeA hp (i := 0) (off := 0) (vs := [(.bool x26351.Num.Neg), v26355, (.bool x26351.Den.Neg), v26357]) rfl rfl rfl rfl T26 rfl (Nat.le_of_ble_eq_true rfl) (ones_cons rfl (ones_cons r26356.one (ones_cons rfl (ones_cons r26358.one ones_nil)))) ?_
  intro w26359 hp hs
  replace r26356 := r26356.step hs
  replace r26358 := r26358.step hs
  apply go
  obtain rfl := Option.some.inj h
  refine ⟨_, run_loadVarA T26 rfl (hp.at_ (i := 0) rfl), ?_⟩
  have hp := hp.sel [] (by decide)
  exact ⟨I26354, v26355, v26357, rfl, hp, r26356, r26358⟩

end Go.Proofs.YtepadjfmcbjkmaaGreatDoor

namespace Go.Proofs.YtepadjfmcbjkmaaGreatDoor
open Go Go.Proofs.YtepadjfmcbjkmaaGreatDoor.Gw Go.RowKit
set_option linter.unusedVariables false
attribute [local irreducible] Ev EvQ EvS EvH
def ref02_Sign_S (f : Rational → Option Int) : Prop := ∀ (w0 : World) (I0 : Nat → Prop) (x26360 : Rational) (v26361 : Value) (r26362 : RepS (dI .u32) w0 I0 v26361 x26360.Num.Mag) (v26363 : Value) (r26364 : RepS (dI .u32) w0 I0 v26363 x26360.Den.Mag) (hI : ∀ g, I0 g → g < w0.heap.size) (r : Int), f x26360 = some r →
    Ret Tryz.prog 40 #[(.agg #[(.bool x26360.Num.Neg), v26361, (.bool x26360.Den.Neg), v26363])] w0 fun v w1 => v = (.int .i64 r) ∧ Ch [] w0 w1
theorem ref02_Sign_ok (n : Nat) : ref02_Sign_S (ref02_Sign n) := by
  intro w0 I0 x26360 v26361 r26362 v26363 r26364 hI r h
  unfold ref02_Sign at h
  refine enter Tryz.func40 rfl (Nat.le_of_ble_eq_true rfl) ?_
  have hp : Hp ⟨w0, I0, []⟩ I0 [] w0 := Hp.start hI
  apply go
  apply go
  refine ev_boxI hp rfl rfl ?_
  intro p26367 I26368 w26366 hp hs a26369
  replace r26362 := r26362.step hs
  replace r26364 := r26364.step hs
  apply go
  apply go
  refine ev (rn_load rfl rfl (run_loadVarA T26 rfl a26369)) ?_
  obtain ⟨x26370, q26371, h⟩ := bind_some h
  refine ev_call rfl rfl C35 (((ref02_Norm_ok n) _ _  (Rational.mk (Int_2.mk x26360.Num.Neg x26360.Num.Mag) (Int_2.mk x26360.Den.Neg x26360.Den.Mag)) v26361 r26362 v26363 r26364 hp.imm _ q26371).mono ?_)
  rintro _ w26372 ⟨I26373, v26374, v26376, hv, hq, r26375, r26377⟩
  replace hv := hv.symm
  subst hv
  have hs := hq.st
  have hp := hp.join0 hq
  refine ev0 (rn_fieldV (off := 0) (size := 2) rfl rfl (by unfold FT; kernel_rfl) T24) ?_
  obtain ⟨x26378, q26379, h⟩ := bind_some h
  refine ev_call rfl rfl C73 (((ref01_Sign_ok n) _ _  (Int_2.mk x26370.Num.Neg x26370.Num.Mag) v26374 r26375 hp.imm _ q26379).mono ?_)
  rintro _ w26380 ⟨rfl, hc⟩
  have hs := hp.stp hc
  replace hp := hp.ext hc
  apply go
  obtain rfl := Option.some.inj h
  exact ⟨rfl, hp.ch⟩

end Go.Proofs.YtepadjfmcbjkmaaGreatDoor

namespace Go.Proofs.YtepadjfmcbjkmaaGreatDoor
open Go Go.Proofs.YtepadjfmcbjkmaaGreatDoor.Gw Go.RowKit
set_option linter.unusedVariables false
attribute [local irreducible] Ev EvQ EvS EvH
def ref01_Mul_S (f : Int_2 → Int_2 → Option Int_2) : Prop := ∀ (w0 : World) (I0 : Nat → Prop) (x26381 : Int_2) (v26382 : Value) (r26383 : RepS (dI .u32) w0 I0 v26382 x26381.Mag) (x26384 : Int_2) (v26385 : Value) (r26386 : RepS (dI .u32) w0 I0 v26385 x26384.Mag) (hI : ∀ g, I0 g → g < w0.heap.size) (r : Int_2), f x26381 x26384 = some r →
    Ret Tryz.prog 42 #[(.agg #[(.bool x26381.Neg), v26382]), (.agg #[(.bool x26384.Neg), v26385])] w0 fun v w1 => ∃ (I1 : Nat → Prop) (u26387 : Value), v = (.agg #[(.bool r.Neg), u26387]) ∧ Hp ⟨w0, I0, []⟩ I1 [] w1 ∧ RepS (dI .u32) w1 I1 u26387 r.Mag
theorem ref01_Mul_ok (n : Nat) : ref01_Mul_S (ref01_Mul n) := by
  intro w0 I0 x26381 v26382 r26383 x26384 v26385 r26386 hI r h
  unfold ref01_Mul at h
  refine enter Tryz.func42 rfl (Nat.le_of_ble_eq_true rfl) ?_
  have hp : Hp ⟨w0, I0, []⟩ I0 [] w0 := Hp.start hI
  apply go
  apply go
  refine ev_boxI hp rfl rfl ?_
  intro p26390 I26391 w26389 hp hs a26392
  replace r26386 := r26386.step hs
  replace r26383 := r26383.step hs
  refine ev_boxI hp rfl rfl ?_
  intro p26395 I26396 w26394 hp hs a26397
  replace a26392 := a26392.step hs
  replace r26383 := r26383.step hs
  replace r26386 := r26386.step hs
  refine ev_alloc hp rfl T24 ?_
  intro g26398 w26399 hp hs
  replace a26392 := a26392.step hs
  replace r26383 := r26383.step hs
  replace a26397 := a26397.step hs
  replace r26386 := r26386.step hs
  apply go
  apply go
  refine ev0 (rn_field rfl rfl FO24_1) ?_
  refine ev (rn_load rfl rfl (run_loadVar1 T22 (a26392.2 1 _ rfl))) ?_
  refine ev0 (rn_len rfl rfl Tryz.underlying22 r26383) ?_
  refine ev0 (rn_field rfl rfl FO24_1) ?_
  refine ev (rn_load rfl rfl (run_loadVar1 T22 (a26397.2 1 _ rfl))) ?_
  refine ev0 (rn_len rfl rfl Tryz.underlying22 r26386) ?_
  obtain ⟨x26400, q26401, h⟩ := bind_some h
  refine ev_make (d := (dI .u32)) (x0 := 0) hp rfl rfl rfl Tryz.underlying22 T46 (fun _ _ => rfl) (Nat.le_of_ble_eq_true rfl) q26401 ?_
  intro v26402 e26403 w26404 hp hs o26405
  replace a26392 := a26392.step hs
  replace r26383 := r26383.step hs
  replace a26397 := a26397.step hs
  replace r26386 := r26386.step hs
  obtain ⟨y27521, q27522, h⟩ := bind_some h
  refine W.cut (γ := ((List Int) × Ent)) (fun g => [(2, (.pointer (some (p26390)))), (3, (.pointer (some (p26395)))), (4, (.pointer (some ⟨g26398, 0, none⟩))), (5, v26402)]) (fun g w' => y27521 = (g.1) ∧ Hp ⟨w0, I0, []⟩ I26396 [some (g26398, [(.bool false), (.slice none 0 0)], 24), (g.2)] w' ∧ RepS (dI .u32) w' I26396 v26382 x26381.Mag ∧ At w' I26396 p26390 [(.bool x26381.Neg), v26382] ∧ RepS (dI .u32) w' I26396 v26385 x26384.Mag ∧ At w' I26396 p26395 [(.bool x26384.Neg), v26385] ∧ OwnS (dI .u32) 46 w' I26396 v26402 (g.2) (g.1)) ?_ ?_
  ·
    apply go
    apply go
    apply go
    have hp := hp.perm [1, 0] (by decide)
    refine W.loop q27522 (γ := Ent) (fun s g => [(2, (.pointer (some (p26390)))), (3, (.pointer (some (p26395)))), (4, (.pointer (some ⟨g26398, 0, none⟩))), (5, v26402), (6, (.int .i64 (s.2)))]) (fun s g w' => Hp ⟨w0, I0, []⟩ I26396 [some (g26398, [(.bool false), (.slice none 0 0)], 24), (g)] w' ∧ RepS (dI .u32) w' I26396 v26382 x26381.Mag ∧ At w' I26396 p26390 [(.bool x26381.Neg), v26382] ∧ RepS (dI .u32) w' I26396 v26385 x26384.Mag ∧ At w' I26396 p26395 [(.bool x26384.Neg), v26385] ∧ OwnS (dI .u32) 46 w' I26396 v26402 (g) (s.1)) e26403 (.c rfl (.c rfl (.c rfl (.c rfl (.c rfl .n))))) ⟨hp, r26383, a26392, r26386, a26397, o26405⟩ ?_
    rintro ⟨x27888, x27892⟩ e27890 w28263 y28264 ⟨hp, r26383, a26392, r26386, a26397, o27891⟩ q28265 q28266
    unfold ref01_Mul_L11 at q28265
    apply go
    apply go
    apply go
    refine ev0 (rn_field rfl rfl FO24_1) ?_
    refine ev (rn_load rfl rfl (run_loadVar1 T22 (a26392.2 1 _ rfl))) ?_
    refine ev0 (rn_len rfl rfl Tryz.underlying22 r26383) ?_
    apply go
    refine sel_of (fun hc => ?_) (fun hc => ?_)
    ·
      have q28265 := cond_t q28265 hc
      apply go
      obtain ⟨y28451, q28452, q28265⟩ := bind_some q28265
      refine W.cut (γ := ((List Int) × Ent)) (fun g => [(2, (.pointer (some (p26390)))), (3, (.pointer (some (p26395)))), (4, (.pointer (some ⟨g26398, 0, none⟩))), (5, v26402), (6, (.int .i64 x27892))]) (fun g w' => y28451 = (g.1) ∧ Hp ⟨w0, I0, []⟩ I26396 [some (g26398, [(.bool false), (.slice none 0 0)], 24), (g.2)] w' ∧ RepS (dI .u32) w' I26396 v26382 x26381.Mag ∧ At w' I26396 p26390 [(.bool x26381.Neg), v26382] ∧ RepS (dI .u32) w' I26396 v26385 x26384.Mag ∧ At w' I26396 p26395 [(.bool x26384.Neg), v26385] ∧ OwnS (dI .u32) 46 w' I26396 v26402 (g.2) (g.1)) ?_ ?_
      ·
        apply go
        apply go
        apply go
        apply go
        apply go
        apply go
        refine W.loop q28452 (γ := Ent) (fun s g => [(2, (.pointer (some (p26390)))), (3, (.pointer (some (p26395)))), (4, (.pointer (some ⟨g26398, 0, none⟩))), (5, v26402), (6, (.int .i64 x27892)), (7, (.int .u64 (s.2.1))), (8, (.int .i64 (s.2.2)))]) (fun s g w' => Hp ⟨w0, I0, []⟩ I26396 [some (g26398, [(.bool false), (.slice none 0 0)], 24), (g)] w' ∧ RepS (dI .u32) w' I26396 v26382 x26381.Mag ∧ At w' I26396 p26390 [(.bool x26381.Neg), v26382] ∧ RepS (dI .u32) w' I26396 v26385 x26384.Mag ∧ At w' I26396 p26395 [(.bool x26384.Neg), v26385] ∧ OwnS (dI .u32) 46 w' I26396 v26402 (g) (s.1)) e27890 (.c rfl (.c rfl (.c rfl (.c rfl (.c rfl (.c rfl (.c rfl .n))))))) ⟨hp, r26383, a26392, r26386, a26397, o27891⟩ ?_
        rintro ⟨x28507, x28511, x28512⟩ e28509 w28573 y28574 ⟨hp, r26383, a26392, r26386, a26397, o28510⟩ q28575 q28576
        unfold ref01_Mul_L13 at q28575
        apply go
        obtain ⟨y28578, q28579, q28575⟩ := bind_some q28575
        refine W.cut (γ := Bool) (fun g => [(2, (.pointer (some (p26390)))), (3, (.pointer (some (p26395)))), (4, (.pointer (some ⟨g26398, 0, none⟩))), (5, v26402), (6, (.int .i64 x27892)), (7, (.int .u64 x28511)), (8, (.int .i64 x28512)), (34, (.bool (g)))]) (fun g w' => y28578 = (g) ∧ w28573 = w') ?_ ?_
        ·
          apply go
          refine ev0 (rn_field rfl rfl FO24_1) ?_
          refine ev (rn_load rfl rfl (run_loadVar1 T22 (a26397.2 1 _ rfl))) ?_
          refine ev0 (rn_len rfl rfl Tryz.underlying22 r26386) ?_
          refine sel_of (fun hc => ?_) (fun hc => ?_)
          ·
            have q28579 := cond_t q28579 hc
            obtain rfl := Option.some.inj q28579
            exact ⟨true, (.c rfl (.c rfl (.c rfl (.c rfl (.c rfl (.c rfl (.c rfl (.c rfl .n)))))))), rfl, rfl⟩
          ·
            have q28579 := cond_f q28579 hc
            obtain rfl := Option.some.inj q28579
            exact ⟨(decide (x28511 > 0)), (.c rfl (.c rfl (.c rfl (.c rfl (.c rfl (.c rfl (.c rfl (.c rfl .n)))))))), rfl, rfl⟩
        ·
          rintro x28577 _ ⟨hy, rfl⟩
          replace hy := hy.symm
          subst hy
          apply go
          refine sel_of (fun hc => ?_) (fun hc => ?_)
          ·
            have q28575 := cond_t q28575 hc
            apply go
            apply go
            apply go
            apply go
            apply go
            obtain ⟨x28580, q28581, q28575⟩ := bind_some q28575
            refine ev_indexO rfl rfl rfl Tryz.underlying22 T46 o28510 q28581 ?_
            intro g28582 c28583 h28586 d28584 l28585
            refine ev (rn_load rfl rfl (run_loadVar1 T46 (hp.cellE (i := 1) rfl h28586 d28584 (j := 0) rfl))) ?_
            refine ev0 (rn_conv rfl rfl U46 Tryz.underlying75) ?_
            obtain ⟨y28603, q28604, q28575⟩ := bind_some q28575
            refine W.cut (γ := Int) (fun g => [(2, (.pointer (some (p26390)))), (3, (.pointer (some (p26395)))), (4, (.pointer (some ⟨g26398, 0, none⟩))), (5, v26402), (6, (.int .i64 x27892)), (8, (.int .i64 x28512)), (9, (.int .u64 (g)))]) (fun g w' => y28603 = (g) ∧ Hp ⟨w0, I0, []⟩ I26396 [some (g26398, [(.bool false), (.slice none 0 0)], 24), e28509] w' ∧ RepS (dI .u32) w' I26396 v26382 x26381.Mag ∧ At w' I26396 p26390 [(.bool x26381.Neg), v26382] ∧ RepS (dI .u32) w' I26396 v26385 x26384.Mag ∧ At w' I26396 p26395 [(.bool x26384.Neg), v26385] ∧ OwnS (dI .u32) 46 w' I26396 v26402 e28509 x28507) ?_ ?_
            ·
              apply go
              apply go
              refine ev0 (rn_field rfl rfl FO24_1) ?_
              refine ev (rn_load rfl rfl (run_loadVar1 T22 (a26397.2 1 _ rfl))) ?_
              refine ev0 (rn_len rfl rfl Tryz.underlying22 r26386) ?_
              apply go
              refine sel_of (fun hc => ?_) (fun hc => ?_)
              ·
                have q28604 := cond_t q28604 hc
                refine W.quiet (fun w' => Ch [] w28573 w') MX (by kernel_rfl) (Ch.drew [] w28573) ?_
                refine evq0 (rn_field rfl rfl FO24_1) ?_
                refine evq (fun w' hw => rn_load rfl rfl (run_loadVar1 T22 ((a26392.step (hp.stp hw)).2 1 _ rfl))) ?_
                obtain ⟨x28605, q28606, q28604⟩ := bind_some q28604
                refine evq_index rfl rfl rfl Tryz.underlying22 T46 r26383 q28606 ?_
                intro p28607 c28608 d28609 a28610
                obtain rfl : c28608 = [(.int .u32 x28605)] := d28609
                refine evq (fun w' hw => rn_load rfl rfl (run_loadVar1 T46 ((a28610.step (hp.stp hw)).2 0 _ rfl))) ?_
                refine evq0 (rn_conv rfl rfl U46 Tryz.underlying75) ?_
                refine evq0 (rn_field rfl rfl FO24_1) ?_
                refine evq (fun w' hw => rn_load rfl rfl (run_loadVar1 T22 ((a26397.step (hp.stp hw)).2 1 _ rfl))) ?_
                obtain ⟨x28611, q28612, q28604⟩ := bind_some q28604
                refine evq_index rfl rfl rfl Tryz.underlying22 T46 r26386 q28612 ?_
                intro p28613 c28614 d28615 a28616
                obtain rfl : c28614 = [(.int .u32 x28611)] := d28615
                refine evq (fun w' hw => rn_load rfl rfl (run_loadVar1 T46 ((a28616.step (hp.stp hw)).2 0 _ rfl))) ?_
                refine evq0 (rn_conv rfl rfl U46 Tryz.underlying75) ?_
                intro w28617 hc
                have hs := hp.stp hc
                replace hp := hp.ext hc
                replace a26392 := a26392.step hs
                replace r26383 := r26383.step hs
                replace a26397 := a26397.step hs
                replace r26386 := r26386.step hs
                replace o28510 := o28510.step hs
                obtain rfl := Option.some.inj q28604
                exact ⟨(IntKind.u64.wrap ((IntKind.u64.wrap ((IntKind.u64.wrap x28580) + x28511)) + (IntKind.u64.wrap ((IntKind.u64.wrap x28605) * (IntKind.u64.wrap x28611))))), (.c rfl (.c rfl (.c rfl (.c rfl (.c rfl (.c rfl (.c rfl .n))))))), rfl, hp, r26383, a26392, r26386, a26397, o28510⟩
              ·
                have q28604 := cond_f q28604 hc
                apply go
                obtain rfl := Option.some.inj q28604
                exact ⟨(IntKind.u64.wrap ((IntKind.u64.wrap x28580) + x28511)), (.c rfl (.c rfl (.c rfl (.c rfl (.c rfl (.c rfl (.c rfl .n))))))), rfl, hp, r26383, a26392, r26386, a26397, o28510⟩
            ·
              rintro x28601 w28602 ⟨hy, hp, r26383, a26392, r26386, a26397, o28510⟩
              replace hy := hy.symm
              subst hy
              apply go
              apply go
              refine ev0 (rn_conv rfl rfl U75 Tryz.underlying46) ?_
              obtain ⟨x28618, q28619, q28575⟩ := bind_some q28575
              refine ev_indexO rfl rfl rfl Tryz.underlying22 T46 o28510 q28619 ?_
              intro g28620 c28621 h28624 d28622 l28623
              refine ev_storeE hp (i := 1) rfl h28624 rfl rfl rfl T46 o28510 q28619 (x0 := (IntKind.u32.wrap x28601)) rfl ?_
              intro e28627 w28626 hp hs o28628
              replace a26392 := a26392.step hs
              replace r26383 := r26383.step hs
              replace a26397 := a26397.step hs
              replace r26386 := r26386.step hs
              apply go
              refine ⟨by decide, ?_⟩
              apply go
              exact ⟨_, (Option.some.inj q28575).symm, e28627, (.c rfl (.c rfl (.c rfl (.c rfl (.c rfl (.c rfl (.c rfl .n))))))), ⟨hp, r26383, a26392, r26386, a26397, o28628⟩⟩
          ·
            have q28575 := cond_f q28575 hc
            apply go
            have q28631 := congrArg some (q28576 _ (Option.some.inj q28575).symm)
            obtain rfl := Option.some.inj q28631
            exact ⟨(x28507, e28509), (.c rfl (.c rfl (.c rfl (.c rfl (.c rfl .n))))), rfl, hp, r26383, a26392, r26386, a26397, o28510⟩
      ·
        rintro ⟨x28446, e28448⟩ w28450 ⟨hy, hp, r26383, a26392, r26386, a26397, o28449⟩
        replace hy := hy.symm
        subst hy
        apply go
        exact ⟨_, (Option.some.inj q28265).symm, e28448, (.c rfl (.c rfl (.c rfl (.c rfl (.c rfl .n))))), ⟨hp, r26383, a26392, r26386, a26397, o28449⟩⟩
    ·
      have q28265 := cond_f q28265 hc
      apply go
      have q28632 := congrArg some (q28266 _ (Option.some.inj q28265).symm)
      obtain rfl := Option.some.inj q28632
      exact ⟨(x27888, e27890), (.c rfl (.c rfl (.c rfl (.c rfl .n)))), rfl, hp, r26383, a26392, r26386, a26397, o27891⟩
  ·
    rintro ⟨x27516, e27518⟩ w27520 ⟨hy, hp, r26383, a26392, r26386, a26397, o27519⟩
    replace hy := hy.symm
    subst hy
    apply go
    apply go
    refine ev0 (rn_field rfl rfl FO24_0) ?_
    refine ev (rn_load rfl rfl (run_loadVar1 T4 (a26392.2 0 _ rfl))) ?_
    refine ev0 (rn_field rfl rfl FO24_0) ?_
    refine ev (rn_load rfl rfl (run_loadVar1 T4 (a26397.2 0 _ rfl))) ?_
    refine ev0 (rn_neB rfl rfl rfl Tryz.underlying4) ?_
    obtain ⟨A28633, m28634, m28635, rfl⟩ := o27519.isSl
    refine ev0 (fun w => rn_build (cs := [(.bool (!(x26381.Neg == x26384.Neg))), (.slice A28633 m28634 m28635)]) rfl rfl T24 PL24 rfl) ?_
    have r28637 := o27519.frz hp (i := 1) rfl
    obtain ⟨hp, hs⟩ := freeze_hp hp (i := 1) rfl
    have hp := hp.sel [0] (by decide)
    obtain ⟨x28638, q28639, h⟩ := bind_some h
    refine ev_call rfl rfl C77 (((ref01_Norm_ok n) _ _  (Int_2.mk (!(x26381.Neg == x26384.Neg)) x27516) (.slice A28633 m28634 m28635) r28637 hp.imm _ q28639).mono ?_)
    rintro _ w28640 ⟨I28641, v28642, hv, hq, r28643⟩
    replace hv := hv.symm
    subst hv
    have hs := hq.st
    have hp := hp.join0 hq
    refine ev_storeA hp (i := 0) (off := 0) (vs := [(.bool x28638.Neg), v28642]) rfl rfl rfl rfl T24 rfl (Nat.le_of_ble_eq_true rfl) (ones_cons rfl (ones_cons r28643.one ones_nil)) ?_
    intro w28644 hp hs
    replace r28643 := r28643.step hs
    apply go
    obtain rfl := Option.some.inj h
    refine ⟨_, run_loadVarA T24 rfl (hp.at_ (i := 0) rfl), ?_⟩
    have hp := hp.sel [] (by decide)
    exact ⟨I28641, v28642, rfl, hp, r28643⟩

end Go.Proofs.YtepadjfmcbjkmaaGreatDoor

namespace Go.Proofs.YtepadjfmcbjkmaaGreatDoor
open Go Go.Proofs.YtepadjfmcbjkmaaGreatDoor.Gw Go.RowKit
set_option linter.unusedVariables false
attribute [local irreducible] Ev EvQ EvS EvH
def ref02_Div_S (f : Rational → Rational → Option (Rational × Int)) : Prop := ∀ (w0 : World) (I0 : Nat → Prop) (x28645 : Rational) (v28646 : Value) (r28647 : RepS (dI .u32) w0 I0 v28646 x28645.Num.Mag) (v28648 : Value) (r28649 : RepS (dI .u32) w0 I0 v28648 x28645.Den.Mag) (x28650 : Rational) (v28651 : Value) (r28652 : RepS (dI .u32) w0 I0 v28651 x28650.Num.Mag) (v28653 : Value) (r28654 : RepS (dI .u32) w0 I0 v28653 x28650.Den.Mag) (hI : ∀ g, I0 g → g < w0.heap.size) (r : (Rational × Int)), f x28645 x28650 = some r →
    Ret Tryz.prog 11 #[(.agg #[(.bool x28645.Num.Neg), v28646, (.bool x28645.Den.Neg), v28648]), (.agg #[(.bool x28650.Num.Neg), v28651, (.bool x28650.Den.Neg), v28653])] w0 fun v w1 => ∃ (I1 : Nat → Prop) (u28655 : Value) (u28656 : Value), v = (.tuple #[(.agg #[(.bool r.1.Num.Neg), u28655, (.bool r.1.Den.Neg), u28656]), (.int .i64 r.2)]) ∧ Hp ⟨w0, I0, []⟩ I1 [] w1 ∧ RepS (dI .u32) w1 I1 u28655 r.1.Num.Mag ∧ RepS (dI .u32) w1 I1 u28656 r.1.Den.Mag
theorem ref02_Div_ok (n : Nat) : ref02_Div_S (ref02_Div n) := by
  intro w0 I0 x28645 v28646 r28647 v28648 r28649 x28650 v28651 r28652 v28653 r28654 hI r h
  unfold ref02_Div at h
  refine enter Tryz.func11 rfl (Nat.le_of_ble_eq_true rfl) ?_
  have hp : Hp ⟨w0, I0, []⟩ I0 [] w0 := Hp.start hI
  apply go
  apply go
  refine ev_boxI hp rfl rfl ?_
  intro p28659 I28660 w28658 hp hs a28661
  replace r28652 := r28652.step hs
  replace r28654 := r28654.step hs
  replace r28647 := r28647.step hs
  replace r28649 := r28649.step hs
  refine ev_boxI hp rfl rfl ?_
  intro p28664 I28665 w28663 hp hs a28666
  replace a28661 := a28661.step hs
  replace r28647 := r28647.step hs
  replace r28649 := r28649.step hs
  replace r28652 := r28652.step hs
  replace r28654 := r28654.step hs
  refine ev_alloc hp rfl T26 ?_
  intro g28667 w28668 hp hs
  replace a28661 := a28661.step hs
  replace r28647 := r28647.step hs
  replace r28649 := r28649.step hs
  replace a28666 := a28666.step hs
  replace r28652 := r28652.step hs
  replace r28654 := r28654.step hs
  apply go
  apply go
  refine ev (rn_load rfl rfl (run_loadVarA T26 rfl a28661)) ?_
  obtain ⟨x28669, q28670, h⟩ := bind_some h
  refine ev_call rfl rfl C35 (((ref02_Norm_ok n) _ _  (Rational.mk (Int_2.mk x28645.Num.Neg x28645.Num.Mag) (Int_2.mk x28645.Den.Neg x28645.Den.Mag)) v28646 r28647 v28648 r28649 hp.imm _ q28670).mono ?_)
  rintro _ w28671 ⟨I28672, v28673, v28675, hv, hq, r28674, r28676⟩
  replace hv := hv.symm
  subst hv
  have hs := hq.st
  have hp := hp.join0 hq
  replace a28666 := a28666.step hs
  replace r28652 := r28652.step hs
  replace r28654 := r28654.step hs
  refine ev_alloc hp rfl T26 ?_
  intro g28677 w28678 hp hs
  replace a28666 := a28666.step hs
  replace r28652 := r28652.step hs
  replace r28654 := r28654.step hs
  replace r28674 := r28674.step hs
  replace r28676 := r28676.step hs
  refine ev_storeA hp (i := 0) (off := 0) (vs := [(.bool x28669.Num.Neg), v28673, (.bool x28669.Den.Neg), v28675]) rfl rfl rfl rfl T26 rfl (Nat.le_of_ble_eq_true rfl) (ones_cons rfl (ones_cons r28674.one (ones_cons rfl (ones_cons r28676.one ones_nil)))) ?_
  intro w28679 hp hs
  replace a28666 := a28666.step hs
  replace r28652 := r28652.step hs
  replace r28654 := r28654.step hs
  replace r28674 := r28674.step hs
  replace r28676 := r28676.step hs
  apply go
  apply go
  refine ev (rn_load rfl rfl (run_loadVarA T26 rfl a28666)) ?_
  obtain ⟨x28680, q28681, h⟩ := bind_some h
  refine ev_call rfl rfl C35 (((ref02_Norm_ok n) _ _  (Rational.mk (Int_2.mk x28650.Num.Neg x28650.Num.Mag) (Int_2.mk x28650.Den.Neg x28650.Den.Mag)) v28651 r28652 v28653 r28654 hp.imm _ q28681).mono ?_)
  rintro _ w28682 ⟨I28683, v28684, v28686, hv, hq, r28685, r28687⟩
  replace hv := hv.symm
  subst hv
  have hs := hq.st
  have hp := hp.join0 hq
  replace r28674 := r28674.step hs
  replace r28676 := r28676.step hs
  refine ev_alloc hp rfl T26 ?_
  intro g28688 w28689 hp hs
  replace r28685 := r28685.step hs
  replace r28687 := r28687.step hs
  replace r28674 := r28674.step hs
  replace r28676 := r28676.step hs
  refine ev_storeA hp (i := 0) (off := 0) (vs := [(.bool x28680.Num.Neg), v28684, (.bool x28680.Den.Neg), v28686]) rfl rfl rfl rfl T26 rfl (Nat.le_of_ble_eq_true rfl) (ones_cons rfl (ones_cons r28685.one (ones_cons rfl (ones_cons r28687.one ones_nil)))) ?_
  intro w28690 hp hs
  replace r28685 := r28685.step hs
  replace r28687 := r28687.step hs
  replace r28674 := r28674.step hs
  replace r28676 := r28676.step hs
  apply go
  apply go
  apply go
  refine ev (rn_load rfl rfl (run_loadVarA T26 rfl (hp.at_ (i := 0) rfl))) ?_
  obtain ⟨x28691, q28692, h⟩ := bind_some h
  refine ev_call rfl rfl C40 (((ref02_Sign_ok n) _ _  (Rational.mk (Int_2.mk x28680.Num.Neg x28680.Num.Mag) (Int_2.mk x28680.Den.Neg x28680.Den.Mag)) v28684 r28685 v28686 r28687 hp.imm _ q28692).mono ?_)
  rintro _ w28693 ⟨rfl, hc⟩
  have hs := hp.stp hc
  replace hp := hp.ext hc
  replace r28685 := r28685.step hs
  replace r28687 := r28687.step hs
  replace r28674 := r28674.step hs
  replace r28676 := r28676.step hs
  apply go
  refine sel_of (fun hc => ?_) (fun hc => ?_)
  ·
    have h := cond_t h hc
    apply go
    apply go
    refine ev0 (fun w => rn_build (cs := [(.bool false), (.slice none 0 0), (.bool false), (.slice none 0 0)]) rfl rfl T26 PL26 rfl) ?_
    refine ev_storeA hp (i := 2) (off := 0) (vs := [(.bool false), (.slice none 0 0), (.bool false), (.slice none 0 0)]) rfl rfl rfl rfl T26 rfl (Nat.le_of_ble_eq_true rfl) (ones_of rfl) ?_
    intro w28694 hp hs
    replace r28685 := r28685.step hs
    replace r28687 := r28687.step hs
    replace r28674 := r28674.step hs
    replace r28676 := r28676.step hs
    apply go
    obtain rfl := Option.some.inj h
    refine ⟨_, run_loadVarA T26 rfl (hp.at_ (i := 2) rfl), ?_⟩
    have hp := hp.sel [] (by decide)
    exact ⟨I28683, .slice none 0 0, .slice none 0 0, rfl, hp, RepS.nil _ _ _, RepS.nil _ _ _⟩
  ·
    have h := cond_f h hc
    apply go
    apply go
    have hs := hp.stp (Ch.drew [] w28693)
    have hp := hp.drew
    replace r28685 := r28685.step hs
    replace r28687 := r28687.step hs
    replace r28674 := r28674.step hs
    replace r28676 := r28676.step hs
    refine W.held [(0, true), (1, true), (2, true), (3, true), (5, true), (6, true), (7, true), (8, true), (4, false), (9, false), (10, false), (11, false), (12, true)] (fun x => Stp I28683 w28693.drew I28683 x ∧ OwnK [(g28677, [(.bool x28669.Num.Neg), v28673, (.bool x28669.Den.Neg), v28675], 26), (g28688, [(.bool x28680.Num.Neg), v28684, (.bool x28680.Den.Neg), v28686], 26)] x) MX (by kernel_rfl) ⟨Stp.refl _ _, (OwnK.cons (hp.own 1 _ _ _ rfl).1 (OwnK.cons (hp.own 0 _ _ _ rfl).1 OwnK.nil))⟩ ?_
    have hz := Stp.refl I28683 w28693.drew
    refine evh0 (rn_field rfl rfl FO26_0) ?_
    refine evh (fun w' hw => rn_load rfl rfl (run_loadVarA T24 rfl (((hw.2.at_ (i := 0) rfl).drop 0).take 2))) ?_
    refine evh0 (rn_field rfl rfl FO26_1) ?_
    refine evh (fun w' hw => rn_load rfl rfl (run_loadVarA T24 rfl (((hw.2.at_ (i := 1) rfl).drop 2).take 2))) ?_
    refine evh0 (rn_field rfl rfl FO26_1) ?_
    refine evh (fun w' hw => rn_load rfl rfl (run_loadVarA T24 rfl (((hw.2.at_ (i := 0) rfl).drop 2).take 2))) ?_
    refine evh0 (rn_field rfl rfl FO26_0) ?_
    refine evh (fun w' hw => rn_load rfl rfl (run_loadVarA T24 rfl (((hw.2.at_ (i := 1) rfl).drop 0).take 2))) ?_
    obtain ⟨x28716, q28717, h⟩ := bind_some h
    refine ev_call rfl rfl C42 (((ref01_Mul_ok n) _ _  (Int_2.mk x28669.Num.Neg x28669.Num.Mag) v28673 r28674 (Int_2.mk x28680.Den.Neg x28680.Den.Mag) v28686 r28687 hp.imm _ q28717).mono ?_)
    rintro _ w28718 ⟨I28719, v28720, hv, hq, r28721⟩
    replace hv := hv.symm
    subst hv
    have hs := hq.st
    have hp := hp.join0 hq
    replace hz := hz.trans hs
    replace r28676 := r28676.step hs
    replace r28685 := r28685.step hs
    replace r28687 := r28687.step hs
    replace r28674 := r28674.step hs
    refine ⟨fun x => Stp I28719 w28718 I28719 x ∧ OwnK [(g28677, [(.bool x28669.Num.Neg), v28673, (.bool x28669.Den.Neg), v28675], 26), (g28688, [(.bool x28680.Num.Neg), v28684, (.bool x28680.Den.Neg), v28686], 26)] x, ⟨Stp.refl _ _, (OwnK.cons (hp.own 1 _ _ _ rfl).1 (OwnK.cons (hp.own 0 _ _ _ rfl).1 OwnK.nil))⟩, fun x hx => ⟨hz.held hx.1, hx.2⟩, ?_⟩
    have hz := Stp.refl I28719 w28718
    obtain ⟨x28722, q28723, h⟩ := bind_some h
    refine ev_call rfl rfl C42 (((ref01_Mul_ok n) _ _  (Int_2.mk x28669.Den.Neg x28669.Den.Mag) v28675 r28676 (Int_2.mk x28680.Num.Neg x28680.Num.Mag) v28684 r28685 hp.imm _ q28723).mono ?_)
    rintro _ w28724 ⟨I28725, v28726, hv, hq, r28727⟩
    replace hv := hv.symm
    subst hv
    have hs := hq.st
    have hp := hp.join0 hq
    replace hz := hz.trans hs
    replace r28721 := r28721.step hs
    replace r28685 := r28685.step hs
    replace r28687 := r28687.step hs
    replace r28674 := r28674.step hs
    replace r28676 := r28676.step hs
    refine ⟨fun x => Stp I28725 w28724 I28725 x ∧ OwnK [(g28677, [(.bool x28669.Num.Neg), v28673, (.bool x28669.Den.Neg), v28675], 26), (g28688, [(.bool x28680.Num.Neg), v28684, (.bool x28680.Den.Neg), v28686], 26)] x, ⟨Stp.refl _ _, (OwnK.cons (hp.own 1 _ _ _ rfl).1 (OwnK.cons (hp.own 0 _ _ _ rfl).1 OwnK.nil))⟩, fun x hx => ⟨hz.held hx.1, hx.2⟩, ?_⟩
    have hz := Stp.refl I28725 w28724
    obtain ⟨x28728, q28729, h⟩ := bind_some h
    refine ev_call rfl rfl C41 (((ref02_New_ok n) _ _  x28716 v28720 r28721 x28722 v28726 r28727 hp.imm _ q28729).mono ?_)
    rintro _ w28730 ⟨I28731, v28732, v28734, hv, hq, r28733, r28735⟩
    replace hv := hv.symm
    subst hv
    have hs := hq.st
    have hp := hp.join0 hq
    replace hz := hz.trans hs
    replace r28685 := r28685.step hs
    replace r28687 := r28687.step hs
    replace r28674 := r28674.step hs
    replace r28676 := r28676.step hs
    refine ⟨fun x => Stp I28731 w28730 I28731 x ∧ OwnK [(g28677, [(.bool x28669.Num.Neg), v28673, (.bool x28669.Den.Neg), v28675], 26), (g28688, [(.bool x28680.Num.Neg), v28684, (.bool x28680.Den.Neg), v28686], 26)] x, ⟨Stp.refl _ _, (OwnK.cons (hp.own 1 _ _ _ rfl).1 (OwnK.cons (hp.own 0 _ _ _ rfl).1 OwnK.nil))⟩, fun x hx => ⟨hz.held hx.1, hx.2⟩, ?_⟩
    have hz := Stp.refl I28731 w28730
    refine ev_storeA hp (i := 2) (off := 0) (vs := [(.bool x28728.Num.Neg), v28732, (.bool x28728.Den.Neg), v28734]) rfl rfl rfl rfl T26 rfl (Nat.le_of_ble_eq_true rfl) (ones_cons rfl (ones_cons r28733.one (ones_cons rfl (ones_cons r28735.one ones_nil)))) ?_
    intro w28736 hp hs
    replace hz := hz.trans hs
    replace r28685 := r28685.step hs
    replace r28687 := r28687.step hs
    replace r28674 := r28674.step hs
    replace r28676 := r28676.step hs
    replace r28733 := r28733.step hs
    replace r28735 := r28735.step hs
    refine ⟨fun x => Stp I28731 w28736 I28731 x ∧ OwnK [(g28677, [(.bool x28669.Num.Neg), v28673, (.bool x28669.Den.Neg), v28675], 26), (g28688, [(.bool x28680.Num.Neg), v28684, (.bool x28680.Den.Neg), v28686], 26)] x, ⟨Stp.refl _ _, (OwnK.cons (hp.own 1 _ _ _ rfl).1 (OwnK.cons (hp.own 0 _ _ _ rfl).1 OwnK.nil))⟩, fun x hx => ⟨hz.held hx.1, hx.2⟩, ?_⟩
    have hz := Stp.refl I28731 w28736
    apply go
    obtain rfl := Option.some.inj h
    refine ⟨_, run_loadVarA T26 rfl (hp.at_ (i := 2) rfl), ?_⟩
    have hp := hp.sel [] (by decide)
    exact ⟨I28731, v28732, v28734, rfl, hp, r28733, r28735⟩

end Go.Proofs.YtepadjfmcbjkmaaGreatDoor

namespace Go.Proofs.YtepadjfmcbjkmaaGreatDoor
open Go Go.Proofs.YtepadjfmcbjkmaaGreatDoor.Gw Go.RowKit
set_option linter.unusedVariables false
attribute [local irreducible] Ev EvQ EvS EvH
def rational_Whole_S (f : Rational → Option (Int_2 × Bool)) : Prop := ∀ (w0 : World) (I0 : Nat → Prop) (x28737 : Rational) (v28738 : Value) (r28739 : RepS (dI .u32) w0 I0 v28738 x28737.Num.Mag) (v28740 : Value) (r28741 : RepS (dI .u32) w0 I0 v28740 x28737.Den.Mag) (hI : ∀ g, I0 g → g < w0.heap.size) (r : (Int_2 × Bool)), f x28737 = some r →
    Ret Tryz.prog 12 #[(.agg #[(.bool x28737.Num.Neg), v28738, (.bool x28737.Den.Neg), v28740])] w0 fun v w1 => ∃ (I1 : Nat → Prop) (u28742 : Value), v = (.tuple #[(.agg #[(.bool r.1.Neg), u28742]), (.bool r.2)]) ∧ Hp ⟨w0, I0, []⟩ I1 [] w1 ∧ RepS (dI .u32) w1 I1 u28742 r.1.Mag
theorem rational_Whole_ok (n : Nat) : rational_Whole_S (rational_Whole n) := by
  intro w0 I0 x28737 v28738 r28739 v28740 r28741 hI r h
  unfold rational_Whole at h
  refine enter Tryz.func12 rfl (Nat.le_of_ble_eq_true rfl) ?_
  have hp : Hp ⟨w0, I0, []⟩ I0 [] w0 := Hp.start hI
  apply go
  apply go
  refine ev_box hp rfl rfl ?_
  intro g28743 w28744 hp hs
  replace r28739 := r28739.step hs
  replace r28741 := r28741.step hs
  refine ev_alloc hp rfl T24 ?_
  intro g28745 w28746 hp hs
  replace r28739 := r28739.step hs
  replace r28741 := r28741.step hs
  apply go
  apply go
  refine ev (rn_load rfl rfl (run_loadVarA T26 rfl (hp.at_ (i := 1) rfl))) ?_
  obtain ⟨x28747, q28748, h⟩ := bind_some h
  refine ev_call rfl rfl C38 (((rational_Norm_ok n) _ _  (Rational.mk (Int_2.mk x28737.Num.Neg x28737.Num.Mag) (Int_2.mk x28737.Den.Neg x28737.Den.Mag)) v28738 r28739 v28740 r28741 hp.imm _ q28748).mono ?_)
  rintro _ w28749 ⟨I28750, v28751, v28753, hv, hq, r28752, r28754⟩
  replace hv := hv.symm
  subst hv
  have hs := hq.st
  have hp := hp.join0 hq
  replace r28739 := r28739.step hs
  replace r28741 := r28741.step hs
  refine ev_storeA hp (i := 1) (off := 0) (vs := [(.bool x28747.Num.Neg), v28751, (.bool x28747.Den.Neg), v28753]) rfl rfl rfl rfl T26 rfl (Nat.le_of_ble_eq_true rfl) (ones_cons rfl (ones_cons r28752.one (ones_cons rfl (ones_cons r28754.one ones_nil)))) ?_
  intro w28755 hp hs
  replace r28752 := r28752.step hs
  replace r28754 := r28754.step hs
  apply go
  apply go
  apply go
  refine ev0 (rn_field rfl rfl FO26_1) ?_
  refine ev (rn_load rfl rfl (run_loadVarA T24 rfl (((hp.at_ (i := 1) rfl).drop 2).take 2))) ?_
  obtain ⟨x28756, q28757, h⟩ := bind_some h
  refine ev_call rfl rfl C43 (((rational_one_ok n) _ _  (Int_2.mk x28747.Den.Neg x28747.Den.Mag) v28753 r28754 hp.imm _ q28757).mono ?_)
  rintro _ w28758 ⟨rfl, hc⟩
  have hs := hp.stp hc
  replace hp := hp.ext hc
  replace r28752 := r28752.step hs
  replace r28754 := r28754.step hs
  apply go
  refine sel_of (fun hc => ?_) (fun hc => ?_)
  ·
    have h := cond_t h hc
    apply go
    apply go
    refine ev0 (fun w => rn_build (cs := [(.bool false), (.slice none 0 0)]) rfl rfl T24 PL24 rfl) ?_
    refine ev_storeA hp (i := 0) (off := 0) (vs := [(.bool false), (.slice none 0 0)]) rfl rfl rfl rfl T24 rfl (Nat.le_of_ble_eq_true rfl) (ones_of rfl) ?_
    intro w28759 hp hs
    replace r28752 := r28752.step hs
    replace r28754 := r28754.step hs
    apply go
    obtain rfl := Option.some.inj h
    refine ⟨_, run_loadVarA T24 rfl (hp.at_ (i := 0) rfl), ?_⟩
    have hp := hp.sel [] (by decide)
    exact ⟨I28750, .slice none 0 0, rfl, hp, RepS.nil _ _ _⟩
  ·
    have h := cond_f h hc
    apply go
    apply go
    apply go
    refine ev0 (rn_field rfl rfl FO26_0) ?_
    refine ev (rn_load rfl rfl (run_loadVarA T24 rfl (((hp.at_ (i := 1) rfl).drop 0).take 2))) ?_
    refine ev_storeA hp (i := 0) (off := 0) (vs := [(.bool x28747.Num.Neg), v28751]) rfl rfl rfl rfl T24 rfl (Nat.le_of_ble_eq_true rfl) (ones_cons rfl (ones_cons r28752.one ones_nil)) ?_
    intro w28760 hp hs
    replace r28752 := r28752.step hs
    replace r28754 := r28754.step hs
    apply go
    obtain rfl := Option.some.inj h
    refine ⟨_, run_loadVarA T24 rfl (hp.at_ (i := 0) rfl), ?_⟩
    have hp := hp.sel [] (by decide)
    exact ⟨I28750, v28751, rfl, hp, r28752⟩

end Go.Proofs.YtepadjfmcbjkmaaGreatDoor

namespace Go.Proofs.YtepadjfmcbjkmaaGreatDoor
open Go Go.Proofs.YtepadjfmcbjkmaaGreatDoor.Gw Go.RowKit
set_option linter.unusedVariables false
attribute [local irreducible] Ev EvQ EvS EvH
def ref01_Cmp_S (f : Int_2 → Int_2 → Option Int) : Prop := ∀ (w0 : World) (I0 : Nat → Prop) (x28761 : Int_2) (v28762 : Value) (r28763 : RepS (dI .u32) w0 I0 v28762 x28761.Mag) (x28764 : Int_2) (v28765 : Value) (r28766 : RepS (dI .u32) w0 I0 v28765 x28764.Mag) (hI : ∀ g, I0 g → g < w0.heap.size) (r : Int), f x28761 x28764 = some r →
    Ret Tryz.prog 44 #[(.agg #[(.bool x28761.Neg), v28762]), (.agg #[(.bool x28764.Neg), v28765])] w0 fun v w1 => v = (.int .i64 r) ∧ Ch [] w0 w1
theorem ref01_Cmp_ok (n : Nat) : ref01_Cmp_S (ref01_Cmp n) := by
  intro w0 I0 x28761 v28762 r28763 x28764 v28765 r28766 hI r h
  unfold ref01_Cmp at h
  refine enter Tryz.func44 rfl (Nat.le_of_ble_eq_true rfl) ?_
  have hp : Hp ⟨w0, I0, []⟩ I0 [] w0 := Hp.start hI
  apply go
  apply go
  refine ev_box hp rfl rfl ?_
  intro g28767 w28768 hp hs
  replace r28766 := r28766.step hs
  replace r28763 := r28763.step hs
  refine ev_box hp rfl rfl ?_
  intro g28769 w28770 hp hs
  replace r28766 := r28766.step hs
  replace r28763 := r28763.step hs
  apply go
  apply go
  refine ev (rn_load rfl rfl (run_loadVarA T24 rfl (hp.at_ (i := 1) rfl))) ?_
  obtain ⟨x28771, q28772, h⟩ := bind_some h
  refine ev_call rfl rfl C77 (((ref01_Norm_ok n) _ _  (Int_2.mk x28761.Neg x28761.Mag) v28762 r28763 hp.imm _ q28772).mono ?_)
  rintro _ w28773 ⟨I28774, v28775, hv, hq, r28776⟩
  replace hv := hv.symm
  subst hv
  have hs := hq.st
  have hp := hp.join0 hq
  replace r28766 := r28766.step hs
  replace r28763 := r28763.step hs
  refine ev_storeA hp (i := 1) (off := 0) (vs := [(.bool x28771.Neg), v28775]) rfl rfl rfl rfl T24 rfl (Nat.le_of_ble_eq_true rfl) (ones_cons rfl (ones_cons r28776.one ones_nil)) ?_
  intro w28777 hp hs
  replace r28766 := r28766.step hs
  replace r28776 := r28776.step hs
  apply go
  apply go
  refine ev (rn_load rfl rfl (run_loadVarA T24 rfl (hp.at_ (i := 0) rfl))) ?_
  obtain ⟨x28778, q28779, h⟩ := bind_some h
  refine ev_call rfl rfl C77 (((ref01_Norm_ok n) _ _  (Int_2.mk x28764.Neg x28764.Mag) v28765 r28766 hp.imm _ q28779).mono ?_)
  rintro _ w28780 ⟨I28781, v28782, hv, hq, r28783⟩
  replace hv := hv.symm
  subst hv
  have hs := hq.st
  have hp := hp.join0 hq
  replace r28766 := r28766.step hs
  replace r28776 := r28776.step hs
  refine ev_storeA hp (i := 0) (off := 0) (vs := [(.bool x28778.Neg), v28782]) rfl rfl rfl rfl T24 rfl (Nat.le_of_ble_eq_true rfl) (ones_cons rfl (ones_cons r28783.one ones_nil)) ?_
  intro w28784 hp hs
  replace r28783 := r28783.step hs
  replace r28776 := r28776.step hs
  apply go
  apply go
  apply go
  refine ev0 (rn_field rfl rfl FO24_0) ?_
  refine ev (rn_load rfl rfl (run_loadVar1 T4 (hp.cell (i := 1) (off := 0) rfl rfl))) ?_
  refine ev0 (rn_field rfl rfl FO24_0) ?_
  refine ev (rn_load rfl rfl (run_loadVar1 T4 (hp.cell (i := 0) (off := 0) rfl rfl))) ?_
  refine ev0 (rn_neB rfl rfl rfl Tryz.underlying4) ?_
  apply go
  refine sel_of (fun hc => ?_) (fun hc => ?_)
  ·
    have h := cond_t h hc
    apply go
    apply go
    apply go
    refine ev0 (rn_field rfl rfl FO24_0) ?_
    refine ev (rn_load rfl rfl (run_loadVar1 T4 (hp.cell (i := 1) (off := 0) rfl rfl))) ?_
    apply go
    refine sel_of (fun hc => ?_) (fun hc => ?_)
    ·
      have h := cond_t h hc
      apply go
      apply go
      apply go
      obtain rfl := Option.some.inj h
      exact ⟨rfl, hp.ch⟩
    ·
      have h := cond_f h hc
      apply go
      apply go
      apply go
      apply go
      obtain rfl := Option.some.inj h
      exact ⟨rfl, hp.ch⟩
  ·
    have h := cond_f h hc
    apply go
    apply go
    apply go
    apply go
    refine ev0 (rn_field rfl rfl FO24_0) ?_
    refine ev (rn_load rfl rfl (run_loadVar1 T4 (hp.cell (i := 1) (off := 0) rfl rfl))) ?_
    apply go
    refine sel_of (fun hc => ?_) (fun hc => ?_)
    ·
      have h := cond_t h hc
      apply go
      apply go
      refine ev0 (rn_field rfl rfl FO24_1) ?_
      refine ev (rn_load rfl rfl (run_loadVar1 T22 (hp.cell (i := 0) (off := 1) rfl rfl))) ?_
      refine ev0 (rn_field rfl rfl FO24_1) ?_
      refine ev (rn_load rfl rfl (run_loadVar1 T22 (hp.cell (i := 1) (off := 1) rfl rfl))) ?_
      obtain ⟨x28785, q28786, h⟩ := bind_some h
      refine ev_call rfl rfl C78 (((ref01_cmp_ok n) _ _  x28778.Mag v28782 r28783 x28771.Mag v28775 r28776 hp.imm _ q28786).mono ?_)
      rintro _ w28787 ⟨rfl, hc⟩
      have hs := hp.stp hc
      replace hp := hp.ext hc
      replace r28783 := r28783.step hs
      replace r28776 := r28776.step hs
      apply go
      obtain rfl := Option.some.inj h
      exact ⟨rfl, hp.ch⟩
    ·
      have h := cond_f h hc
      apply go
      apply go
      apply go
      refine ev0 (rn_field rfl rfl FO24_1) ?_
      refine ev (rn_load rfl rfl (run_loadVar1 T22 (hp.cell (i := 1) (off := 1) rfl rfl))) ?_
      refine ev0 (rn_field rfl rfl FO24_1) ?_
      refine ev (rn_load rfl rfl (run_loadVar1 T22 (hp.cell (i := 0) (off := 1) rfl rfl))) ?_
      obtain ⟨x28788, q28789, h⟩ := bind_some h
      refine ev_call rfl rfl C78 (((ref01_cmp_ok n) _ _  x28771.Mag v28775 r28776 x28778.Mag v28782 r28783 hp.imm _ q28789).mono ?_)
      rintro _ w28790 ⟨rfl, hc⟩
      have hs := hp.stp hc
      replace hp := hp.ext hc
      replace r28783 := r28783.step hs
      replace r28776 := r28776.step hs
      apply go
      obtain rfl := Option.some.inj h
      exact ⟨rfl, hp.ch⟩

end Go.Proofs.YtepadjfmcbjkmaaGreatDoor

namespace Go.Proofs.YtepadjfmcbjkmaaGreatDoor
open Go Go.Proofs.YtepadjfmcbjkmaaGreatDoor.Gw Go.RowKit
set_option linter.unusedVariables false
attribute [local irreducible] Ev EvQ EvS EvH
def ref02_Whole_S (f : Rational → Option (Int_2 × Bool)) : Prop := ∀ (w0 : World) (I0 : Nat → Prop) (x28791 : Rational) (v28792 : Value) (r28793 : RepS (dI .u32) w0 I0 v28792 x28791.Num.Mag) (v28794 : Value) (r28795 : RepS (dI .u32) w0 I0 v28794 x28791.Den.Mag) (hI : ∀ g, I0 g → g < w0.heap.size) (r : (Int_2 × Bool)), f x28791 = some r →
    Ret Tryz.prog 13 #[(.agg #[(.bool x28791.Num.Neg), v28792, (.bool x28791.Den.Neg), v28794])] w0 fun v w1 => ∃ (I1 : Nat → Prop) (u28796 : Value), v = (.tuple #[(.agg #[(.bool r.1.Neg), u28796]), (.bool r.2)]) ∧ Hp ⟨w0, I0, []⟩ I1 [] w1 ∧ RepS (dI .u32) w1 I1 u28796 r.1.Mag
theorem ref02_Whole_ok (n : Nat) : ref02_Whole_S (ref02_Whole n) := by
  intro w0 I0 x28791 v28792 r28793 v28794 r28795 hI r h
  unfold ref02_Whole at h
  refine enter Tryz.func13 rfl (Nat.le_of_ble_eq_true rfl) ?_
  have hp : Hp ⟨w0, I0, []⟩ I0 [] w0 := Hp.start hI
  apply go
  apply go
  refine ev_boxI hp rfl rfl ?_
  intro p28799 I28800 w28798 hp hs a28801
  replace r28793 := r28793.step hs
  replace r28795 := r28795.step hs
  refine ev_alloc hp rfl T24 ?_
  intro g28802 w28803 hp hs
  replace a28801 := a28801.step hs
  replace r28793 := r28793.step hs
  replace r28795 := r28795.step hs
  apply go
  apply go
  refine ev (rn_load rfl rfl (run_loadVarA T26 rfl a28801)) ?_
  obtain ⟨x28804, q28805, h⟩ := bind_some h
  refine ev_call rfl rfl C35 (((ref02_Norm_ok n) _ _  (Rational.mk (Int_2.mk x28791.Num.Neg x28791.Num.Mag) (Int_2.mk x28791.Den.Neg x28791.Den.Mag)) v28792 r28793 v28794 r28795 hp.imm _ q28805).mono ?_)
  rintro _ w28806 ⟨I28807, v28808, v28810, hv, hq, r28809, r28811⟩
  replace hv := hv.symm
  subst hv
  have hs := hq.st
  have hp := hp.join0 hq
  refine ev_alloc hp rfl T26 ?_
  intro g28812 w28813 hp hs
  replace r28809 := r28809.step hs
  replace r28811 := r28811.step hs
  refine ev_storeA hp (i := 0) (off := 0) (vs := [(.bool x28804.Num.Neg), v28808, (.bool x28804.Den.Neg), v28810]) rfl rfl rfl rfl T26 rfl (Nat.le_of_ble_eq_true rfl) (ones_cons rfl (ones_cons r28809.one (ones_cons rfl (ones_cons r28811.one ones_nil)))) ?_
  intro w28814 hp hs
  replace r28809 := r28809.step hs
  replace r28811 := r28811.step hs
  apply go
  apply go
  have hs := hp.stp (Ch.drew [] w28814)
  have hp := hp.drew
  replace r28809 := r28809.step hs
  replace r28811 := r28811.step hs
  refine W.held [(0, true), (1, true), (2, false), (3, false), (4, true)] (fun x => Stp I28807 w28814.drew I28807 x ∧ OwnK [(g28812, [(.bool x28804.Num.Neg), v28808, (.bool x28804.Den.Neg), v28810], 26)] x) MX (by kernel_rfl) ⟨Stp.refl _ _, (OwnK.cons (hp.own 0 _ _ _ rfl).1 OwnK.nil)⟩ ?_
  have hz := Stp.refl I28807 w28814.drew
  refine evh0 (rn_field rfl rfl FO26_1) ?_
  refine evh (fun w' hw => rn_load rfl rfl (run_loadVarA T24 rfl (((hw.2.at_ (i := 0) rfl).drop 2).take 2))) ?_
  obtain ⟨x28824, q28825, h⟩ := bind_some h
  refine ev_call rfl rfl C45 (((ref02_One_ok n) _ _   hp.imm _ q28825).mono ?_)
  rintro _ w28826 ⟨I28827, v28828, hv, hq, r28829⟩
  replace hv := hv.symm
  subst hv
  have hs := hq.st
  have hp := hp.join0 hq
  replace hz := hz.trans hs
  replace r28811 := r28811.step hs
  replace r28809 := r28809.step hs
  refine ⟨fun x => Stp I28827 w28826 I28827 x ∧ OwnK [(g28812, [(.bool x28804.Num.Neg), v28808, (.bool x28804.Den.Neg), v28810], 26)] x, ⟨Stp.refl _ _, (OwnK.cons (hp.own 0 _ _ _ rfl).1 OwnK.nil)⟩, fun x hx => ⟨hz.held hx.1, hx.2⟩, ?_⟩
  have hz := Stp.refl I28827 w28826
  obtain ⟨x28830, q28831, h⟩ := bind_some h
  refine ev_call rfl rfl C44 (((ref01_Cmp_ok n) _ _  (Int_2.mk x28804.Den.Neg x28804.Den.Mag) v28810 r28811 x28824 v28828 r28829 hp.imm _ q28831).mono ?_)
  rintro _ w28832 ⟨rfl, hc⟩
  have hs := hp.stp hc
  replace hp := hp.ext hc
  replace hz := hz.trans hs
  replace r28809 := r28809.step hs
  replace r28811 := r28811.step hs
  refine ⟨fun x => Stp I28827 w28832 I28827 x ∧ OwnK [(g28812, [(.bool x28804.Num.Neg), v28808, (.bool x28804.Den.Neg), v28810], 26)] x, ⟨Stp.refl _ _, (OwnK.cons (hp.own 0 _ _ _ rfl).1 OwnK.nil)⟩, fun x hx => ⟨hz.held hx.1, hx.2⟩, ?_⟩
  have hz := Stp.refl I28827 w28832
  apply go
  refine sel_of (fun hc => ?_) (fun hc => ?_)
  ·
    have h := cond_t h hc
    apply go
    apply go
    refine ev0 (fun w => rn_build (cs := [(.bool false), (.slice none 0 0)]) rfl rfl T24 PL24 rfl) ?_
    refine ev_storeA hp (i := 1) (off := 0) (vs := [(.bool false), (.slice none 0 0)]) rfl rfl rfl rfl T24 rfl (Nat.le_of_ble_eq_true rfl) (ones_of rfl) ?_
    intro w28833 hp hs
    replace r28809 := r28809.step hs
    replace r28811 := r28811.step hs
    apply go
    obtain rfl := Option.some.inj h
    refine ⟨_, run_loadVarA T24 rfl (hp.at_ (i := 1) rfl), ?_⟩
    have hp := hp.sel [] (by decide)
    exact ⟨I28827, .slice none 0 0, rfl, hp, RepS.nil _ _ _⟩
  ·
    have h := cond_f h hc
    apply go
    apply go
    apply go
    refine ev0 (rn_field rfl rfl FO26_0) ?_
    refine ev (rn_load rfl rfl (run_loadVarA T24 rfl (((hp.at_ (i := 0) rfl).drop 0).take 2))) ?_
    refine ev_storeA hp (i := 1) (off := 0) (vs := [(.bool x28804.Num.Neg), v28808]) rfl rfl rfl rfl T24 rfl (Nat.le_of_ble_eq_true rfl) (ones_cons rfl (ones_cons r28809.one ones_nil)) ?_
    intro w28834 hp hs
    replace r28809 := r28809.step hs
    replace r28811 := r28811.step hs
    apply go
    obtain rfl := Option.some.inj h
    refine ⟨_, run_loadVarA T24 rfl (hp.at_ (i := 1) rfl), ?_⟩
    have hp := hp.sel [] (by decide)
    exact ⟨I28827, v28808, rfl, hp, r28809⟩

end Go.Proofs.YtepadjfmcbjkmaaGreatDoor
