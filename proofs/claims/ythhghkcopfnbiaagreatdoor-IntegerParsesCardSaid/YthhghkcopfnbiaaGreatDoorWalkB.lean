/-
  Each function of the program computes the plain function of its name.
-/
import Derived.Test.YthhghkcopfnbiaaGreatDoorFactsA
import Derived.Test.YthhghkcopfnbiaaGreatDoorWalkA
import Derived.Lib.AtoiErrMem
import Derived.Test.YthhghkcopfnbiaaGreatDoorCoreA
namespace Go.Proofs.YthhghkcopfnbiaaGreatDoor
open Go Go.Proofs.YthhghkcopfnbiaaGreatDoor.Gw Go.RowKit
set_option linter.unusedVariables false
attribute [local irreducible] Ev EvQ EvS EvH
def strings_trimLeftASCII_S (f : ByteArray → (List Bool) → Option (ByteArray × (List Bool))) : Prop := ∀ (w0 : World) (I0 : Nat → Prop) (x16654 : ByteArray) (x16655 : (List Bool)) (g16656 : Nat) (c16657 : List Value) (r16658 : (dA 256 dB).rep w0 I0 c16657 x16655) (hp : Hp ⟨w0, I0, [g16656]⟩ I0 [some (g16656, c16657, 88)] w0) (r : (ByteArray × (List Bool))), f x16654 x16655 = some r →
    Ret Tryz.prog 85 #[(.string x16654), (.pointer (some ⟨g16656, 0, none⟩))] w0 fun v w1 => ∃ (I1 : Nat → Prop) (u16659 : List Value), v = (.string r.1) ∧ Hp ⟨w0, I0, [g16656]⟩ I1 [some (g16656, u16659, 88)] w1 ∧ (dA 256 dB).rep w1 I1 u16659 r.2
theorem strings_trimLeftASCII_ok (n : Nat) : strings_trimLeftASCII_S (strings_trimLeftASCII n) := by
  intro w0 I0 x16654 x16655 g16656 c16657 r16658 hp r h
  unfold strings_trimLeftASCII at h
  refine enter Tryz.func85 rfl (Nat.le_of_ble_eq_true rfl) ?_
  apply go
  apply go
  obtain ⟨y16715, q16716, h⟩ := bind_some h
  refine W.cut (γ := (ByteArray × (List Bool) × (List Value) × (Nat → Prop))) (fun g => [(0, (.string (g.1)))]) (fun g w' => y16715 = ((g.1), (g.2.1)) ∧ Hp ⟨w0, I0, [g16656]⟩ (g.2.2.2) [some (g16656, (g.2.2.1), 88)] w' ∧ (dA 256 dB).rep w' (g.2.2.2) (g.2.2.1) (g.2.1)) ?_ ?_
  ·
    apply go
    refine W.loop q16716 (γ := ((List Value) × (Nat → Prop))) (fun s g => [(0, (.string (s.1))), (1, (.pointer (some ⟨g16656, 0, none⟩)))]) (fun s g w' => Hp ⟨w0, I0, [g16656]⟩ (g.2) [some (g16656, (g.1), 88)] w' ∧ (dA 256 dB).rep w' (g.2) (g.1) (s.2)) (c16657, I0) (.c rfl (.c rfl .n)) ⟨hp, r16658⟩ ?_
    rintro ⟨x16728, x16729⟩ ⟨c16730, I16732⟩ w16749 y16750 ⟨hp, r16731⟩ q16751 q16752
    unfold strings_trimLeftASCII_L1 at q16751
    apply go
    apply go
    apply go
    refine ev0 (rn_lenS rfl rfl Tryz.underlying9) ?_
    apply go
    refine sel_of (fun hc => ?_) (fun hc => ?_)
    ·
      have q16751 := cond_t q16751 hc
      apply go
      apply go
      apply go
      apply go
      apply go
      obtain ⟨x16753, q16754, q16751⟩ := bind_some q16751
      refine ev0 (rn_indexS rfl rfl rfl Tryz.underlying9 q16754) ?_
      obtain ⟨⟨x16755, x16756⟩, q16757, q16751⟩ := bind_some q16751
      refine ev_call rfl rfl C100 (((strings_asciiSet_contains_ok n) _ _  x16729 g16656 c16730 r16731 x16753 (hp.lend (i := 0) rfl) _ q16757).mono ?_)
      rintro _ w16758 ⟨I16759, c16760, hv, hq, r16761⟩
      replace hv := hv.symm
      subst hv
      have hs := hq.st
      have hp := hp.back (i := 0) rfl hq
      apply go
      refine sel_of (fun hc => ?_) (fun hc => ?_)
      ·
        have q16751 := cond_t q16751 hc
        apply go
        have q16762 := congrArg some (q16752 _ (Option.some.inj q16751).symm)
        obtain rfl := Option.some.inj q16762
        exact ⟨(x16728, x16756, c16760, I16759), (.c rfl .n), rfl, hp, r16761⟩
      ·
        have q16751 := cond_f q16751 hc
        apply go
        apply go
        obtain ⟨x16763, q16764, q16751⟩ := bind_some q16751
        refine ev0 (rn_sliceStr (kl := .i64) (kh := .i64) rfl rfl rfl rfl Tryz.underlying9 q16764) ?_
        exact ⟨_, (Option.some.inj q16751).symm, (c16760, I16759), (.c rfl (.c rfl .n)), ⟨hp, r16761⟩⟩
    ·
      have q16751 := cond_f q16751 hc
      apply go
      have q16765 := congrArg some (q16752 _ (Option.some.inj q16751).symm)
      obtain rfl := Option.some.inj q16765
      exact ⟨(x16728, x16729, c16730, I16732), (.c rfl .n), rfl, hp, r16731⟩
  ·
    rintro ⟨x16709, x16710, c16711, I16713⟩ w16714 ⟨hy, hp, r16712⟩
    replace hy := hy.symm
    subst hy
    apply go
    apply go
    apply go
    obtain rfl := Option.some.inj h
    exact ⟨I16713, c16711, rfl, hp, r16712⟩

end Go.Proofs.YthhghkcopfnbiaaGreatDoor

namespace Go.Proofs.YthhghkcopfnbiaaGreatDoor
open Go Go.Proofs.YthhghkcopfnbiaaGreatDoor.Gw Go.RowKit
set_option linter.unusedVariables false
attribute [local irreducible] Ev EvQ EvS EvH
def strings_trimRightASCII_S (f : ByteArray → (List Bool) → Option (ByteArray × (List Bool))) : Prop := ∀ (w0 : World) (I0 : Nat → Prop) (x16542 : ByteArray) (x16543 : (List Bool)) (g16544 : Nat) (c16545 : List Value) (r16546 : (dA 256 dB).rep w0 I0 c16545 x16543) (hp : Hp ⟨w0, I0, [g16544]⟩ I0 [some (g16544, c16545, 88)] w0) (r : (ByteArray × (List Bool))), f x16542 x16543 = some r →
    Ret Tryz.prog 86 #[(.string x16542), (.pointer (some ⟨g16544, 0, none⟩))] w0 fun v w1 => ∃ (I1 : Nat → Prop) (u16547 : List Value), v = (.string r.1) ∧ Hp ⟨w0, I0, [g16544]⟩ I1 [some (g16544, u16547, 88)] w1 ∧ (dA 256 dB).rep w1 I1 u16547 r.2
theorem strings_trimRightASCII_ok (n : Nat) : strings_trimRightASCII_S (strings_trimRightASCII n) := by
  intro w0 I0 x16542 x16543 g16544 c16545 r16546 hp r h
  unfold strings_trimRightASCII at h
  refine enter Tryz.func86 rfl (Nat.le_of_ble_eq_true rfl) ?_
  apply go
  apply go
  obtain ⟨y16603, q16604, h⟩ := bind_some h
  refine W.cut (γ := (ByteArray × (List Bool) × (List Value) × (Nat → Prop))) (fun g => [(0, (.string (g.1)))]) (fun g w' => y16603 = ((g.1), (g.2.1)) ∧ Hp ⟨w0, I0, [g16544]⟩ (g.2.2.2) [some (g16544, (g.2.2.1), 88)] w' ∧ (dA 256 dB).rep w' (g.2.2.2) (g.2.2.1) (g.2.1)) ?_ ?_
  ·
    apply go
    refine W.loop q16604 (γ := ((List Value) × (Nat → Prop))) (fun s g => [(0, (.string (s.1))), (1, (.pointer (some ⟨g16544, 0, none⟩)))]) (fun s g w' => Hp ⟨w0, I0, [g16544]⟩ (g.2) [some (g16544, (g.1), 88)] w' ∧ (dA 256 dB).rep w' (g.2) (g.1) (s.2)) (c16545, I0) (.c rfl (.c rfl .n)) ⟨hp, r16546⟩ ?_
    rintro ⟨x16616, x16617⟩ ⟨c16618, I16620⟩ w16637 y16638 ⟨hp, r16619⟩ q16639 q16640
    unfold strings_trimRightASCII_L1 at q16639
    apply go
    apply go
    apply go
    refine ev0 (rn_lenS rfl rfl Tryz.underlying9) ?_
    apply go
    refine sel_of (fun hc => ?_) (fun hc => ?_)
    ·
      have q16639 := cond_t q16639 hc
      apply go
      apply go
      apply go
      apply go
      apply go
      refine ev0 (rn_lenS rfl rfl Tryz.underlying9) ?_
      obtain ⟨x16641, q16642, q16639⟩ := bind_some q16639
      refine ev0 (rn_indexS rfl rfl rfl Tryz.underlying9 q16642) ?_
      obtain ⟨⟨x16643, x16644⟩, q16645, q16639⟩ := bind_some q16639
      refine ev_call rfl rfl C100 (((strings_asciiSet_contains_ok n) _ _  x16617 g16544 c16618 r16619 x16641 (hp.lend (i := 0) rfl) _ q16645).mono ?_)
      rintro _ w16646 ⟨I16647, c16648, hv, hq, r16649⟩
      replace hv := hv.symm
      subst hv
      have hs := hq.st
      have hp := hp.back (i := 0) rfl hq
      apply go
      refine sel_of (fun hc => ?_) (fun hc => ?_)
      ·
        have q16639 := cond_t q16639 hc
        apply go
        have q16650 := congrArg some (q16640 _ (Option.some.inj q16639).symm)
        obtain rfl := Option.some.inj q16650
        exact ⟨(x16616, x16644, c16648, I16647), (.c rfl .n), rfl, hp, r16649⟩
      ·
        have q16639 := cond_f q16639 hc
        apply go
        apply go
        refine ev0 (rn_lenS rfl rfl Tryz.underlying9) ?_
        obtain ⟨x16651, q16652, q16639⟩ := bind_some q16639
        refine ev0 (rn_sliceStr (kl := .i64) (kh := .i64) rfl rfl rfl rfl Tryz.underlying9 q16652) ?_
        exact ⟨_, (Option.some.inj q16639).symm, (c16648, I16647), (.c rfl (.c rfl .n)), ⟨hp, r16649⟩⟩
    ·
      have q16639 := cond_f q16639 hc
      apply go
      have q16653 := congrArg some (q16640 _ (Option.some.inj q16639).symm)
      obtain rfl := Option.some.inj q16653
      exact ⟨(x16616, x16617, c16618, I16620), (.c rfl .n), rfl, hp, r16619⟩
  ·
    rintro ⟨x16597, x16598, c16599, I16601⟩ w16602 ⟨hy, hp, r16600⟩
    replace hy := hy.symm
    subst hy
    apply go
    apply go
    apply go
    obtain rfl := Option.some.inj h
    exact ⟨I16601, c16599, rfl, hp, r16600⟩

end Go.Proofs.YthhghkcopfnbiaaGreatDoor

namespace Go.Proofs.YthhghkcopfnbiaaGreatDoor
open Go Go.Proofs.YthhghkcopfnbiaaGreatDoor.Gw Go.RowKit
set_option linter.unusedVariables false
attribute [local irreducible] Ev EvQ EvS EvH
def strings_Trim_S (f : ByteArray → ByteArray → Option ByteArray) : Prop := ∀ (w0 : World) (I0 : Nat → Prop) (x16766 : ByteArray) (x16767 : ByteArray) (hI : ∀ g, I0 g → g < w0.heap.size) (r : ByteArray), f x16766 x16767 = some r →
    Ret Tryz.prog 63 #[(.string x16766), (.string x16767)] w0 fun v w1 => v = (.string r) ∧ Ch [] w0 w1
theorem strings_Trim_ok (n : Nat) : strings_Trim_S (strings_Trim n) := by
  intro w0 I0 x16766 x16767 hI r h
  unfold strings_Trim at h
  refine enter Tryz.func63 rfl (Nat.le_of_ble_eq_true rfl) ?_
  have hp : Hp ⟨w0, I0, []⟩ I0 [] w0 := Hp.start hI
  apply go
  apply go
  apply go
  obtain ⟨y16769, q16770, h⟩ := bind_some h
  refine W.cut (γ := Bool) (fun g => [(0, (.string x16766)), (1, (.string x16767)), (12, (.bool (g)))]) (fun g w' => y16769 = (g) ∧ w0 = w') ?_ ?_
  ·
    apply go
    refine sel_of (fun hc => ?_) (fun hc => ?_)
    ·
      have q16770 := cond_t q16770 hc
      obtain rfl := Option.some.inj q16770
      exact ⟨true, (.c rfl (.c rfl (.c rfl .n))), rfl, rfl⟩
    ·
      have q16770 := cond_f q16770 hc
      obtain rfl := Option.some.inj q16770
      exact ⟨(x16767.toList == (ByteArray.mk #[]).toList), (.c rfl (.c rfl (.c rfl .n))), rfl, rfl⟩
  ·
    rintro x16768 _ ⟨hy, rfl⟩
    replace hy := hy.symm
    subst hy
    apply go
    refine sel_of (fun hc => ?_) (fun hc => ?_)
    ·
      have h := cond_t h hc
      apply go
      apply go
      apply go
      obtain rfl := Option.some.inj h
      exact ⟨rfl, hp.ch⟩
    ·
      have h := cond_f h hc
      apply go
      apply go
      obtain ⟨y16774, q16775, h⟩ := bind_some h
      refine W.cut (γ := Bool) (fun g => [(0, (.string x16766)), (1, (.string x16767)), (21, (.bool (g)))]) (fun g w' => y16774 = (g) ∧ w0 = w') ?_ ?_
      ·
        apply go
        refine ev0 (rn_lenS rfl rfl Tryz.underlying9) ?_
        refine sel_of (fun hc => ?_) (fun hc => ?_)
        ·
          have q16775 := cond_t q16775 hc
          obtain ⟨x16776, q16777, q16775⟩ := bind_some q16775
          refine ev0 (rn_indexS rfl rfl rfl Tryz.underlying9 q16777) ?_
          obtain rfl := Option.some.inj q16775
          exact ⟨(decide (x16776 < 128)), (.c rfl (.c rfl (.c rfl .n))), rfl, rfl⟩
        ·
          have q16775 := cond_f q16775 hc
          obtain rfl := Option.some.inj q16775
          exact ⟨false, (.c rfl (.c rfl (.c rfl .n))), rfl, rfl⟩
      ·
        rintro x16773 _ ⟨hy, rfl⟩
        replace hy := hy.symm
        subst hy
        apply go
        refine sel_of (fun hc => ?_) (fun hc => ?_)
        ·
          have h := cond_t h hc
          apply go
          cases h
        ·
          have h := cond_f h hc
          apply go
          apply go
          apply go
          apply go
          obtain ⟨⟨x16778, x16779⟩, q16780, h⟩ := bind_some h
          refine ev_call rfl rfl C84 (((strings_makeASCIISet_ok n) _ _  x16767 hp.imm _ q16780).mono ?_)
          rintro _ w16781 ⟨I16782, v16783, hv, hq, r16784⟩
          replace hv := hv.symm
          subst hv
          have hs := hq.st
          have hp := hp.join0 hq
          refine ev_allocA (d := (dA 256 dB)) (x0 := (List.replicate 256 false)) hp rfl T88 (fun _ _ => (rep_zero 256 rfl)) ?_
          intro g16785 c16788 w16786 hp hs r16787
          replace r16784 := r16784.step hs
          refine ev_storeW (d := (dA 256 dB)) hp (i := 0) rfl rfl rfl rfl T88 rfl r16787 r16784 ?_
          intro w16789 hp hs r16790
          apply go
          apply go
          apply go
          refine sel_of (fun hc => ?_) (fun hc => ?_)
          ·
            have h := cond_t h hc
            apply go
            apply go
            obtain ⟨⟨x16791, x16792⟩, q16793, h⟩ := bind_some h
            refine ev_call rfl rfl C86 (((strings_trimRightASCII_ok n) _ _  x16766 x16778 g16785 v16783 r16790 (hp.lend (i := 0) rfl) _ q16793).mono ?_)
            rintro _ w16794 ⟨I16795, c16796, hv, hq, r16797⟩
            replace hv := hv.symm
            subst hv
            have hs := hq.st
            have hp := hp.back (i := 0) rfl hq
            obtain ⟨⟨x16798, x16799⟩, q16800, h⟩ := bind_some h
            refine ev_call rfl rfl C85 (((strings_trimLeftASCII_ok n) _ _  x16791 x16792 g16785 c16796 r16797 (hp.lend (i := 0) rfl) _ q16800).mono ?_)
            rintro _ w16801 ⟨I16802, c16803, hv, hq, r16804⟩
            replace hv := hv.symm
            subst hv
            have hs := hq.st
            have hp := hp.back (i := 0) rfl hq
            apply go
            obtain rfl := Option.some.inj h
            exact ⟨rfl, hp.ch⟩
          ·
            have h := cond_f h hc
            apply go
            apply go
            apply go
            cases h

end Go.Proofs.YthhghkcopfnbiaaGreatDoor

namespace Go.Proofs.YthhghkcopfnbiaaGreatDoor
open Go Go.Proofs.YthhghkcopfnbiaaGreatDoor.Gw Go.RowKit
set_option linter.unusedVariables false
attribute [local irreducible] Ev EvQ EvS EvH
def strconv_ParseUint_S (f : ByteArray → Int → Int → Option (Int × Unit)) : Prop := ∀ (w0 : World) (I0 : Nat → Prop) (tb : Tb w0 I0 1 .u64 pow10) (x16820 : ByteArray) (x16821 : Int) (x16822 : Int) (hI : ∀ g, I0 g → g < w0.heap.size) (r : (Int × Unit)), f x16820 x16821 x16822 = some r →
    Ret Tryz.prog 64 #[(.string x16820), (.int .i64 x16821), (.int .i64 x16822)] w0 fun v w1 => v = (.tuple #[(.int .u64 r.1), .nilIface]) ∧ Ch [] w0 w1

theorem strconv_ParseUint_ok (n : Nat) : strconv_ParseUint_S (strconv_ParseUint n) := by
  intro w0 I0 tb s b k hI r h
  obtain ⟨rfl, rfl, hs, u, hu, rfl⟩ := parU_some h
  apply ret_below
  refine Calls.mono (sh_strconv_ParseUint_10_at32_ok s (by omega) u hu w0) ?_
  rintro e w' ⟨he, hw | hw⟩
  · exact ⟨he, hw ▸ Below.refl _ _⟩
  · exact ⟨he, hw ▸ Lib.bytesWorld_below _ _ _⟩

end Go.Proofs.YthhghkcopfnbiaaGreatDoor

namespace Go.Proofs.YthhghkcopfnbiaaGreatDoor
open Go Go.Proofs.YthhghkcopfnbiaaGreatDoor.Gw Go.RowKit
set_option linter.unusedVariables false
attribute [local irreducible] Ev EvQ EvS EvH
def integer_times_S (f : (List Int) → (List Int) → Option (List Int)) : Prop := ∀ (w0 : World) (I0 : Nat → Prop) (x16823 : (List Int)) (v16824 : Value) (r16825 : RepS (dI .u32) w0 I0 v16824 x16823) (x16826 : (List Int)) (v16827 : Value) (r16828 : RepS (dI .u32) w0 I0 v16827 x16826) (hI : ∀ g, I0 g → g < w0.heap.size) (r : (List Int)), f x16823 x16826 = some r →
    Ret Tryz.prog 66 #[v16824, v16827] w0 fun v w1 => ∃ (I1 : Nat → Prop) (u16829 : Value), v = u16829 ∧ Hp ⟨w0, I0, []⟩ I1 [] w1 ∧ RepS (dI .u32) w1 I1 u16829 r
theorem integer_times_ok (n : Nat) : integer_times_S (integer_times n) := by
  intro w0 I0 x16823 v16824 r16825 x16826 v16827 r16828 hI r h
  unfold integer_times at h
  refine enter Tryz.func66 rfl (Nat.le_of_ble_eq_true rfl) ?_
  have hp : Hp ⟨w0, I0, []⟩ I0 [] w0 := Hp.start hI
  apply go
  apply go
  apply go
  apply go
  refine ev0 (rn_len rfl rfl Tryz.underlying22 r16825) ?_
  refine ev0 (rn_len rfl rfl Tryz.underlying22 r16828) ?_
  obtain ⟨x16830, q16831, h⟩ := bind_some h
  refine ev_make (d := (dI .u32)) (x0 := 0) hp rfl rfl rfl Tryz.underlying22 T45 (fun _ _ => rfl) (Nat.le_of_ble_eq_true rfl) q16831 ?_
  intro v16832 e16833 w16834 hp hs o16835
  replace r16825 := r16825.step hs
  replace r16828 := r16828.step hs
  obtain ⟨y18215, q18216, h⟩ := bind_some h
  refine W.cut (γ := ((List Int) × Ent)) (fun g => [(5, v16832)]) (fun g w' => y18215 = (g.1) ∧ Hp ⟨w0, I0, []⟩ I0 [(g.2)] w' ∧ OwnS (dI .u32) 45 w' I0 v16832 (g.2) (g.1)) ?_ ?_
  ·
    apply go
    apply go
    refine ev0 (rn_len rfl rfl Tryz.underlying22 r16825) ?_
    apply go
    refine W.loop q18216 (γ := Ent) (fun s g => [(1, v16827), (5, v16832), (18, v16824), (19, (.int .i64 (x16823.length : Int))), (20, (.int .i64 (s.2)))]) (fun s g w' => Hp ⟨w0, I0, []⟩ I0 [(g)] w' ∧ RepS (dI .u32) w' I0 v16827 x16826 ∧ OwnS (dI .u32) 45 w' I0 v16832 (g) (s.1) ∧ RepS (dI .u32) w' I0 v16824 x16823) e16833 (.c rfl (.c rfl (.c rfl (.c rfl (.c rfl .n))))) ⟨hp, r16828, o16835, r16825⟩ ?_
    rintro ⟨x18670, x18674⟩ e18672 w19133 y19134 ⟨hp, r16828, o18673, r16825⟩ q19135 q19136
    unfold integer_times_L21 at q19135
    apply go
    apply go
    apply go
    apply go
    refine sel_of (fun hc => ?_) (fun hc => ?_)
    ·
      have q19135 := cond_t q19135 hc
      apply go
      obtain ⟨y19365, q19366, q19135⟩ := bind_some q19135
      refine W.cut (γ := ((List Int) × Ent)) (fun g => [(1, v16827), (5, v16832), (18, v16824), (19, (.int .i64 (x16823.length : Int))), (20, (.int .i64 x18674))]) (fun g w' => y19365 = (g.1) ∧ Hp ⟨w0, I0, []⟩ I0 [(g.2)] w' ∧ RepS (dI .u32) w' I0 v16827 x16826 ∧ OwnS (dI .u32) 45 w' I0 v16832 (g.2) (g.1) ∧ RepS (dI .u32) w' I0 v16824 x16823) ?_ ?_
      ·
        apply go
        apply go
        apply go
        obtain ⟨x19367, q19368, q19366⟩ := bind_some q19366
        refine ev_index rfl rfl rfl Tryz.underlying22 T45 r16825 q19368 ?_
        intro p19369 c19370 d19371 a19372
        obtain rfl : c19370 = [(.int .u32 x19367)] := d19371
        refine ev (rn_load rfl rfl (run_loadVar1 T45 (a19372.2 0 _ rfl))) ?_
        apply go
        apply go
        obtain ⟨y19477, q19478, q19366⟩ := bind_some q19366
        refine W.cut (γ := ((List Int) × Int × Ent)) (fun g => [(1, v16827), (5, v16832), (6, (.int .i64 x18674)), (8, (.int .u64 (g.2.1))), (18, v16824), (19, (.int .i64 (x16823.length : Int))), (20, (.int .i64 x18674))]) (fun g w' => y19477 = ((g.1), (g.2.1)) ∧ Hp ⟨w0, I0, []⟩ I0 [(g.2.2)] w' ∧ RepS (dI .u32) w' I0 v16827 x16826 ∧ OwnS (dI .u32) 45 w' I0 v16832 (g.2.2) (g.1) ∧ RepS (dI .u32) w' I0 v16824 x16823) ?_ ?_
        ·
          apply go
          apply go
          refine ev0 (rn_len rfl rfl Tryz.underlying22 r16828) ?_
          apply go
          refine W.loop q19478 (γ := Ent) (fun s g => [(1, v16827), (5, v16832), (6, (.int .i64 x18674)), (7, (.int .u32 x19367)), (8, (.int .u64 (s.2.1))), (18, v16824), (19, (.int .i64 (x16823.length : Int))), (20, (.int .i64 x18674)), (25, v16827), (26, (.int .i64 (x16826.length : Int))), (27, (.int .i64 (s.2.2)))]) (fun s g w' => Hp ⟨w0, I0, []⟩ I0 [(g)] w' ∧ RepS (dI .u32) w' I0 v16827 x16826 ∧ OwnS (dI .u32) 45 w' I0 v16832 (g) (s.1) ∧ RepS (dI .u32) w' I0 v16824 x16823) e18672 (.c rfl (.c rfl (.c rfl (.c rfl (.c rfl (.c rfl (.c rfl (.c rfl (.c rfl (.c rfl (.c rfl .n))))))))))) ⟨hp, r16828, o18673, r16825⟩ ?_
          rintro ⟨x19506, x19510, x19511⟩ e19508 w19545 y19546 ⟨hp, r16828, o19509, r16825⟩ q19547 q19548
          unfold integer_times_L25 at q19547
          apply go
          apply go
          apply go
          apply go
          refine sel_of (fun hc => ?_) (fun hc => ?_)
          ·
            have q19547 := cond_t q19547 hc
            apply go
            apply go
            apply go
            apply go
            apply go
            obtain ⟨x19549, q19550, q19547⟩ := bind_some q19547
            refine ev_index rfl rfl rfl Tryz.underlying22 T45 r16828 q19550 ?_
            intro p19551 c19552 d19553 a19554
            obtain rfl : c19552 = [(.int .u32 x19549)] := d19553
            refine ev (rn_load rfl rfl (run_loadVar1 T45 (a19554.2 0 _ rfl))) ?_
            apply go
            apply go
            refine ev0 (rn_conv rfl rfl U45 Tryz.underlying49) ?_
            refine ev0 (rn_conv rfl rfl U45 Tryz.underlying49) ?_
            obtain ⟨x19555, q19556, q19547⟩ := bind_some q19547
            refine ev_indexO rfl rfl rfl Tryz.underlying22 T45 o19509 q19556 ?_
            intro g19557 c19558 h19561 d19559 l19560
            refine ev (rn_load rfl rfl (run_loadVar1 T45 (hp.cellE (i := 0) rfl h19561 d19559 (j := 0) rfl))) ?_
            refine ev0 (rn_conv rfl rfl U45 Tryz.underlying49) ?_
            apply go
            apply go
            refine ev0 (rn_conv rfl rfl U49 Tryz.underlying45) ?_
            obtain ⟨x19563, q19564, q19547⟩ := bind_some q19547
            refine ev_indexO rfl rfl rfl Tryz.underlying22 T45 o19509 q19564 ?_
            intro g19565 c19566 h19569 d19567 l19568
            refine ev_storeE hp (i := 0) rfl h19569 rfl rfl rfl T45 o19509 q19564 (x0 := (IntKind.u32.wrap (IntKind.u64.wrap ((IntKind.u64.wrap ((IntKind.u64.wrap ((IntKind.u64.wrap x19367) * (IntKind.u64.wrap x19549))) + (IntKind.u64.wrap x19555))) + x19510)))) rfl ?_
            intro e19572 w19571 hp hs o19573
            replace r16828 := r16828.step hs
            replace r16825 := r16825.step hs
            apply go
            refine ⟨by decide, ?_⟩
            apply go
            exact ⟨_, (Option.some.inj q19547).symm, e19572, (.c rfl (.c rfl (.c rfl (.c rfl (.c rfl (.c rfl (.c rfl (.c rfl (.c rfl (.c rfl (.c rfl .n))))))))))), ⟨hp, r16828, o19573, r16825⟩⟩
          ·
            have q19547 := cond_f q19547 hc
            apply go
            have q19576 := congrArg some (q19548 _ (Option.some.inj q19547).symm)
            obtain rfl := Option.some.inj q19576
            exact ⟨(x19506, x19510, e19508), (.c rfl (.c rfl (.c rfl (.c rfl (.c rfl (.c rfl (.c rfl .n))))))), rfl, hp, r16828, o19509, r16825⟩
        ·
          rintro ⟨x19471, x19475, e19473⟩ w19476 ⟨hy, hp, r16828, o19474, r16825⟩
          replace hy := hy.symm
          subst hy
          apply go
          refine ev0 (rn_len rfl rfl Tryz.underlying22 r16828) ?_
          refine ev0 (rn_conv rfl rfl U49 Tryz.underlying45) ?_
          obtain ⟨x19577, q19578, q19366⟩ := bind_some q19366
          refine ev_indexO rfl rfl rfl Tryz.underlying22 T45 o19474 q19578 ?_
          intro g19579 c19580 h19583 d19581 l19582
          refine ev_storeE hp (i := 0) rfl h19583 rfl rfl rfl T45 o19474 q19578 (x0 := (IntKind.u32.wrap x19475)) rfl ?_
          intro e19586 w19585 hp hs o19587
          replace r16828 := r16828.step hs
          replace r16825 := r16825.step hs
          obtain rfl := Option.some.inj q19366
          exact ⟨((upd x19471 (IntKind.i64.wrap (x18674 + (x16826.length : Int))) (IntKind.u32.wrap x19475)), e19586), (.c rfl (.c rfl (.c rfl (.c rfl (.c rfl .n))))), rfl, hp, r16828, o19587, r16825⟩
      ·
        rintro ⟨x19360, e19362⟩ w19364 ⟨hy, hp, r16828, o19363, r16825⟩
        replace hy := hy.symm
        subst hy
        apply go
        exact ⟨_, (Option.some.inj q19135).symm, e19362, (.c rfl (.c rfl (.c rfl (.c rfl (.c rfl .n))))), ⟨hp, r16828, o19363, r16825⟩⟩
    ·
      have q19135 := cond_f q19135 hc
      apply go
      have q19590 := congrArg some (q19136 _ (Option.some.inj q19135).symm)
      obtain rfl := Option.some.inj q19590
      exact ⟨(x18670, e18672), (.c rfl .n), rfl, hp, o18673⟩
  ·
    rintro ⟨x18210, e18212⟩ w18214 ⟨hy, hp, o18213⟩
    replace hy := hy.symm
    subst hy
    apply go
    apply go
    apply go
    obtain rfl := Option.some.inj h
    have r19591 := o18213.frz hp (i := 0) rfl
    obtain ⟨hp, hs⟩ := freeze_hp hp (i := 0) rfl
    have hp := hp.sel [] (by decide)
    exact ⟨(Ad I0 e18212), v16832, rfl, hp, r19591⟩

end Go.Proofs.YthhghkcopfnbiaaGreatDoor

namespace Go.Proofs.YthhghkcopfnbiaaGreatDoor
open Go Go.Proofs.YthhghkcopfnbiaaGreatDoor.Gw Go.RowKit
set_option linter.unusedVariables false
attribute [local irreducible] Ev EvQ EvS EvH
def integer_Parse_S (f : ByteArray → Option (Int_2 × Int)) : Prop := ∀ (w0 : World) (I0 : Nat → Prop) (tb : Tb w0 I0 1 .u64 pow10) (x19592 : ByteArray) (hI : ∀ g, I0 g → g < w0.heap.size) (r : (Int_2 × Int)), f x19592 = some r →
    Ret Tryz.prog 26 #[(.string x19592)] w0 fun v w1 => ∃ (I1 : Nat → Prop) (u19593 : Value), v = (.tuple #[(.agg #[(.bool r.1.Neg), u19593]), (.int .i64 r.2)]) ∧ Hp ⟨w0, I0, []⟩ I1 [] w1 ∧ RepS (dI .u32) w1 I1 u19593 r.1.Mag
theorem integer_Parse_ok (n : Nat) : integer_Parse_S (integer_Parse n) := by
  intro w0 I0 tb x19592 hI r h
  unfold integer_Parse at h
  refine enter Tryz.func26 rfl (Nat.le_of_ble_eq_true rfl) ?_
  have hp : Hp ⟨w0, I0, []⟩ I0 [] w0 := Hp.start hI
  apply go
  apply go
  refine ev_alloc hp rfl T24 ?_
  intro g19594 w19595 hp hs
  replace tb := tb.step hs
  apply go
  apply go
  apply go
  refine ev0 (rn_lenS rfl rfl Tryz.underlying9) ?_
  apply go
  refine sel_of (fun hc => ?_) (fun hc => ?_)
  ·
    have h := cond_t h hc
    apply go
    apply go
    refine ev0 (fun w => rn_build (cs := [(.bool false), (.slice none 0 0)]) rfl rfl T24 PL24 rfl) ?_
    refine ev_storeA hp (i := 0) (off := 0) (vs := [(.bool false), (.slice none 0 0)]) rfl rfl rfl rfl T24 rfl (Nat.le_of_ble_eq_true rfl) (ones_of rfl) ?_
    intro w19596 hp hs
    replace tb := tb.step hs
    apply go
    obtain rfl := Option.some.inj h
    refine ⟨_, run_loadVarA T24 rfl (hp.at_ (i := 0) rfl), ?_⟩
    have hp := hp.sel [] (by decide)
    exact ⟨I0, .slice none 0 0, rfl, hp, RepS.nil _ _ _⟩
  ·
    have h := cond_f h hc
    apply go
    apply go
    apply go
    obtain ⟨⟨x19597, x19598⟩, q19599, h⟩ := bind_some h
    refine ev_call rfl rfl C62 (((strings_CutPrefix_ok n) _ _  x19592 (ByteArray.mk #[45]) hp.imm _ q19599).mono ?_)
    rintro _ w19600 ⟨rfl, hc⟩
    have hs := hp.stp hc
    replace hp := hp.ext hc
    replace tb := tb.step hs
    apply go
    obtain ⟨y19611, q19612, h⟩ := bind_some h
    refine W.cut (γ := Bool) (fun g => [(2, (.pointer (some ⟨g19594, 0, none⟩))), (4, (.string x19597)), (5, (.bool x19598)), (34, (.bool (g)))]) (fun g w' => y19611 = (g) ∧ Hp ⟨w0, I0, []⟩ I0 [some (g19594, [(.bool false), (.slice none 0 0)], 24)] w' ∧ Tb w' I0 1 .u64 pow10) ?_ ?_
    ·
      apply go
      refine sel_of (fun hc => ?_) (fun hc => ?_)
      ·
        have q19612 := cond_t q19612 hc
        obtain rfl := Option.some.inj q19612
        exact ⟨true, (.c rfl (.c rfl (.c rfl (.c rfl .n)))), rfl, hp, tb⟩
      ·
        have q19612 := cond_f q19612 hc
        obtain ⟨x19613, q19614, q19612⟩ := bind_some q19612
        refine ev0 (rn_indexS rfl rfl rfl Tryz.underlying9 q19614) ?_
        refine sel_of (fun hc => ?_) (fun hc => ?_)
        ·
          have q19612 := cond_t q19612 hc
          refine sel_of (fun hc => ?_) (fun hc => ?_)
          ·
            have q19612 := cond_t q19612 hc
            obtain rfl := Option.some.inj q19612
            exact ⟨true, (.c rfl (.c rfl (.c rfl (.c rfl .n)))), rfl, hp, tb⟩
          ·
            have q19612 := cond_f q19612 hc
            obtain ⟨x19615, q19616, q19612⟩ := bind_some q19612
            refine ev_call rfl rfl C63 (((strings_Trim_ok n) _ _  x19597 (ByteArray.mk #[48, 49, 50, 51, 52, 53, 54, 55, 56, 57]) hp.imm _ q19616).mono ?_)
            rintro _ w19617 ⟨rfl, hc⟩
            have hs := hp.stp hc
            replace hp := hp.ext hc
            replace tb := tb.step hs
            obtain rfl := Option.some.inj q19612
            exact ⟨(!(x19615.toList == (ByteArray.mk #[]).toList)), (.c rfl (.c rfl (.c rfl (.c rfl .n)))), rfl, hp, tb⟩
        ·
          have q19612 := cond_f q19612 hc
          obtain ⟨x19618, q19619, q19612⟩ := bind_some q19612
          refine ev_call rfl rfl C63 (((strings_Trim_ok n) _ _  x19597 (ByteArray.mk #[48, 49, 50, 51, 52, 53, 54, 55, 56, 57]) hp.imm _ q19619).mono ?_)
          rintro _ w19620 ⟨rfl, hc⟩
          have hs := hp.stp hc
          replace hp := hp.ext hc
          replace tb := tb.step hs
          obtain rfl := Option.some.inj q19612
          exact ⟨(!(x19618.toList == (ByteArray.mk #[]).toList)), (.c rfl (.c rfl (.c rfl (.c rfl .n)))), rfl, hp, tb⟩
    ·
      rintro x19609 w19610 ⟨hy, hp, tb⟩
      replace hy := hy.symm
      subst hy
      apply go
      refine sel_of (fun hc => ?_) (fun hc => ?_)
      ·
        have h := cond_t h hc
        apply go
        apply go
        refine ev0 (fun w => rn_build (cs := [(.bool false), (.slice none 0 0)]) rfl rfl T24 PL24 rfl) ?_
        refine ev_storeA hp (i := 0) (off := 0) (vs := [(.bool false), (.slice none 0 0)]) rfl rfl rfl rfl T24 rfl (Nat.le_of_ble_eq_true rfl) (ones_of rfl) ?_
        intro w19621 hp hs
        replace tb := tb.step hs
        apply go
        obtain rfl := Option.some.inj h
        refine ⟨_, run_loadVarA T24 rfl (hp.at_ (i := 0) rfl), ?_⟩
        have hp := hp.sel [] (by decide)
        exact ⟨I0, .slice none 0 0, rfl, hp, RepS.nil _ _ _⟩
      ·
        have h := cond_f h hc
        apply go
        apply go
        apply go
        obtain ⟨y19744, q19745, h⟩ := bind_some h
        refine W.cut (γ := ((List Int) × Value × (Nat → Prop))) (fun g => [(2, (.pointer (some ⟨g19594, 0, none⟩))), (5, (.bool x19598)), (6, (g.2.1))]) (fun g w' => y19744 = (g.1) ∧ Hp ⟨w0, I0, []⟩ (g.2.2) [some (g19594, [(.bool false), (.slice none 0 0)], 24)] w' ∧ RepS (dI .u32) w' (g.2.2) (g.2.1) (g.1) ∧ Tb w' (g.2.2) 1 .u64 pow10) ?_ ?_
        ·
          apply go
          refine W.loop q19745 (γ := (Value × (Nat → Prop))) (fun s g => [(2, (.pointer (some ⟨g19594, 0, none⟩))), (4, (.string (s.1))), (5, (.bool x19598)), (6, (g.1))]) (fun s g w' => Hp ⟨w0, I0, []⟩ (g.2) [some (g19594, [(.bool false), (.slice none 0 0)], 24)] w' ∧ RepS (dI .u32) w' (g.2) (g.1) (s.2) ∧ Tb w' (g.2) 1 .u64 pow10) ((.slice none 0 0), I0) (.c rfl (.c rfl (.c rfl (.c rfl .n)))) ⟨hp, RepS.nil _ _ _, tb⟩ ?_
          rintro ⟨x19780, x19781⟩ ⟨v19782, I19784⟩ w19824 y19825 ⟨hp, r19783, tb⟩ q19826 q19827
          unfold integer_Parse_L1 at q19826
          apply go
          apply go
          apply go
          refine ev0 (rn_lenS rfl rfl Tryz.underlying9) ?_
          apply go
          refine sel_of (fun hc => ?_) (fun hc => ?_)
          ·
            have q19826 := cond_t q19826 hc
            apply go
            apply go
            apply go
            apply go
            refine ev0 (rn_lenS rfl rfl Tryz.underlying9) ?_
            refine ⟨by decide, ?_⟩
            apply go
            apply go
            obtain ⟨x19828, q19829, q19826⟩ := bind_some q19826
            refine ev0 (rn_sliceStr (kl := .i64) (kh := .i64) rfl rfl rfl rfl Tryz.underlying9 q19829) ?_
            obtain ⟨⟨x19830, x19831⟩, q19832, q19826⟩ := bind_some q19826
            refine ev_call rfl rfl C64 (((strconv_ParseUint_ok n) _ _ tb x19828 10 32 hp.imm _ q19832).mono ?_)
            rintro _ w19833 ⟨rfl, hc⟩
            have hs := hp.stp hc
            replace hp := hp.ext hc
            replace r19783 := r19783.step hs
            replace tb := tb.step hs
            apply go
            apply go
            refine ev_litN (d := (dI .u32)) (xs := [1000000000]) (cs := [(.int .u32 1000000000)]) hp rfl rfl Tryz.underlying22 T45 (by decide) rfl rfl (Elems.cons (d := (dI .u32)) (xs := _) rfl (Elems.nil _ _ _ _)) ?_
            intro v19834 I19836 w19835 hp hs r19837
            replace r19783 := r19783.step hs
            replace tb := tb.step hs
            obtain ⟨x19838, q19839, q19826⟩ := bind_some q19826
            refine ev_call rfl rfl C66 (((integer_times_ok n) _ _  x19781 v19782 r19783 [1000000000] v19834 r19837 hp.imm _ q19839).mono ?_)
            rintro _ w19840 ⟨I19841, v19842, hv, hq, r19843⟩
            replace hv := hv.symm
            subst hv
            have hs := hq.st
            have hp := hp.join0 hq
            replace tb := tb.step hs
            refine ev0 (rn_conv rfl rfl U49 Tryz.underlying45) ?_
            refine ev_litN (d := (dI .u32)) (xs := [(IntKind.u32.wrap x19830)]) (cs := [(.int .u32 (IntKind.u32.wrap x19830))]) hp rfl rfl Tryz.underlying22 T45 (by decide) rfl rfl (Elems.cons (d := (dI .u32)) (xs := _) rfl (Elems.nil _ _ _ _)) ?_
            intro v19844 I19846 w19845 hp hs r19847
            replace r19843 := r19843.step hs
            replace tb := tb.step hs
            obtain ⟨x19848, q19849, q19826⟩ := bind_some q19826
            refine ev_call rfl rfl C65 (((integer_plus_ok n) _ _  x19838 v19842 r19843 [(IntKind.u32.wrap x19830)] v19844 r19847 hp.imm _ q19849).mono ?_)
            rintro _ w19850 ⟨I19851, v19852, hv, hq, r19853⟩
            replace hv := hv.symm
            subst hv
            have hs := hq.st
            have hp := hp.join0 hq
            replace tb := tb.step hs
            obtain ⟨x19854, q19855, q19826⟩ := bind_some q19826
            refine ev_call rfl rfl C46 (((integer_trim_ok n) _ _  x19848 v19852 r19853 hp.imm _ q19855).mono ?_)
            rintro _ w19856 ⟨I19857, v19858, hv, hq, r19859⟩
            replace hv := hv.symm
            subst hv
            have hs := hq.st
            have hp := hp.join0 hq
            replace tb := tb.step hs
            apply go
            obtain ⟨x19860, q19861, q19826⟩ := bind_some q19826
            refine ev0 (rn_sliceStr (kl := .i64) (kh := .i64) rfl rfl rfl rfl Tryz.underlying9 q19861) ?_
            exact ⟨_, (Option.some.inj q19826).symm, (v19858, I19857), (.c rfl (.c rfl (.c rfl (.c rfl .n)))), ⟨hp, r19859, tb⟩⟩
          ·
            have q19826 := cond_f q19826 hc
            apply go
            have q19862 := congrArg some (q19827 _ (Option.some.inj q19826).symm)
            obtain rfl := Option.some.inj q19862
            exact ⟨(x19781, v19782, I19784), (.c rfl (.c rfl (.c rfl .n))), rfl, hp, r19783, tb⟩
        ·
          rintro ⟨x19739, v19740, I19742⟩ w19743 ⟨hy, hp, r19741, tb⟩
          replace hy := hy.symm
          subst hy
          apply go
          apply go
          obtain ⟨x19863, q19864, h⟩ := bind_some h
          refine ev_call rfl rfl C49 (((integer_made_ok n) _ _  x19598 x19739 v19740 r19741 hp.imm _ q19864).mono ?_)
          rintro _ w19865 ⟨I19866, v19867, hv, hq, r19868⟩
          replace hv := hv.symm
          subst hv
          have hs := hq.st
          have hp := hp.join0 hq
          replace tb := tb.step hs
          refine ev_storeA hp (i := 0) (off := 0) (vs := [(.bool x19863.Neg), v19867]) rfl rfl rfl rfl T24 rfl (Nat.le_of_ble_eq_true rfl) (ones_cons rfl (ones_cons r19868.one ones_nil)) ?_
          intro w19869 hp hs
          replace r19868 := r19868.step hs
          replace tb := tb.step hs
          apply go
          obtain rfl := Option.some.inj h
          refine ⟨_, run_loadVarA T24 rfl (hp.at_ (i := 0) rfl), ?_⟩
          have hp := hp.sel [] (by decide)
          exact ⟨I19866, v19867, rfl, hp, r19868⟩

end Go.Proofs.YthhghkcopfnbiaaGreatDoor

namespace Go.Proofs.YthhghkcopfnbiaaGreatDoor
open Go Go.Proofs.YthhghkcopfnbiaaGreatDoor.Gw Go.RowKit
set_option linter.unusedVariables false
attribute [local irreducible] Ev EvQ EvS EvH
def integer_Sign_S (f : Int_2 → Option Int) : Prop := ∀ (w0 : World) (I0 : Nat → Prop) (x16104 : Int_2) (v16105 : Value) (r16106 : RepS (dI .u32) w0 I0 v16105 x16104.Mag) (hI : ∀ g, I0 g → g < w0.heap.size) (r : Int), f x16104 = some r →
    Ret Tryz.prog 23 #[(.agg #[(.bool x16104.Neg), v16105])] w0 fun v w1 => v = (.int .i64 r) ∧ Ch [] w0 w1
theorem integer_Sign_ok (n : Nat) : integer_Sign_S (integer_Sign n) := by
  intro w0 I0 x16104 v16105 r16106 hI r h
  unfold integer_Sign at h
  refine enter Tryz.func23 rfl (Nat.le_of_ble_eq_true rfl) ?_
  have hp : Hp ⟨w0, I0, []⟩ I0 [] w0 := Hp.start hI
  apply go
  apply go
  refine ev_boxI hp rfl rfl ?_
  intro p16109 I16110 w16108 hp hs a16111
  replace r16106 := r16106.step hs
  apply go
  apply go
  apply go
  apply go
  refine ev0 (rn_field rfl rfl FO24_1) ?_
  refine ev (rn_load rfl rfl (run_loadVar1 T22 (a16111.2 1 _ rfl))) ?_
  obtain ⟨x16112, q16113, h⟩ := bind_some h
  refine ev_call rfl rfl C46 (((integer_trim_ok n) _ _  x16104.Mag v16105 r16106 hp.imm _ q16113).mono ?_)
  rintro _ w16114 ⟨I16115, v16116, hv, hq, r16117⟩
  replace hv := hv.symm
  subst hv
  have hs := hq.st
  have hp := hp.join0 hq
  replace a16111 := a16111.step hs
  replace r16106 := r16106.step hs
  refine ev0 (rn_len rfl rfl Tryz.underlying22 r16117) ?_
  apply go
  refine sel_of (fun hc => ?_) (fun hc => ?_)
  ·
    have h := cond_t h hc
    apply go
    apply go
    apply go
    obtain rfl := Option.some.inj h
    exact ⟨rfl, hp.ch⟩
  ·
    have h := cond_f h hc
    apply go
    apply go
    refine ev0 (rn_field rfl rfl FO24_0) ?_
    refine ev (rn_load rfl rfl (run_loadVar1 T4 (a16111.2 0 _ rfl))) ?_
    apply go
    refine sel_of (fun hc => ?_) (fun hc => ?_)
    ·
      have h := cond_t h hc
      apply go
      apply go
      apply go
      obtain rfl := Option.some.inj h
      exact ⟨rfl, hp.ch⟩
    ·
      have h := cond_f h hc
      apply go
      apply go
      apply go
      apply go
      obtain rfl := Option.some.inj h
      exact ⟨rfl, hp.ch⟩

end Go.Proofs.YthhghkcopfnbiaaGreatDoor

namespace Go.Proofs.YthhghkcopfnbiaaGreatDoor
open Go Go.Proofs.YthhghkcopfnbiaaGreatDoor.Gw Go.RowKit
set_option linter.unusedVariables false
attribute [local irreducible] Ev EvQ EvS EvH
def integer_Cmp_S (f : Int_2 → Int_2 → Option Int) : Prop := ∀ (w0 : World) (I0 : Nat → Prop) (x16141 : Int_2) (v16142 : Value) (r16143 : RepS (dI .u32) w0 I0 v16142 x16141.Mag) (x16144 : Int_2) (v16145 : Value) (r16146 : RepS (dI .u32) w0 I0 v16145 x16144.Mag) (hI : ∀ g, I0 g → g < w0.heap.size) (r : Int), f x16141 x16144 = some r →
    Ret Tryz.prog 17 #[(.agg #[(.bool x16141.Neg), v16142]), (.agg #[(.bool x16144.Neg), v16145])] w0 fun v w1 => v = (.int .i64 r) ∧ Ch [] w0 w1
theorem integer_Cmp_ok (n : Nat) : integer_Cmp_S (integer_Cmp n) := by
  intro w0 I0 x16141 v16142 r16143 x16144 v16145 r16146 hI r h
  unfold integer_Cmp at h
  refine enter Tryz.func17 rfl (Nat.le_of_ble_eq_true rfl) ?_
  have hp : Hp ⟨w0, I0, []⟩ I0 [] w0 := Hp.start hI
  apply go
  apply go
  refine ev_boxI hp rfl rfl ?_
  intro p16149 I16150 w16148 hp hs a16151
  replace r16146 := r16146.step hs
  replace r16143 := r16143.step hs
  refine ev_boxI hp rfl rfl ?_
  intro p16154 I16155 w16153 hp hs a16156
  replace a16151 := a16151.step hs
  replace r16143 := r16143.step hs
  replace r16146 := r16146.step hs
  apply go
  refine W.quiet (fun w' => Ch [] w16153 w') MX (by kernel_rfl) (Ch.drew [] w16153) ?_
  refine evq (fun w' hw => rn_load rfl rfl (run_loadVarA T24 rfl (a16151.step (hp.stp hw)))) ?_
  obtain ⟨x16157, q16158, h⟩ := bind_some h
  refine evq_call rfl rfl C23 (fun w' hw => ((integer_Sign_ok n) _ _  (Int_2.mk x16141.Neg x16141.Mag) v16142 (r16143.step (hp.stp hw)) (hp.ext hw).imm _ q16158).mono fun _ _ ⟨e, hc⟩ => ⟨e, hw.trans hc⟩) ?_
  refine evq (fun w' hw => rn_load rfl rfl (run_loadVarA T24 rfl (a16156.step (hp.stp hw)))) ?_
  obtain ⟨x16159, q16160, h⟩ := bind_some h
  refine evq_call rfl rfl C23 (fun w' hw => ((integer_Sign_ok n) _ _  (Int_2.mk x16144.Neg x16144.Mag) v16145 (r16146.step (hp.stp hw)) (hp.ext hw).imm _ q16160).mono fun _ _ ⟨e, hc⟩ => ⟨e, hw.trans hc⟩) ?_
  intro w16161 hc
  have hs := hp.stp hc
  replace hp := hp.ext hc
  replace a16151 := a16151.step hs
  replace r16143 := r16143.step hs
  replace a16156 := a16156.step hs
  replace r16146 := r16146.step hs
  apply go
  apply go
  apply go
  apply go
  apply go
  refine sel_of (fun hc => ?_) (fun hc => ?_)
  ·
    have h := cond_t h hc
    apply go
    apply go
    apply go
    obtain rfl := Option.some.inj h
    exact ⟨rfl, hp.ch⟩
  ·
    have h := cond_f h hc
    apply go
    apply go
    apply go
    refine sel_of (fun hc => ?_) (fun hc => ?_)
    ·
      have h := cond_t h hc
      apply go
      apply go
      apply go
      obtain rfl := Option.some.inj h
      exact ⟨rfl, hp.ch⟩
    ·
      have h := cond_f h hc
      apply go
      apply go
      have hs := hp.stp (Ch.drew [] w16161)
      have hp := hp.drew
      replace a16151 := a16151.step hs
      replace r16143 := r16143.step hs
      replace a16156 := a16156.step hs
      replace r16146 := r16146.step hs
      refine W.held [(0, true), (1, true), (2, true), (4, true), (5, true), (3, false), (6, false), (7, false), (8, true), (9, true)] (Stp I16155 w16161.drew I16155) MX (by kernel_rfl) (Stp.refl _ _) ?_
      have hz := Stp.refl I16155 w16161.drew
      refine evh0 (rn_field rfl rfl FO24_1) ?_
      refine evh (fun w' hw => rn_load rfl rfl (run_loadVar1 T22 ((a16151.step hw).2 1 _ rfl))) ?_
      refine evh0 (rn_field rfl rfl FO24_1) ?_
      refine evh (fun w' hw => rn_load rfl rfl (run_loadVar1 T22 ((a16156.step hw).2 1 _ rfl))) ?_
      obtain ⟨x16177, q16178, h⟩ := bind_some h
      refine ev_call rfl rfl C46 (((integer_trim_ok n) _ _  x16141.Mag v16142 r16143 hp.imm _ q16178).mono ?_)
      rintro _ w16179 ⟨I16180, v16181, hv, hq, r16182⟩
      replace hv := hv.symm
      subst hv
      have hs := hq.st
      have hp := hp.join0 hq
      replace hz := hz.trans hs
      replace r16146 := r16146.step hs
      refine ⟨Stp I16180 w16179 I16180, Stp.refl _ _, fun x hx => hz.held hx, ?_⟩
      have hz := Stp.refl I16180 w16179
      obtain ⟨x16183, q16184, h⟩ := bind_some h
      refine ev_call rfl rfl C46 (((integer_trim_ok n) _ _  x16144.Mag v16145 r16146 hp.imm _ q16184).mono ?_)
      rintro _ w16185 ⟨I16186, v16187, hv, hq, r16188⟩
      replace hv := hv.symm
      subst hv
      have hs := hq.st
      have hp := hp.join0 hq
      replace hz := hz.trans hs
      replace r16182 := r16182.step hs
      refine ⟨Stp I16186 w16185 I16186, Stp.refl _ _, fun x hx => hz.held hx, ?_⟩
      have hz := Stp.refl I16186 w16185
      obtain ⟨x16189, q16190, h⟩ := bind_some h
      refine ev_call rfl rfl C48 (((integer_compare_ok n) _ _  x16177 v16181 r16182 x16183 v16187 r16188 hp.imm _ q16190).mono ?_)
      rintro _ w16191 ⟨rfl, hc⟩
      have hs := hp.stp hc
      replace hp := hp.ext hc
      replace hz := hz.trans hs
      refine ⟨Stp I16186 w16191 I16186, Stp.refl _ _, fun x hx => hz.held hx, ?_⟩
      have hz := Stp.refl I16186 w16191
      apply go
      obtain rfl := Option.some.inj h
      exact ⟨rfl, hp.ch⟩

end Go.Proofs.YthhghkcopfnbiaaGreatDoor

namespace Go.Proofs.YthhghkcopfnbiaaGreatDoor
open Go Go.Proofs.YthhghkcopfnbiaaGreatDoor.Gw Go.RowKit
set_option linter.unusedVariables false
attribute [local irreducible] Ev EvQ EvS EvH
def integer_Sqrt_S (f : Int_2 → Option (Int_2 × Int)) : Prop := ∀ (w0 : World) (I0 : Nat → Prop) (x16192 : Int_2) (v16193 : Value) (r16194 : RepS (dI .u32) w0 I0 v16193 x16192.Mag) (hI : ∀ g, I0 g → g < w0.heap.size) (r : (Int_2 × Int)), f x16192 = some r →
    Ret Tryz.prog 33 #[(.agg #[(.bool x16192.Neg), v16193])] w0 fun v w1 => ∃ (I1 : Nat → Prop) (u16195 : Value), v = (.tuple #[(.agg #[(.bool r.1.Neg), u16195]), (.int .i64 r.2)]) ∧ Hp ⟨w0, I0, []⟩ I1 [] w1 ∧ RepS (dI .u32) w1 I1 u16195 r.1.Mag
theorem integer_Sqrt_ok (n : Nat) : integer_Sqrt_S (integer_Sqrt n) := by
  intro w0 I0 x16192 v16193 r16194 hI r h
  unfold integer_Sqrt at h
  refine enter Tryz.func33 rfl (Nat.le_of_ble_eq_true rfl) ?_
  have hp : Hp ⟨w0, I0, []⟩ I0 [] w0 := Hp.start hI
  apply go
  apply go
  refine ev_boxI hp rfl rfl ?_
  intro p16198 I16199 w16197 hp hs a16200
  replace r16194 := r16194.step hs
  refine ev_alloc hp rfl T24 ?_
  intro g16201 w16202 hp hs
  replace a16200 := a16200.step hs
  replace r16194 := r16194.step hs
  apply go
  apply go
  apply go
  refine ev (rn_load rfl rfl (run_loadVarA T24 rfl a16200)) ?_
  obtain ⟨x16203, q16204, h⟩ := bind_some h
  refine ev_call rfl rfl C23 (((integer_Sign_ok n) _ _  (Int_2.mk x16192.Neg x16192.Mag) v16193 r16194 hp.imm _ q16204).mono ?_)
  rintro _ w16205 ⟨rfl, hc⟩
  have hs := hp.stp hc
  replace hp := hp.ext hc
  replace a16200 := a16200.step hs
  replace r16194 := r16194.step hs
  apply go
  apply go
  apply go
  apply go
  refine sel_of (fun hc => ?_) (fun hc => ?_)
  ·
    have h := cond_t h hc
    apply go
    apply go
    refine ev0 (fun w => rn_build (cs := [(.bool false), (.slice none 0 0)]) rfl rfl T24 PL24 rfl) ?_
    refine ev_storeA hp (i := 0) (off := 0) (vs := [(.bool false), (.slice none 0 0)]) rfl rfl rfl rfl T24 rfl (Nat.le_of_ble_eq_true rfl) (ones_of rfl) ?_
    intro w16206 hp hs
    apply go
    obtain rfl := Option.some.inj h
    refine ⟨_, run_loadVarA T24 rfl (hp.at_ (i := 0) rfl), ?_⟩
    have hp := hp.sel [] (by decide)
    exact ⟨I16199, .slice none 0 0, rfl, hp, RepS.nil _ _ _⟩
  ·
    have h := cond_f h hc
    apply go
    apply go
    apply go
    refine sel_of (fun hc => ?_) (fun hc => ?_)
    ·
      have h := cond_t h hc
      apply go
      apply go
      refine ev0 (fun w => rn_build (cs := [(.bool false), (.slice none 0 0)]) rfl rfl T24 PL24 rfl) ?_
      refine ev_storeA hp (i := 0) (off := 0) (vs := [(.bool false), (.slice none 0 0)]) rfl rfl rfl rfl T24 rfl (Nat.le_of_ble_eq_true rfl) (ones_of rfl) ?_
      intro w16207 hp hs
      apply go
      obtain rfl := Option.some.inj h
      refine ⟨_, run_loadVarA T24 rfl (hp.at_ (i := 0) rfl), ?_⟩
      have hp := hp.sel [] (by decide)
      exact ⟨I16199, .slice none 0 0, rfl, hp, RepS.nil _ _ _⟩
    ·
      have h := cond_f h hc
      apply go
      apply go
      apply go
      refine ev (rn_load rfl rfl (run_loadVarA T24 rfl a16200)) ?_
      obtain ⟨x16208, q16209, h⟩ := bind_some h
      refine ev_call rfl rfl C19 (((integer_Bits_ok n) _ _  (Int_2.mk x16192.Neg x16192.Mag) v16193 r16194 hp.imm _ q16209).mono ?_)
      rintro _ w16210 ⟨rfl, hc⟩
      have hs := hp.stp hc
      replace hp := hp.ext hc
      replace a16200 := a16200.step hs
      replace r16194 := r16194.step hs
      refine ⟨by decide, ?_⟩
      apply go
      apply go
      refine ⟨by decide, ?_⟩
      obtain ⟨x16211, q16212, h⟩ := bind_some h
      refine ev_make (d := (dI .u32)) (x0 := 0) hp rfl rfl rfl Tryz.underlying22 T45 (fun _ _ => rfl) (Nat.le_of_ble_eq_true rfl) q16212 ?_
      intro v16213 e16214 w16215 hp hs o16216
      replace a16200 := a16200.step hs
      replace r16194 := r16194.step hs
      apply go
      apply go
      refine ⟨by decide, ?_⟩
      refine ⟨by decide, ?_⟩
      obtain ⟨q16217, _, h⟩ := need_some h
      refine ⟨q16217, ?_⟩
      obtain ⟨x16218, q16219, h⟩ := bind_some h
      refine ev_indexO rfl rfl rfl Tryz.underlying22 T45 o16216 q16219 ?_
      intro g16220 c16221 h16224 d16222 l16223
      refine ev_storeE hp (i := 0) rfl h16224 rfl rfl rfl T45 o16216 q16219 (x0 := (IntKind.u32.wrap ((1 : Int) * 2 ^ min ((IntKind.i64.wrap ((IntKind.i64.wrap (x16208 + 1)).tdiv 2)).tmod 32).toNat (IntKind.u32).bits))) rfl ?_
      intro e16227 w16226 hp hs o16228
      replace a16200 := a16200.step hs
      replace r16194 := r16194.step hs
      apply go
      apply go
      have r16231 := o16228.frz hp (i := 0) rfl
      obtain ⟨hp, hs⟩ := freeze_hp hp (i := 0) rfl
      replace a16200 := a16200.step hs
      replace r16194 := r16194.step hs
      have hp := hp.sel [1] (by decide)
      obtain ⟨x16232, q16233, h⟩ := bind_some h
      refine ev_call rfl rfl C49 (((integer_made_ok n) _ _  false (upd x16211 (IntKind.i64.wrap ((IntKind.i64.wrap ((IntKind.i64.wrap (x16208 + 1)).tdiv 2)).tdiv 32)) (IntKind.u32.wrap ((1 : Int) * 2 ^ min ((IntKind.i64.wrap ((IntKind.i64.wrap (x16208 + 1)).tdiv 2)).tmod 32).toNat (IntKind.u32).bits))) v16213 r16231 hp.imm _ q16233).mono ?_)
      rintro _ w16234 ⟨I16235, v16236, hv, hq, r16237⟩
      replace hv := hv.symm
      subst hv
      have hs := hq.st
      have hp := hp.join0 hq
      replace a16200 := a16200.step hs
      replace r16194 := r16194.step hs
      refine ev_alloc hp rfl T24 ?_
      intro g16238 w16239 hp hs
      replace a16200 := a16200.step hs
      replace r16194 := r16194.step hs
      replace r16237 := r16237.step hs
      refine ev_storeA hp (i := 0) (off := 0) (vs := [(.bool x16232.Neg), v16236]) rfl rfl rfl rfl T24 rfl (Nat.le_of_ble_eq_true rfl) (ones_cons rfl (ones_cons r16237.one ones_nil)) ?_
      intro w16240 hp hs
      replace a16200 := a16200.step hs
      replace r16194 := r16194.step hs
      replace r16237 := r16237.step hs
      apply go
      have hp := hp.perm [1, 0] (by decide)
      refine W.loop h (γ := (Value × (Nat → Prop))) (fun s g => [(1, (.pointer (some (p16198)))), (2, (.pointer (some ⟨g16201, 0, none⟩))), (6, (.pointer (some ⟨g16238, 0, none⟩)))]) (fun s g w' => Hp ⟨w0, I0, []⟩ (g.2) [some (g16201, [(.bool false), (.slice none 0 0)], 24), some (g16238, [(.bool (s.1)), (g.1)], 24)] w' ∧ RepS (dI .u32) w' (g.2) v16193 x16192.Mag ∧ At w' (g.2) p16198 [(.bool x16192.Neg), v16193] ∧ RepS (dI .u32) w' (g.2) (g.1) (s.2)) (v16236, I16235) (.c rfl (.c rfl (.c rfl .n))) ⟨hp, r16194, a16200, r16237⟩ ?_
      rintro ⟨x16290, x16291⟩ ⟨v16292, I16294⟩ w16349 y16350 ⟨hp, r16194, a16200, r16293⟩ q16351 q16352
      unfold integer_Sqrt_L0 at q16351
      apply go
      apply go
      apply go
      refine ev (rn_load rfl rfl (run_loadVarA T24 rfl a16200)) ?_
      refine ev (rn_load rfl rfl (run_loadVarA T24 rfl (hp.at_ (i := 1) rfl))) ?_
      obtain ⟨⟨x16353, x16354, x16355⟩, q16356, q16351⟩ := bind_some q16351
      refine ev_call rfl rfl C24 (((integer_DivMod_ok n) _ _  (Int_2.mk x16192.Neg x16192.Mag) v16193 r16194 (Int_2.mk x16290 x16291) v16292 r16293 hp.imm _ q16356).mono ?_)
      rintro _ w16357 ⟨I16358, v16359, v16361, hv, hq, r16360, r16362⟩
      replace hv := hv.symm
      subst hv
      have hs := hq.st
      have hp := hp.join0 hq
      replace a16200 := a16200.step hs
      replace r16194 := r16194.step hs
      replace r16293 := r16293.step hs
      refine ev_alloc hp rfl T24 ?_
      intro g16363 w16364 hp hs
      replace a16200 := a16200.step hs
      replace r16194 := r16194.step hs
      replace r16360 := r16360.step hs
      replace r16362 := r16362.step hs
      replace r16293 := r16293.step hs
      refine ev_alloc hp rfl T24 ?_
      intro g16365 w16366 hp hs
      replace a16200 := a16200.step hs
      replace r16194 := r16194.step hs
      replace r16360 := r16360.step hs
      replace r16362 := r16362.step hs
      replace r16293 := r16293.step hs
      refine ev_storeA hp (i := 1) (off := 0) (vs := [(.bool x16353.Neg), v16359]) rfl rfl rfl rfl T24 rfl (Nat.le_of_ble_eq_true rfl) (ones_cons rfl (ones_cons r16360.one ones_nil)) ?_
      intro w16367 hp hs
      replace a16200 := a16200.step hs
      replace r16194 := r16194.step hs
      replace r16362 := r16362.step hs
      replace r16360 := r16360.step hs
      replace r16293 := r16293.step hs
      refine ev_storeA hp (i := 0) (off := 0) (vs := [(.bool x16354.Neg), v16361]) rfl rfl rfl rfl T24 rfl (Nat.le_of_ble_eq_true rfl) (ones_cons rfl (ones_cons r16362.one ones_nil)) ?_
      intro w16368 hp hs
      replace a16200 := a16200.step hs
      replace r16194 := r16194.step hs
      replace r16362 := r16362.step hs
      replace r16360 := r16360.step hs
      replace r16293 := r16293.step hs
      apply go
      apply go
      refine ev (rn_load rfl rfl (run_loadVarA T24 rfl (hp.at_ (i := 3) rfl))) ?_
      refine ev (rn_load rfl rfl (run_loadVarA T24 rfl (hp.at_ (i := 1) rfl))) ?_
      obtain ⟨x16369, q16370, q16351⟩ := bind_some q16351
      refine ev_call rfl rfl C30 (((integer_Add_ok n) _ _  (Int_2.mk x16290 x16291) v16292 r16293 (Int_2.mk x16353.Neg x16353.Mag) v16359 r16360 hp.imm _ q16370).mono ?_)
      rintro _ w16371 ⟨I16372, v16373, hv, hq, r16374⟩
      replace hv := hv.symm
      subst hv
      have hs := hq.st
      have hp := hp.join0 hq
      replace a16200 := a16200.step hs
      replace r16194 := r16194.step hs
      replace r16362 := r16362.step hs
      replace r16360 := r16360.step hs
      replace r16293 := r16293.step hs
      obtain ⟨x16375, q16376, q16351⟩ := bind_some q16351
      refine ev_call rfl rfl C18 (((integer_Of_ok n) _ _  2 hp.imm _ q16376).mono ?_)
      rintro _ w16377 ⟨I16378, v16379, hv, hq, r16380⟩
      replace hv := hv.symm
      subst hv
      have hs := hq.st
      have hp := hp.join0 hq
      replace a16200 := a16200.step hs
      replace r16194 := r16194.step hs
      replace r16374 := r16374.step hs
      replace r16362 := r16362.step hs
      replace r16360 := r16360.step hs
      replace r16293 := r16293.step hs
      obtain ⟨⟨x16381, x16382, x16383⟩, q16384, q16351⟩ := bind_some q16351
      refine ev_call rfl rfl C24 (((integer_DivMod_ok n) _ _  x16369 v16373 r16374 x16375 v16379 r16380 hp.imm _ q16384).mono ?_)
      rintro _ w16385 ⟨I16386, v16387, v16389, hv, hq, r16388, r16390⟩
      replace hv := hv.symm
      subst hv
      have hs := hq.st
      have hp := hp.join0 hq
      replace a16200 := a16200.step hs
      replace r16194 := r16194.step hs
      replace r16362 := r16362.step hs
      replace r16360 := r16360.step hs
      replace r16293 := r16293.step hs
      refine ev_alloc hp rfl T24 ?_
      intro g16391 w16392 hp hs
      replace a16200 := a16200.step hs
      replace r16194 := r16194.step hs
      replace r16388 := r16388.step hs
      replace r16390 := r16390.step hs
      replace r16362 := r16362.step hs
      replace r16360 := r16360.step hs
      replace r16293 := r16293.step hs
      refine ev_alloc hp rfl T24 ?_
      intro g16393 w16394 hp hs
      replace a16200 := a16200.step hs
      replace r16194 := r16194.step hs
      replace r16388 := r16388.step hs
      replace r16390 := r16390.step hs
      replace r16362 := r16362.step hs
      replace r16360 := r16360.step hs
      replace r16293 := r16293.step hs
      refine ev_storeA hp (i := 1) (off := 0) (vs := [(.bool x16381.Neg), v16387]) rfl rfl rfl rfl T24 rfl (Nat.le_of_ble_eq_true rfl) (ones_cons rfl (ones_cons r16388.one ones_nil)) ?_
      intro w16395 hp hs
      replace a16200 := a16200.step hs
      replace r16194 := r16194.step hs
      replace r16390 := r16390.step hs
      replace r16388 := r16388.step hs
      replace r16362 := r16362.step hs
      replace r16360 := r16360.step hs
      replace r16293 := r16293.step hs
      refine ev_storeA hp (i := 0) (off := 0) (vs := [(.bool x16382.Neg), v16389]) rfl rfl rfl rfl T24 rfl (Nat.le_of_ble_eq_true rfl) (ones_cons rfl (ones_cons r16390.one ones_nil)) ?_
      intro w16396 hp hs
      replace a16200 := a16200.step hs
      replace r16194 := r16194.step hs
      replace r16390 := r16390.step hs
      replace r16388 := r16388.step hs
      replace r16362 := r16362.step hs
      replace r16360 := r16360.step hs
      replace r16293 := r16293.step hs
      apply go
      apply go
      apply go
      refine ev (rn_load rfl rfl (run_loadVarA T24 rfl (hp.at_ (i := 1) rfl))) ?_
      refine ev (rn_load rfl rfl (run_loadVarA T24 rfl (hp.at_ (i := 5) rfl))) ?_
      obtain ⟨x16397, q16398, q16351⟩ := bind_some q16351
      refine ev_call rfl rfl C17 (((integer_Cmp_ok n) _ _  (Int_2.mk x16381.Neg x16381.Mag) v16387 r16388 (Int_2.mk x16290 x16291) v16292 r16293 hp.imm _ q16398).mono ?_)
      rintro _ w16399 ⟨rfl, hc⟩
      have hs := hp.stp hc
      replace hp := hp.ext hc
      replace a16200 := a16200.step hs
      replace r16194 := r16194.step hs
      replace r16390 := r16390.step hs
      replace r16388 := r16388.step hs
      replace r16362 := r16362.step hs
      replace r16360 := r16360.step hs
      replace r16293 := r16293.step hs
      apply go
      refine sel_of (fun hc => ?_) (fun hc => ?_)
      ·
        have q16351 := cond_t q16351 hc
        apply go
        apply go
        refine ev (rn_load rfl rfl (run_loadVarA T24 rfl (hp.at_ (i := 5) rfl))) ?_
        refine ev_storeA hp (i := 4) (off := 0) (vs := [(.bool x16290), v16292]) rfl rfl rfl rfl T24 rfl (Nat.le_of_ble_eq_true rfl) (ones_cons rfl (ones_cons r16293.one ones_nil)) ?_
        intro w16400 hp hs
        replace r16390 := r16390.step hs
        replace r16388 := r16388.step hs
        replace r16362 := r16362.step hs
        replace r16360 := r16360.step hs
        replace r16293 := r16293.step hs
        apply go
        have q16401 := congrArg some (q16352 _ (Option.some.inj q16351).symm)
        obtain rfl := Option.some.inj q16401
        refine ⟨_, run_loadVarA T24 rfl (hp.at_ (i := 4) rfl), ?_⟩
        have hp := hp.sel [] (by decide)
        exact ⟨I16386, v16292, rfl, hp, r16293⟩
      ·
        have q16351 := cond_f q16351 hc
        apply go
        apply go
        refine ev (rn_load rfl rfl (run_loadVarA T24 rfl (hp.at_ (i := 1) rfl))) ?_
        refine ev_storeA hp (i := 5) (off := 0) (vs := [(.bool x16381.Neg), v16387]) rfl rfl rfl rfl T24 rfl (Nat.le_of_ble_eq_true rfl) (ones_cons rfl (ones_cons r16388.one ones_nil)) ?_
        intro w16402 hp hs
        replace a16200 := a16200.step hs
        replace r16194 := r16194.step hs
        replace r16390 := r16390.step hs
        replace r16388 := r16388.step hs
        replace r16362 := r16362.step hs
        replace r16360 := r16360.step hs
        have hp := hp.sel [4, 5] (by decide)
        exact ⟨_, (Option.some.inj q16351).symm, (v16387, I16386), (.c rfl (.c rfl (.c rfl .n))), ⟨hp, r16194, a16200, r16388⟩⟩

end Go.Proofs.YthhghkcopfnbiaaGreatDoor

namespace Go.Proofs.YthhghkcopfnbiaaGreatDoor
open Go Go.Proofs.YthhghkcopfnbiaaGreatDoor.Gw Go.RowKit
set_option linter.unusedVariables false
attribute [local irreducible] Ev EvQ EvS EvH
def ref01_trim_S (f : (List Int) → Option (List Int)) : Prop := ∀ (w0 : World) (I0 : Nat → Prop) (x19870 : (List Int)) (v19871 : Value) (r19872 : RepS (dI .u32) w0 I0 v19871 x19870) (hI : ∀ g, I0 g → g < w0.heap.size) (r : (List Int)), f x19870 = some r →
    Ret Tryz.prog 47 #[v19871] w0 fun v w1 => ∃ (I1 : Nat → Prop) (u19873 : Value) (u19874 : Ent), v = u19873 ∧ Hp ⟨w0, I0, []⟩ I1 [u19874] w1 ∧ OwnS (dI .u32) 45 w1 I1 u19873 u19874 r
theorem ref01_trim_ok (n : Nat) : ref01_trim_S (ref01_trim n) := by
  intro w0 I0 x19870 v19871 r19872 hI r h
  unfold ref01_trim at h
  refine enter Tryz.func47 rfl (Nat.le_of_ble_eq_true rfl) ?_
  have hp : Hp ⟨w0, I0, []⟩ I0 [] w0 := Hp.start hI
  apply go
  apply go
  obtain ⟨y19945, q19946, h⟩ := bind_some h
  refine W.cut (γ := ((List Int) × Value)) (fun g => [(0, (g.2))]) (fun g w' => y19945 = (g.1) ∧ w0 = w' ∧ RepS (dI .u32) w' I0 (g.2) (g.1)) ?_ ?_
  ·
    apply go
    refine W.loop q19946 (γ := Value) (fun s g => [(0, (g))]) (fun s g w' => w0 = w' ∧ RepS (dI .u32) w' I0 (g) (s)) v19871 (.c rfl .n) ⟨rfl, r19872⟩ ?_
    rintro x19966 v19967 _ y19991 ⟨rfl, r19968⟩ q19992 q19993
    unfold ref01_trim_L1 at q19992
    apply go
    obtain ⟨y20001, q20002, q19992⟩ := bind_some q19992
    refine W.cut (γ := Bool) (fun g => [(0, v19967), (14, (.bool (g)))]) (fun g w' => y20001 = (g) ∧ w0 = w') ?_ ?_
    ·
      apply go
      refine ev0 (rn_len rfl rfl Tryz.underlying22 r19968) ?_
      refine sel_of (fun hc => ?_) (fun hc => ?_)
      ·
        have q20002 := cond_t q20002 hc
        refine ev0 (rn_len rfl rfl Tryz.underlying22 r19968) ?_
        obtain ⟨x20003, q20004, q20002⟩ := bind_some q20002
        refine ev_index rfl rfl rfl Tryz.underlying22 T45 r19968 q20004 ?_
        intro p20005 c20006 d20007 a20008
        obtain rfl : c20006 = [(.int .u32 x20003)] := d20007
        refine ev (rn_load rfl rfl (run_loadVar1 T45 (a20008.2 0 _ rfl))) ?_
        obtain rfl := Option.some.inj q20002
        exact ⟨(x20003 == 0), (.c rfl (.c rfl .n)), rfl, rfl⟩
      ·
        have q20002 := cond_f q20002 hc
        obtain rfl := Option.some.inj q20002
        exact ⟨false, (.c rfl (.c rfl .n)), rfl, rfl⟩
    ·
      rintro x20000 _ ⟨hy, rfl⟩
      replace hy := hy.symm
      subst hy
      apply go
      refine sel_of (fun hc => ?_) (fun hc => ?_)
      ·
        have q19992 := cond_t q19992 hc
        apply go
        apply go
        apply go
        refine ev0 (rn_len rfl rfl Tryz.underlying22 r19968) ?_
        obtain ⟨x20009, q20010, q19992⟩ := bind_some q19992
        refine ev_slice (kl := .i64) (kh := .i64) rfl rfl rfl rfl Tryz.underlying22 T45 r19968 q20010 ?_
        intro v20011 r20012
        exact ⟨_, (Option.some.inj q19992).symm, v20011, (.c rfl .n), ⟨rfl, r20012⟩⟩
      ·
        have q19992 := cond_f q19992 hc
        apply go
        have q20013 := congrArg some (q19993 _ (Option.some.inj q19992).symm)
        obtain rfl := Option.some.inj q20013
        exact ⟨(x19966, v19967), (.c rfl .n), rfl, rfl, r19968⟩
  ·
    rintro ⟨x19942, v19943⟩ _ ⟨hy, rfl, r19944⟩
    replace hy := hy.symm
    subst hy
    apply go
    apply go
    refine ev_litON (d := (dI .u32)) (xs := ([] : List Int)) (cs := []) hp rfl rfl Tryz.underlying22 T45 (by decide) (by decide) rfl rfl (Elems.nil _ _ _ _) ?_
    intro v20014 e20016 w20015 hp hs o20017
    replace r19944 := r19944.step hs
    obtain ⟨x20018, q20019, h⟩ := bind_some h
    refine ev_append hp (i := 0) rfl rfl rfl rfl Tryz.underlying22 T45 rfl rfl o20017 r19944 q20019 ?_
    rintro v20020 e20021 w20022 hp hs o20023
    apply go
    obtain rfl := Option.some.inj h
    exact ⟨I0, v20020, e20021, rfl, hp, o20023⟩

end Go.Proofs.YthhghkcopfnbiaaGreatDoor

namespace Go.Proofs.YthhghkcopfnbiaaGreatDoor
open Go Go.Proofs.YthhghkcopfnbiaaGreatDoor.Gw Go.RowKit
set_option linter.unusedVariables false
attribute [local irreducible] Ev EvQ EvS EvH
def ref01_Norm_S (f : Int_2 → Option Int_2) : Prop := ∀ (w0 : World) (I0 : Nat → Prop) (x20024 : Int_2) (v20025 : Value) (r20026 : RepS (dI .u32) w0 I0 v20025 x20024.Mag) (hI : ∀ g, I0 g → g < w0.heap.size) (r : Int_2), f x20024 = some r →
    Ret Tryz.prog 28 #[(.agg #[(.bool x20024.Neg), v20025])] w0 fun v w1 => ∃ (I1 : Nat → Prop) (u20027 : Value), v = (.agg #[(.bool r.Neg), u20027]) ∧ Hp ⟨w0, I0, []⟩ I1 [] w1 ∧ RepS (dI .u32) w1 I1 u20027 r.Mag
theorem ref01_Norm_ok (n : Nat) : ref01_Norm_S (ref01_Norm n) := by
  intro w0 I0 x20024 v20025 r20026 hI r h
  unfold ref01_Norm at h
  refine enter Tryz.func28 rfl (Nat.le_of_ble_eq_true rfl) ?_
  have hp : Hp ⟨w0, I0, []⟩ I0 [] w0 := Hp.start hI
  apply go
  apply go
  refine ev_boxI hp rfl rfl ?_
  intro p20030 I20031 w20029 hp hs a20032
  replace r20026 := r20026.step hs
  refine ev_alloc hp rfl T24 ?_
  intro g20033 w20034 hp hs
  replace a20032 := a20032.step hs
  replace r20026 := r20026.step hs
  apply go
  apply go
  refine ev0 (rn_field rfl rfl FO24_1) ?_
  refine ev (rn_load rfl rfl (run_loadVar1 T22 (a20032.2 1 _ rfl))) ?_
  obtain ⟨x20035, q20036, h⟩ := bind_some h
  refine ev_call rfl rfl C47 (((ref01_trim_ok n) _ _  x20024.Mag v20025 r20026 hp.imm _ q20036).mono ?_)
  rintro _ w20037 ⟨I20038, v20039, e20040, hv, hq, o20041⟩
  replace hv := hv.symm
  subst hv
  have hs := hq.st
  have hp := hp.join0 hq
  replace a20032 := a20032.step hs
  replace r20026 := r20026.step hs
  obtain ⟨y20058, q20059, h⟩ := bind_some h
  refine W.cut (γ := (Bool × (List Int) × Value × Ent)) (fun g => [(2, (.pointer (some ⟨g20033, 0, none⟩)))]) (fun g w' => y20058 = ((g.1), (g.2.1)) ∧ Hp ⟨w0, I0, []⟩ I20038 [(g.2.2.2), some (g20033, [(.bool (g.1)), (g.2.2.1)], 24)] w' ∧ OwnS (dI .u32) 45 w' I20038 (g.2.2.1) (g.2.2.2) (g.2.1)) ?_ ?_
  ·
    apply go
    refine ev0 (rn_field rfl rfl FO24_0) ?_
    refine ev (rn_load rfl rfl (run_loadVar1 T4 (a20032.2 0 _ rfl))) ?_
    refine sel_of (fun hc => ?_) (fun hc => ?_)
    ·
      have q20059 := cond_t q20059 hc
      refine ev0 (x_lenO rfl rfl Tryz.underlying22 o20041) ?_
      obtain ⟨A20060, m20061, m20062, rfl⟩ := o20041.isSl
      refine ev0 (fun w => rn_build (cs := [(.bool (decide ((x20035.length : Int) > 0))), (.slice A20060 m20061 m20062)]) rfl rfl T24 PL24 rfl) ?_
      refine ev_storeA hp (i := 1) (off := 0) (vs := [(.bool (decide ((x20035.length : Int) > 0))), (.slice A20060 m20061 m20062)]) rfl rfl rfl rfl T24 rfl (Nat.le_of_ble_eq_true rfl) (ones_cons rfl (ones_cons o20041.one ones_nil)) ?_
      intro w20064 hp hs
      replace o20041 := o20041.step hs
      obtain rfl := Option.some.inj q20059
      exact ⟨((decide ((x20035.length : Int) > 0)), x20035, (.slice A20060 m20061 m20062), e20040), (.c rfl .n), rfl, hp, o20041⟩
    ·
      have q20059 := cond_f q20059 hc
      obtain ⟨A20065, m20066, m20067, rfl⟩ := o20041.isSl
      refine ev0 (fun w => rn_build (cs := [(.bool false), (.slice A20065 m20066 m20067)]) rfl rfl T24 PL24 rfl) ?_
      refine ev_storeA hp (i := 1) (off := 0) (vs := [(.bool false), (.slice A20065 m20066 m20067)]) rfl rfl rfl rfl T24 rfl (Nat.le_of_ble_eq_true rfl) (ones_cons rfl (ones_cons o20041.one ones_nil)) ?_
      intro w20069 hp hs
      replace o20041 := o20041.step hs
      obtain rfl := Option.some.inj q20059
      exact ⟨(false, x20035, (.slice A20065 m20066 m20067), e20040), (.c rfl .n), rfl, hp, o20041⟩
  ·
    rintro ⟨x20052, x20053, v20054, e20055⟩ w20057 ⟨hy, hp, o20056⟩
    replace hy := hy.symm
    subst hy
    apply go
    obtain rfl := Option.some.inj h
    have r20070 := o20056.frz hp (i := 0) rfl
    obtain ⟨hp, hs⟩ := freeze_hp hp (i := 0) rfl
    have hp := hp.sel [1] (by decide)
    refine ⟨_, run_loadVarA T24 rfl (hp.at_ (i := 0) rfl), ?_⟩
    have hp := hp.sel [] (by decide)
    exact ⟨(Ad I20038 e20055), v20054, rfl, hp, r20070⟩

end Go.Proofs.YthhghkcopfnbiaaGreatDoor

namespace Go.Proofs.YthhghkcopfnbiaaGreatDoor
open Go Go.Proofs.YthhghkcopfnbiaaGreatDoor.Gw Go.RowKit
set_option linter.unusedVariables false
attribute [local irreducible] Ev EvQ EvS EvH
def ref01_Of_S (f : Int → Option Int_2) : Prop := ∀ (w0 : World) (I0 : Nat → Prop) (x20071 : Int) (hI : ∀ g, I0 g → g < w0.heap.size) (r : Int_2), f x20071 = some r →
    Ret Tryz.prog 45 #[(.int .i64 x20071)] w0 fun v w1 => ∃ (I1 : Nat → Prop) (u20072 : Value), v = (.agg #[(.bool r.Neg), u20072]) ∧ Hp ⟨w0, I0, []⟩ I1 [] w1 ∧ RepS (dI .u32) w1 I1 u20072 r.Mag
theorem ref01_Of_ok (n : Nat) : ref01_Of_S (ref01_Of n) := by
  intro w0 I0 x20071 hI r h
  unfold ref01_Of at h
  refine enter Tryz.func45 rfl (Nat.le_of_ble_eq_true rfl) ?_
  have hp : Hp ⟨w0, I0, []⟩ I0 [] w0 := Hp.start hI
  apply go
  apply go
  refine ev_alloc hp rfl T24 ?_
  intro g20073 w20074 hp hs
  apply go
  apply go
  refine ev0 (rn_conv rfl rfl U3 Tryz.underlying49) ?_
  obtain ⟨y20076, q20077, h⟩ := bind_some h
  refine W.cut (γ := Int) (fun g => [(0, (.int .i64 x20071)), (2, (.pointer (some ⟨g20073, 0, none⟩))), (3, (.int .u64 (g)))]) (fun g w' => y20076 = (g) ∧ w20074 = w') ?_ ?_
  ·
    apply go
    apply go
    apply go
    refine sel_of (fun hc => ?_) (fun hc => ?_)
    ·
      have q20077 := cond_t q20077 hc
      apply go
      obtain rfl := Option.some.inj q20077
      exact ⟨(IntKind.u64.wrap (0 - (IntKind.u64.wrap x20071))), (.c rfl (.c rfl (.c rfl .n))), rfl, rfl⟩
    ·
      have q20077 := cond_f q20077 hc
      apply go
      obtain rfl := Option.some.inj q20077
      exact ⟨(IntKind.u64.wrap x20071), (.c rfl (.c rfl (.c rfl .n))), rfl, rfl⟩
  ·
    rintro x20075 _ ⟨hy, rfl⟩
    replace hy := hy.symm
    subst hy
    apply go
    apply go
    refine ev0 (rn_conv rfl rfl U49 Tryz.underlying45) ?_
    refine ⟨by decide, ?_⟩
    refine ev0 (rn_conv rfl rfl U49 Tryz.underlying45) ?_
    refine ev_litN (d := (dI .u32)) (xs := [(IntKind.u32.wrap x20075), (IntKind.u32.wrap (x20075.fdiv (2 ^ min (32 : Int).toNat (IntKind.u64).bits)))]) (cs := [(.int .u32 (IntKind.u32.wrap x20075)), (.int .u32 (IntKind.u32.wrap (x20075.fdiv (2 ^ min (32 : Int).toNat (IntKind.u64).bits))))]) hp rfl rfl Tryz.underlying22 T45 (by decide) rfl rfl (Elems.cons (d := (dI .u32)) (xs := _) rfl (Elems.cons (d := (dI .u32)) (xs := _) rfl (Elems.nil _ _ _ _))) ?_
    intro v20078 I20080 w20079 hp hs r20081
    obtain ⟨A20082, m20083, m20084, rfl⟩ := r20081.isSl
    refine ev0 (fun w => rn_build (cs := [(.bool (decide (x20071 < 0))), (.slice A20082 m20083 m20084)]) rfl rfl T24 PL24 rfl) ?_
    obtain ⟨x20086, q20087, h⟩ := bind_some h
    refine ev_call rfl rfl C28 (((ref01_Norm_ok n) _ _  (Int_2.mk (decide (x20071 < 0)) [(IntKind.u32.wrap x20075), (IntKind.u32.wrap (x20075.fdiv (2 ^ min (32 : Int).toNat (IntKind.u64).bits)))]) (.slice A20082 m20083 m20084) r20081 hp.imm _ q20087).mono ?_)
    rintro _ w20088 ⟨I20089, v20090, hv, hq, r20091⟩
    replace hv := hv.symm
    subst hv
    have hs := hq.st
    have hp := hp.join0 hq
    refine ev_storeA hp (i := 0) (off := 0) (vs := [(.bool x20086.Neg), v20090]) rfl rfl rfl rfl T24 rfl (Nat.le_of_ble_eq_true rfl) (ones_cons rfl (ones_cons r20091.one ones_nil)) ?_
    intro w20092 hp hs
    replace r20091 := r20091.step hs
    apply go
    obtain rfl := Option.some.inj h
    refine ⟨_, run_loadVarA T24 rfl (hp.at_ (i := 0) rfl), ?_⟩
    have hp := hp.sel [] (by decide)
    exact ⟨I20089, v20090, rfl, hp, r20091⟩

end Go.Proofs.YthhghkcopfnbiaaGreatDoor

namespace Go.Proofs.YthhghkcopfnbiaaGreatDoor
open Go Go.Proofs.YthhghkcopfnbiaaGreatDoor.Gw Go.RowKit
set_option linter.unusedVariables false
attribute [local irreducible] Ev EvQ EvS EvH vch
def law01_awake_S (f : Option Bool) : Prop := ∀ (w0 : World) (I0 : Nat → Prop) (tb : Tb w0 I0 1 .u64 pow10)  (hI : ∀ g, I0 g → g < w0.heap.size) (r : Bool), f  = some r →
    Ret Tryz.prog 13 #[] w0 fun v w1 => v = (.bool r) ∧ Ch [] w0 w1
theorem law01_awake_ok (n : Nat) : law01_awake_S (law01_awake n) := by
  intro w0 I0 tb hI r h
  unfold law01_awake at h
  refine enter Tryz.func13 rfl (Nat.le_of_ble_eq_true rfl) ?_
  have hp : Hp ⟨w0, I0, []⟩ I0 [] w0 := Hp.start hI
  apply go
  apply go
  apply go
  apply go
  obtain ⟨x22653, q22654, h⟩ := bind_some h
  refine ev_call rfl rfl C18 (((integer_Of_ok n) _ _  (-7) hp.imm _ q22654).mono ?_)
  rintro _ w22655 ⟨I22656, v22657, hv, hq, r22658⟩
  replace hv := hv.symm
  subst hv
  have hs := hq.st
  have hp := hp.join0 hq
  replace tb := tb.step hs
  obtain ⟨x22659, q22660, h⟩ := bind_some h
  refine ev_call rfl rfl C18 (((integer_Of_ok n) _ _  2 hp.imm _ q22660).mono ?_)
  rintro _ w22661 ⟨I22662, v22663, hv, hq, r22664⟩
  replace hv := hv.symm
  subst hv
  have hs := hq.st
  have hp := hp.join0 hq
  replace r22658 := r22658.step hs
  replace tb := tb.step hs
  obtain ⟨⟨x22665, x22666, x22667⟩, q22668, h⟩ := bind_some h
  refine ev_call rfl rfl C24 (((integer_DivMod_ok n) _ _  x22653 v22657 r22658 x22659 v22663 r22664 hp.imm _ q22668).mono ?_)
  rintro _ w22669 ⟨I22670, v22671, v22673, hv, hq, r22672, r22674⟩
  replace hv := hv.symm
  subst hv
  have hs := hq.st
  have hp := hp.join0 hq
  replace tb := tb.step hs
  refine ev_alloc hp rfl T24 ?_
  intro g22675 w22676 hp hs
  replace r22672 := r22672.step hs
  replace r22674 := r22674.step hs
  replace tb := tb.step hs
  refine ev_alloc hp rfl T24 ?_
  intro g22677 w22678 hp hs
  replace r22672 := r22672.step hs
  replace r22674 := r22674.step hs
  replace tb := tb.step hs
  refine ev_storeA hp (i := 1) (off := 0) (vs := [(.bool x22665.Neg), v22671]) rfl rfl rfl rfl T24 rfl (Nat.le_of_ble_eq_true rfl) (ones_cons rfl (ones_cons r22672.one ones_nil)) ?_
  intro w22679 hp hs
  replace r22674 := r22674.step hs
  replace r22672 := r22672.step hs
  replace tb := tb.step hs
  refine ev_storeA hp (i := 0) (off := 0) (vs := [(.bool x22666.Neg), v22673]) rfl rfl rfl rfl T24 rfl (Nat.le_of_ble_eq_true rfl) (ones_cons rfl (ones_cons r22674.one ones_nil)) ?_
  intro w22680 hp hs
  replace r22674 := r22674.step hs
  replace r22672 := r22672.step hs
  replace tb := tb.step hs
  apply go
  apply go
  refine ev (rn_load rfl rfl (run_loadVarA T24 rfl (hp.at_ (i := 1) rfl))) ?_
  refine ev_litN (d := (dI .u32)) (xs := [0]) (cs := [(.int .u32 0)]) hp rfl rfl Tryz.underlying22 T45 (by decide) rfl rfl (Elems.cons (d := (dI .u32)) (xs := _) rfl (Elems.nil _ _ _ _)) ?_
  intro v22681 I22683 w22682 hp hs r22684
  replace r22672 := r22672.step hs
  replace r22674 := r22674.step hs
  replace tb := tb.step hs
  obtain ⟨A22685, m22686, m22687, rfl⟩ := r22684.isSl
  refine ev0 (fun w => rn_build (cs := [(.bool true), (.slice A22685 m22686 m22687)]) rfl rfl T24 PL24 rfl) ?_
  obtain ⟨⟨x22689, x22690, x22691⟩, q22692, h⟩ := bind_some h
  refine ev_call rfl rfl C24 (((integer_DivMod_ok n) _ _  (Int_2.mk x22665.Neg x22665.Mag) v22671 r22672 (Int_2.mk true [0]) (.slice A22685 m22686 m22687) r22684 hp.imm _ q22692).mono ?_)
  rintro _ w22693 ⟨I22694, v22695, v22697, hv, hq, r22696, r22698⟩
  replace hv := hv.symm
  subst hv
  have hs := hq.st
  have hp := hp.join0 hq
  replace r22674 := r22674.step hs
  replace r22672 := r22672.step hs
  replace tb := tb.step hs
  refine ev_alloc hp rfl T24 ?_
  intro g22699 w22700 hp hs
  replace r22696 := r22696.step hs
  replace r22698 := r22698.step hs
  replace r22674 := r22674.step hs
  replace r22672 := r22672.step hs
  replace tb := tb.step hs
  refine ev_alloc hp rfl T24 ?_
  intro g22701 w22702 hp hs
  replace r22696 := r22696.step hs
  replace r22698 := r22698.step hs
  replace r22674 := r22674.step hs
  replace r22672 := r22672.step hs
  replace tb := tb.step hs
  refine ev_storeA hp (i := 1) (off := 0) (vs := [(.bool x22689.Neg), v22695]) rfl rfl rfl rfl T24 rfl (Nat.le_of_ble_eq_true rfl) (ones_cons rfl (ones_cons r22696.one ones_nil)) ?_
  intro w22703 hp hs
  replace r22698 := r22698.step hs
  replace r22696 := r22696.step hs
  replace r22674 := r22674.step hs
  replace r22672 := r22672.step hs
  replace tb := tb.step hs
  refine ev_storeA hp (i := 0) (off := 0) (vs := [(.bool x22690.Neg), v22697]) rfl rfl rfl rfl T24 rfl (Nat.le_of_ble_eq_true rfl) (ones_cons rfl (ones_cons r22698.one ones_nil)) ?_
  intro w22704 hp hs
  replace r22698 := r22698.step hs
  replace r22696 := r22696.step hs
  replace r22674 := r22674.step hs
  replace r22672 := r22672.step hs
  replace tb := tb.step hs
  apply go
  apply go
  refine ev_litN (d := (dI .u32)) (xs := [7, 0]) (cs := [(.int .u32 7), (.int .u32 0)]) hp rfl rfl Tryz.underlying22 T45 (by decide) rfl rfl (Elems.cons (d := (dI .u32)) (xs := _) rfl (Elems.cons (d := (dI .u32)) (xs := _) rfl (Elems.nil _ _ _ _))) ?_
  intro v22705 I22707 w22706 hp hs r22708
  replace r22698 := r22698.step hs
  replace r22696 := r22696.step hs
  replace r22674 := r22674.step hs
  replace r22672 := r22672.step hs
  replace tb := tb.step hs
  obtain ⟨A22709, m22710, m22711, rfl⟩ := r22708.isSl
  refine ev0 (fun w => rn_build (cs := [(.bool true), (.slice A22709 m22710 m22711)]) rfl rfl T24 PL24 rfl) ?_
  obtain ⟨⟨x22713, x22714⟩, q22715, h⟩ := bind_some h
  refine ev_call rfl rfl C15 (((integer_Small_ok n) _ _  (Int_2.mk true [7, 0]) (.slice A22709 m22710 m22711) r22708 hp.imm _ q22715).mono ?_)
  rintro _ w22716 ⟨rfl, hc⟩
  have hs := hp.stp hc
  replace hp := hp.ext hc
  replace r22698 := r22698.step hs
  replace r22696 := r22696.step hs
  replace r22674 := r22674.step hs
  replace r22672 := r22672.step hs
  replace tb := tb.step hs
  apply go
  apply go
  obtain ⟨x22717, q22718, h⟩ := bind_some h
  refine ev_call rfl rfl C18 (((integer_Of_ok n) _ _  24 hp.imm _ q22718).mono ?_)
  rintro _ w22719 ⟨I22720, v22721, hv, hq, r22722⟩
  replace hv := hv.symm
  subst hv
  have hs := hq.st
  have hp := hp.join0 hq
  replace r22698 := r22698.step hs
  replace r22696 := r22696.step hs
  replace r22674 := r22674.step hs
  replace r22672 := r22672.step hs
  replace tb := tb.step hs
  obtain ⟨⟨x22723, x22724⟩, q22725, h⟩ := bind_some h
  refine ev_call rfl rfl C33 (((integer_Sqrt_ok n) _ _  x22717 v22721 r22722 hp.imm _ q22725).mono ?_)
  rintro _ w22726 ⟨I22727, v22728, hv, hq, r22729⟩
  replace hv := hv.symm
  subst hv
  have hs := hq.st
  have hp := hp.join0 hq
  replace r22698 := r22698.step hs
  replace r22696 := r22696.step hs
  replace r22674 := r22674.step hs
  replace r22672 := r22672.step hs
  replace tb := tb.step hs
  refine ev_alloc hp rfl T24 ?_
  intro g22730 w22731 hp hs
  replace r22729 := r22729.step hs
  replace r22698 := r22698.step hs
  replace r22696 := r22696.step hs
  replace r22674 := r22674.step hs
  replace r22672 := r22672.step hs
  replace tb := tb.step hs
  refine ev_storeA hp (i := 0) (off := 0) (vs := [(.bool x22723.Neg), v22728]) rfl rfl rfl rfl T24 rfl (Nat.le_of_ble_eq_true rfl) (ones_cons rfl (ones_cons r22729.one ones_nil)) ?_
  intro w22732 hp hs
  replace r22729 := r22729.step hs
  replace r22698 := r22698.step hs
  replace r22696 := r22696.step hs
  replace r22674 := r22674.step hs
  replace r22672 := r22672.step hs
  replace tb := tb.step hs
  apply go
  apply go
  obtain ⟨⟨x22733, x22734⟩, q22735, h⟩ := bind_some h
  refine ev_call rfl rfl C26 (((integer_Parse_ok n) _ _ tb (ByteArray.mk #[45, 48]) hp.imm _ q22735).mono ?_)
  rintro _ w22736 ⟨I22737, v22738, hv, hq, r22739⟩
  replace hv := hv.symm
  subst hv
  have hs := hq.st
  have hp := hp.join0 hq
  replace r22729 := r22729.step hs
  replace r22698 := r22698.step hs
  replace r22696 := r22696.step hs
  replace r22674 := r22674.step hs
  replace r22672 := r22672.step hs
  replace tb := tb.step hs
  refine ev_alloc hp rfl T24 ?_
  intro g22740 w22741 hp hs
  replace r22739 := r22739.step hs
  replace r22729 := r22729.step hs
  replace r22698 := r22698.step hs
  replace r22696 := r22696.step hs
  replace r22674 := r22674.step hs
  replace r22672 := r22672.step hs
  replace tb := tb.step hs
  refine ev_storeA hp (i := 0) (off := 0) (vs := [(.bool x22733.Neg), v22738]) rfl rfl rfl rfl T24 rfl (Nat.le_of_ble_eq_true rfl) (ones_cons rfl (ones_cons r22739.one ones_nil)) ?_
  intro w22742 hp hs
  replace r22739 := r22739.step hs
  replace r22729 := r22729.step hs
  replace r22698 := r22698.step hs
  replace r22696 := r22696.step hs
  replace r22674 := r22674.step hs
  replace r22672 := r22672.step hs
  replace tb := tb.step hs
  obtain ⟨y22918, q22919, h⟩ := bind_some h
  refine W.cut (γ := (Bool × (Nat → Prop))) (fun g => [(0, (.bool (g.1)))]) (fun g w' => y22918 = (g.1) ∧ Hp ⟨w0, I0, []⟩ (g.2) [] w' ∧ Tb w' (g.2) 1 .u64 pow10) ?_ ?_
  ·
    have hs := hp.stp (Ch.drew [] w22742)
    have hp := hp.drew
    replace r22739 := r22739.step hs
    replace r22729 := r22729.step hs
    replace r22698 := r22698.step hs
    replace r22696 := r22696.step hs
    replace r22674 := r22674.step hs
    replace r22672 := r22672.step hs
    replace tb := tb.step hs
    refine W.heldT [(0, true), (1, false), (2, false), (3, true), (4, true), (5, false), (6, false), (7, true), (8, true), (9, true), (10, true), (11, true), (12, true), (13, true), (14, true), (15, true), (16, true), (17, true), (18, true), (19, true), (20, true), (21, true), (22, true), (23, true), (24, true), (25, false), (26, false), (27, true), (28, true), (29, true), (30, true), (31, true), (32, true), (33, true), (34, true), (35, true), (36, true), (37, true), (38, true), (39, true), (40, true), (41, true), (42, true), (43, false), (44, true), (45, false), (46, true), (47, true), (48, true), (49, false), (50, false), (51, false), (52, false), (53, false), (54, true), (55, true), (56, false), (57, false), (58, true), (59, true), (60, true)] (fun x => Stp I22737 w22742.drew I22737 x ∧ OwnK [(g22675, [(.bool x22665.Neg), v22671], 24), (g22677, [(.bool x22666.Neg), v22673], 24), (g22730, [(.bool x22723.Neg), v22728], 24), (g22740, [(.bool x22733.Neg), v22738], 24)] x) MX (by kernel_rfl) ⟨Stp.refl _ _, (OwnK.cons (hp.own 5 _ _ _ rfl).1 (OwnK.cons (hp.own 4 _ _ _ rfl).1 (OwnK.cons (hp.own 1 _ _ _ rfl).1 (OwnK.cons (hp.own 0 _ _ _ rfl).1 OwnK.nil))))⟩ ?_
    have hz := Stp.refl I22737 w22742.drew
    intro ops hops
    have e0 : nthO ops 0 = some _ := (hops 0).trans rfl
    have e1 : nthO ops 1 = some _ := (hops 1).trans rfl
    have e2 : nthO ops 2 = some _ := (hops 2).trans rfl
    have e3 : nthO ops 3 = some _ := (hops 3).trans rfl
    have e4 : nthO ops 4 = some _ := (hops 4).trans rfl
    have e5 : nthO ops 5 = some _ := (hops 5).trans rfl
    have e6 : nthO ops 6 = some _ := (hops 6).trans rfl
    have e7 : nthO ops 7 = some _ := (hops 7).trans rfl
    have e8 : nthO ops 8 = some _ := (hops 8).trans rfl
    have e9 : nthO ops 9 = some _ := (hops 9).trans rfl
    have e10 : nthO ops 10 = some _ := (hops 10).trans rfl
    have e11 : nthO ops 11 = some _ := (hops 11).trans rfl
    have e12 : nthO ops 12 = some _ := (hops 12).trans rfl
    have e13 : nthO ops 13 = some _ := (hops 13).trans rfl
    have e14 : nthO ops 14 = some _ := (hops 14).trans rfl
    have e15 : nthO ops 15 = some _ := (hops 15).trans rfl
    have e16 : nthO ops 16 = some _ := (hops 16).trans rfl
    have e17 : nthO ops 17 = some _ := (hops 17).trans rfl
    have e18 : nthO ops 18 = some _ := (hops 18).trans rfl
    have e19 : nthO ops 19 = some _ := (hops 19).trans rfl
    have e20 : nthO ops 20 = some _ := (hops 20).trans rfl
    have e21 : nthO ops 21 = some _ := (hops 21).trans rfl
    have e22 : nthO ops 22 = some _ := (hops 22).trans rfl
    have e23 : nthO ops 23 = some _ := (hops 23).trans rfl
    have e24 : nthO ops 24 = some _ := (hops 24).trans rfl
    have e25 : nthO ops 25 = some _ := (hops 25).trans rfl
    have e26 : nthO ops 26 = some _ := (hops 26).trans rfl
    have e27 : nthO ops 27 = some _ := (hops 27).trans rfl
    have e28 : nthO ops 28 = some _ := (hops 28).trans rfl
    have e29 : nthO ops 29 = some _ := (hops 29).trans rfl
    have e30 : nthO ops 30 = some _ := (hops 30).trans rfl
    have e31 : nthO ops 31 = some _ := (hops 31).trans rfl
    have e32 : nthO ops 32 = some _ := (hops 32).trans rfl
    have e33 : nthO ops 33 = some _ := (hops 33).trans rfl
    have e34 : nthO ops 34 = some _ := (hops 34).trans rfl
    have e35 : nthO ops 35 = some _ := (hops 35).trans rfl
    have e36 : nthO ops 36 = some _ := (hops 36).trans rfl
    have e37 : nthO ops 37 = some _ := (hops 37).trans rfl
    have e38 : nthO ops 38 = some _ := (hops 38).trans rfl
    have e39 : nthO ops 39 = some _ := (hops 39).trans rfl
    have e40 : nthO ops 40 = some _ := (hops 40).trans rfl
    have e41 : nthO ops 41 = some _ := (hops 41).trans rfl
    have e42 : nthO ops 42 = some _ := (hops 42).trans rfl
    have e43 : nthO ops 43 = some _ := (hops 43).trans rfl
    have e44 : nthO ops 44 = some _ := (hops 44).trans rfl
    have e45 : nthO ops 45 = some _ := (hops 45).trans rfl
    have e46 : nthO ops 46 = some _ := (hops 46).trans rfl
    have e47 : nthO ops 47 = some _ := (hops 47).trans rfl
    have e48 : nthO ops 48 = some _ := (hops 48).trans rfl
    have e49 : nthO ops 49 = some _ := (hops 49).trans rfl
    have e50 : nthO ops 50 = some _ := (hops 50).trans rfl
    have e51 : nthO ops 51 = some _ := (hops 51).trans rfl
    have e52 : nthO ops 52 = some _ := (hops 52).trans rfl
    have e53 : nthO ops 53 = some _ := (hops 53).trans rfl
    have e54 : nthO ops 54 = some _ := (hops 54).trans rfl
    have e55 : nthO ops 55 = some _ := (hops 55).trans rfl
    have e56 : nthO ops 56 = some _ := (hops 56).trans rfl
    have e57 : nthO ops 57 = some _ := (hops 57).trans rfl
    have e58 : nthO ops 58 = some _ := (hops 58).trans rfl
    have e59 : nthO ops 59 = some _ := (hops 59).trans rfl
    have e60 : nthO ops 60 = some _ := (hops 60).trans rfl
    clear hops
    refine vch_q e0 rfl ?_
    refine evh (fun w' hw => rn_load rfl rfl (run_loadVarA T24 rfl (hw.2.at_ (i := 0) rfl))) ?_
    refine vch_l e1 rfl ?_
    obtain ⟨x23006, q23007, q22919⟩ := bind_some q22919
    refine ev_call rfl rfl C45 (((ref01_Of_ok n) _ _  (-4) hp.imm _ q23007).mono ?_)
    rintro _ w23008 ⟨I23009, v23010, hv, hq, r23011⟩
    replace hv := hv.symm
    subst hv
    have hs := hq.st
    have hp := hp.join0 hq
    replace hz := hz.trans hs
    replace r22672 := r22672.step hs
    replace r22739 := r22739.step hs
    replace r22729 := r22729.step hs
    replace r22698 := r22698.step hs
    replace r22696 := r22696.step hs
    replace r22674 := r22674.step hs
    replace tb := tb.step hs
    refine ⟨fun x => Stp I23009 w23008 I23009 x ∧ OwnK [(g22675, [(.bool x22665.Neg), v22671], 24), (g22677, [(.bool x22666.Neg), v22673], 24), (g22730, [(.bool x22723.Neg), v22728], 24), (g22740, [(.bool x22733.Neg), v22738], 24)] x, ⟨Stp.refl _ _, (OwnK.cons (hp.own 5 _ _ _ rfl).1 (OwnK.cons (hp.own 4 _ _ _ rfl).1 (OwnK.cons (hp.own 1 _ _ _ rfl).1 (OwnK.cons (hp.own 0 _ _ _ rfl).1 OwnK.nil))))⟩, fun x hx => ⟨hz.held hx.1, hx.2⟩, ?_⟩
    have hz := Stp.refl I23009 w23008
    refine vch_l e2 rfl ?_
    obtain ⟨x23012, q23013, q22919⟩ := bind_some q22919
    refine ev_call rfl rfl C21 (((ref01_Same_ok n) _ _  (Int_2.mk x22665.Neg x22665.Mag) v22671 r22672 x23006 v23010 r23011 hp.imm _ q23013).mono ?_)
    rintro _ w23014 ⟨rfl, hc⟩
    have hs := hp.stp hc
    replace hp := hp.ext hc
    replace hz := hz.trans hs
    replace r22739 := r22739.step hs
    replace r22729 := r22729.step hs
    replace r22698 := r22698.step hs
    replace r22696 := r22696.step hs
    replace r22674 := r22674.step hs
    replace r22672 := r22672.step hs
    replace tb := tb.step hs
    refine ⟨fun x => Stp I23009 w23014 I23009 x ∧ OwnK [(g22675, [(.bool x22665.Neg), v22671], 24), (g22677, [(.bool x22666.Neg), v22673], 24), (g22730, [(.bool x22723.Neg), v22728], 24), (g22740, [(.bool x22733.Neg), v22738], 24)] x, ⟨Stp.refl _ _, (OwnK.cons (hp.own 5 _ _ _ rfl).1 (OwnK.cons (hp.own 4 _ _ _ rfl).1 (OwnK.cons (hp.own 1 _ _ _ rfl).1 (OwnK.cons (hp.own 0 _ _ _ rfl).1 OwnK.nil))))⟩, fun x hx => ⟨hz.held hx.1, hx.2⟩, ?_⟩
    have hz := Stp.refl I23009 w23014
    refine vch_q e3 rfl ?_
    obtain ⟨q23015, _, q22919⟩ := need_some q22919
    refine vch_qt e4 rfl e3 rfl rfl q23015 ?_
    refine evh (fun w' hw => rn_load rfl rfl (run_loadVarA T24 rfl (hw.2.at_ (i := 1) rfl))) ?_
    refine vch_lt e5 rfl e3 rfl rfl rfl ?_
    obtain ⟨x23016, q23017, q22919⟩ := bind_some q22919
    refine ev_call rfl rfl C45 (((ref01_Of_ok n) _ _  1 hp.imm _ q23017).mono ?_)
    rintro _ w23018 ⟨I23019, v23020, hv, hq, r23021⟩
    replace hv := hv.symm
    subst hv
    have hs := hq.st
    have hp := hp.join0 hq
    replace hz := hz.trans hs
    replace r22674 := r22674.step hs
    replace r22739 := r22739.step hs
    replace r22729 := r22729.step hs
    replace r22698 := r22698.step hs
    replace r22696 := r22696.step hs
    replace r22672 := r22672.step hs
    replace tb := tb.step hs
    refine ⟨fun x => Stp I23019 w23018 I23019 x ∧ OwnK [(g22675, [(.bool x22665.Neg), v22671], 24), (g22677, [(.bool x22666.Neg), v22673], 24), (g22730, [(.bool x22723.Neg), v22728], 24), (g22740, [(.bool x22733.Neg), v22738], 24)] x, ⟨Stp.refl _ _, (OwnK.cons (hp.own 5 _ _ _ rfl).1 (OwnK.cons (hp.own 4 _ _ _ rfl).1 (OwnK.cons (hp.own 1 _ _ _ rfl).1 (OwnK.cons (hp.own 0 _ _ _ rfl).1 OwnK.nil))))⟩, fun x hx => ⟨hz.held hx.1, hx.2⟩, ?_⟩
    have hz := Stp.refl I23019 w23018
    refine vch_lt e6 rfl e3 rfl rfl rfl ?_
    obtain ⟨x23022, q23023, q22919⟩ := bind_some q22919
    refine ev_call rfl rfl C21 (((ref01_Same_ok n) _ _  (Int_2.mk x22666.Neg x22666.Mag) v22673 r22674 x23016 v23020 r23021 hp.imm _ q23023).mono ?_)
    rintro _ w23024 ⟨rfl, hc⟩
    have hs := hp.stp hc
    replace hp := hp.ext hc
    replace hz := hz.trans hs
    replace r22739 := r22739.step hs
    replace r22729 := r22729.step hs
    replace r22698 := r22698.step hs
    replace r22696 := r22696.step hs
    replace r22674 := r22674.step hs
    replace r22672 := r22672.step hs
    replace tb := tb.step hs
    refine ⟨fun x => Stp I23019 w23024 I23019 x ∧ OwnK [(g22675, [(.bool x22665.Neg), v22671], 24), (g22677, [(.bool x22666.Neg), v22673], 24), (g22730, [(.bool x22723.Neg), v22728], 24), (g22740, [(.bool x22733.Neg), v22738], 24)] x, ⟨Stp.refl _ _, (OwnK.cons (hp.own 5 _ _ _ rfl).1 (OwnK.cons (hp.own 4 _ _ _ rfl).1 (OwnK.cons (hp.own 1 _ _ _ rfl).1 (OwnK.cons (hp.own 0 _ _ _ rfl).1 OwnK.nil))))⟩, fun x hx => ⟨hz.held hx.1, hx.2⟩, ?_⟩
    have hz := Stp.refl I23019 w23024
    refine vch_q e7 rfl ?_
    refine vch_q e8 rfl ?_
    obtain ⟨q23025, _, q22919⟩ := need_some q22919
    refine vch_qt e9 rfl e8 rfl rfl q23025 ?_
    refine vch_qt e10 rfl e8 rfl rfl rfl ?_
    refine vch_q e11 rfl ?_
    refine vch_q e12 rfl ?_
    obtain ⟨q23026, _, q22919⟩ := need_some q22919
    refine vch_qt e13 rfl e12 rfl rfl q23026 ?_
    refine vch_qt e14 rfl e12 rfl rfl rfl ?_
    refine vch_q e15 rfl ?_
    refine vch_q e16 rfl ?_
    obtain ⟨q23027, _, q22919⟩ := need_some q22919
    refine vch_qt e17 rfl e16 rfl rfl q23027 ?_
    refine vch_qt e18 rfl e16 rfl rfl rfl ?_
    refine vch_q e19 rfl ?_
    refine vch_q e20 rfl ?_
    obtain ⟨q23028, _, q22919⟩ := need_some q22919
    refine vch_qt e21 rfl e20 rfl rfl q23028 ?_
    refine vch_q e22 rfl ?_
    refine vch_q e23 rfl ?_
    obtain ⟨q23029, _, q22919⟩ := need_some q22919
    refine vch_qt e24 rfl e23 rfl rfl q23029 ?_
    refine evh (fun w' hw => rn_load rfl rfl (run_loadVarA T24 rfl (hw.2.at_ (i := 2) rfl))) ?_
    refine vch_lt e25 rfl e23 rfl rfl rfl ?_
    obtain ⟨x23030, q23031, q22919⟩ := bind_some q22919
    refine ev_call rfl rfl C45 (((ref01_Of_ok n) _ _  4 hp.imm _ q23031).mono ?_)
    rintro _ w23032 ⟨I23033, v23034, hv, hq, r23035⟩
    replace hv := hv.symm
    subst hv
    have hs := hq.st
    have hp := hp.join0 hq
    replace hz := hz.trans hs
    replace r22729 := r22729.step hs
    replace r22739 := r22739.step hs
    replace r22698 := r22698.step hs
    replace r22696 := r22696.step hs
    replace r22674 := r22674.step hs
    replace r22672 := r22672.step hs
    replace tb := tb.step hs
    refine ⟨fun x => Stp I23033 w23032 I23033 x ∧ OwnK [(g22675, [(.bool x22665.Neg), v22671], 24), (g22677, [(.bool x22666.Neg), v22673], 24), (g22730, [(.bool x22723.Neg), v22728], 24), (g22740, [(.bool x22733.Neg), v22738], 24)] x, ⟨Stp.refl _ _, (OwnK.cons (hp.own 5 _ _ _ rfl).1 (OwnK.cons (hp.own 4 _ _ _ rfl).1 (OwnK.cons (hp.own 1 _ _ _ rfl).1 (OwnK.cons (hp.own 0 _ _ _ rfl).1 OwnK.nil))))⟩, fun x hx => ⟨hz.held hx.1, hx.2⟩, ?_⟩
    have hz := Stp.refl I23033 w23032
    refine vch_lt e26 rfl e23 rfl rfl rfl ?_
    obtain ⟨x23036, q23037, q22919⟩ := bind_some q22919
    refine ev_call rfl rfl C21 (((ref01_Same_ok n) _ _  (Int_2.mk x22723.Neg x22723.Mag) v22728 r22729 x23030 v23034 r23035 hp.imm _ q23037).mono ?_)
    rintro _ w23038 ⟨rfl, hc⟩
    have hs := hp.stp hc
    replace hp := hp.ext hc
    replace hz := hz.trans hs
    replace r22739 := r22739.step hs
    replace r22729 := r22729.step hs
    replace r22698 := r22698.step hs
    replace r22696 := r22696.step hs
    replace r22674 := r22674.step hs
    replace r22672 := r22672.step hs
    replace tb := tb.step hs
    refine ⟨fun x => Stp I23033 w23038 I23033 x ∧ OwnK [(g22675, [(.bool x22665.Neg), v22671], 24), (g22677, [(.bool x22666.Neg), v22673], 24), (g22730, [(.bool x22723.Neg), v22728], 24), (g22740, [(.bool x22733.Neg), v22738], 24)] x, ⟨Stp.refl _ _, (OwnK.cons (hp.own 5 _ _ _ rfl).1 (OwnK.cons (hp.own 4 _ _ _ rfl).1 (OwnK.cons (hp.own 1 _ _ _ rfl).1 (OwnK.cons (hp.own 0 _ _ _ rfl).1 OwnK.nil))))⟩, fun x hx => ⟨hz.held hx.1, hx.2⟩, ?_⟩
    have hz := Stp.refl I23033 w23038
    refine vch_q e27 rfl ?_
    refine vch_q e28 rfl ?_
    obtain ⟨q23039, _, q22919⟩ := need_some q22919
    refine vch_qt e29 rfl e28 rfl rfl q23039 ?_
    refine vch_qt e30 rfl e28 rfl rfl rfl ?_
    refine vch_q e31 rfl ?_
    refine vch_q e32 rfl ?_
    obtain ⟨q23040, _, q22919⟩ := need_some q22919
    refine vch_qt e33 rfl e32 rfl rfl q23040 ?_
    refine vch_qt e34 rfl e32 rfl rfl rfl ?_
    refine vch_q e35 rfl ?_
    refine vch_q e36 rfl ?_
    obtain ⟨q23041, _, q22919⟩ := need_some q22919
    refine vch_qt e37 rfl e36 rfl rfl q23041 ?_
    refine evh0 (rn_field rfl rfl FO24_1) ?_
    refine vch_qt e38 rfl e36 rfl rfl rfl ?_
    refine evh (fun w' hw => rn_load rfl rfl (run_loadVar1 T22 (hw.2.cell (i := 3) (off := 1) rfl rfl))) ?_
    refine vch_qt e39 rfl e36 rfl rfl rfl ?_
    refine evh0 (rn_len rfl rfl Tryz.underlying22 r22739) ?_
    refine vch_qt e40 rfl e36 rfl rfl rfl ?_
    refine vch_q e41 rfl ?_
    refine vch_q e42 rfl ?_
    obtain ⟨q23042, _, q22919⟩ := need_some q22919
    refine vch_lt e43 rfl e42 rfl rfl q23042 ?_
    refine ev_litN (d := (dI .u32)) (xs := [0, 1]) (cs := [(.int .u32 0), (.int .u32 1)]) hp rfl rfl Tryz.underlying22 T45 (by decide) rfl rfl (Elems.cons (d := (dI .u32)) (xs := _) rfl (Elems.cons (d := (dI .u32)) (xs := _) rfl (Elems.nil _ _ _ _))) ?_
    intro v23043 I23045 w23044 hp hs r23046
    replace hz := hz.trans hs
    replace r22739 := r22739.step hs
    replace r22729 := r22729.step hs
    replace r22698 := r22698.step hs
    replace r22696 := r22696.step hs
    replace r22674 := r22674.step hs
    replace r22672 := r22672.step hs
    replace tb := tb.step hs
    refine ⟨fun x => Stp I23045 w23044 I23045 x ∧ OwnK [(g22675, [(.bool x22665.Neg), v22671], 24), (g22677, [(.bool x22666.Neg), v22673], 24), (g22730, [(.bool x22723.Neg), v22728], 24), (g22740, [(.bool x22733.Neg), v22738], 24)] x, ⟨Stp.refl _ _, (OwnK.cons (hp.own 5 _ _ _ rfl).1 (OwnK.cons (hp.own 4 _ _ _ rfl).1 (OwnK.cons (hp.own 1 _ _ _ rfl).1 (OwnK.cons (hp.own 0 _ _ _ rfl).1 OwnK.nil))))⟩, fun x hx => ⟨hz.held hx.1, hx.2⟩, ?_⟩
    have hz := Stp.refl I23045 w23044
    refine vch_qt e44 rfl e42 rfl rfl rfl ?_
    obtain ⟨A23047, m23048, m23049, rfl⟩ := r23046.isSl
    refine evh0 (fun w => rn_build (cs := [(.bool true), (.slice A23047 m23048 m23049)]) rfl rfl T24 PL24 rfl) ?_
    refine vch_lt e45 rfl e42 rfl rfl rfl ?_
    obtain ⟨x23051, q23052, q22919⟩ := bind_some q22919
    refine ev_call rfl rfl C25 (((integer_Text_ok n) _ _ tb (Int_2.mk true [0, 1]) (.slice A23047 m23048 m23049) r23046 hp.imm _ q23052).mono ?_)
    rintro _ w23053 ⟨rfl, hc⟩
    have hs := hp.stp hc
    replace hp := hp.ext hc
    replace hz := hz.trans hs
    replace r22739 := r22739.step hs
    replace r22729 := r22729.step hs
    replace r22698 := r22698.step hs
    replace r22696 := r22696.step hs
    replace r22674 := r22674.step hs
    replace r22672 := r22672.step hs
    replace tb := tb.step hs
    refine ⟨fun x => Stp I23045 w23053 I23045 x ∧ OwnK [(g22675, [(.bool x22665.Neg), v22671], 24), (g22677, [(.bool x22666.Neg), v22673], 24), (g22730, [(.bool x22723.Neg), v22728], 24), (g22740, [(.bool x22733.Neg), v22738], 24)] x, ⟨Stp.refl _ _, (OwnK.cons (hp.own 5 _ _ _ rfl).1 (OwnK.cons (hp.own 4 _ _ _ rfl).1 (OwnK.cons (hp.own 1 _ _ _ rfl).1 (OwnK.cons (hp.own 0 _ _ _ rfl).1 OwnK.nil))))⟩, fun x hx => ⟨hz.held hx.1, hx.2⟩, ?_⟩
    have hz := Stp.refl I23045 w23053
    refine vch_qt e46 rfl e42 rfl rfl rfl ?_
    refine vch_q e47 rfl ?_
    refine vch_q e48 rfl ?_
    obtain ⟨q23054, _, q22919⟩ := need_some q22919
    refine vch_lt e49 rfl e48 rfl rfl q23054 ?_
    obtain ⟨x23055, q23056, q22919⟩ := bind_some q22919
    refine ev_call rfl rfl C18 (((integer_Of_ok n) _ _  (-12) hp.imm _ q23056).mono ?_)
    rintro _ w23057 ⟨I23058, v23059, hv, hq, r23060⟩
    replace hv := hv.symm
    subst hv
    have hs := hq.st
    have hp := hp.join0 hq
    replace hz := hz.trans hs
    replace r22739 := r22739.step hs
    replace r22729 := r22729.step hs
    replace r22698 := r22698.step hs
    replace r22696 := r22696.step hs
    replace r22674 := r22674.step hs
    replace r22672 := r22672.step hs
    replace tb := tb.step hs
    refine ⟨fun x => Stp I23058 w23057 I23058 x ∧ OwnK [(g22675, [(.bool x22665.Neg), v22671], 24), (g22677, [(.bool x22666.Neg), v22673], 24), (g22730, [(.bool x22723.Neg), v22728], 24), (g22740, [(.bool x22733.Neg), v22738], 24)] x, ⟨Stp.refl _ _, (OwnK.cons (hp.own 5 _ _ _ rfl).1 (OwnK.cons (hp.own 4 _ _ _ rfl).1 (OwnK.cons (hp.own 1 _ _ _ rfl).1 (OwnK.cons (hp.own 0 _ _ _ rfl).1 OwnK.nil))))⟩, fun x hx => ⟨hz.held hx.1, hx.2⟩, ?_⟩
    have hz := Stp.refl I23058 w23057
    refine vch_lt e50 rfl e48 rfl rfl rfl ?_
    obtain ⟨x23061, q23062, q22919⟩ := bind_some q22919
    refine ev_call rfl rfl C18 (((integer_Of_ok n) _ _  18 hp.imm _ q23062).mono ?_)
    rintro _ w23063 ⟨I23064, v23065, hv, hq, r23066⟩
    replace hv := hv.symm
    subst hv
    have hs := hq.st
    have hp := hp.join0 hq
    replace hz := hz.trans hs
    replace r23060 := r23060.step hs
    replace r22739 := r22739.step hs
    replace r22729 := r22729.step hs
    replace r22698 := r22698.step hs
    replace r22696 := r22696.step hs
    replace r22674 := r22674.step hs
    replace r22672 := r22672.step hs
    replace tb := tb.step hs
    refine ⟨fun x => Stp I23064 w23063 I23064 x ∧ OwnK [(g22675, [(.bool x22665.Neg), v22671], 24), (g22677, [(.bool x22666.Neg), v22673], 24), (g22730, [(.bool x22723.Neg), v22728], 24), (g22740, [(.bool x22733.Neg), v22738], 24)] x, ⟨Stp.refl _ _, (OwnK.cons (hp.own 5 _ _ _ rfl).1 (OwnK.cons (hp.own 4 _ _ _ rfl).1 (OwnK.cons (hp.own 1 _ _ _ rfl).1 (OwnK.cons (hp.own 0 _ _ _ rfl).1 OwnK.nil))))⟩, fun x hx => ⟨hz.held hx.1, hx.2⟩, ?_⟩
    have hz := Stp.refl I23064 w23063
    refine vch_lt e51 rfl e48 rfl rfl rfl ?_
    obtain ⟨x23067, q23068, q22919⟩ := bind_some q22919
    refine ev_call rfl rfl C20 (((integer_Gcd_ok n) _ _  x23055 v23059 r23060 x23061 v23065 r23066 hp.imm _ q23068).mono ?_)
    rintro _ w23069 ⟨I23070, v23071, hv, hq, r23072⟩
    replace hv := hv.symm
    subst hv
    have hs := hq.st
    have hp := hp.join0 hq
    replace hz := hz.trans hs
    replace r22739 := r22739.step hs
    replace r22729 := r22729.step hs
    replace r22698 := r22698.step hs
    replace r22696 := r22696.step hs
    replace r22674 := r22674.step hs
    replace r22672 := r22672.step hs
    replace tb := tb.step hs
    refine ⟨fun x => Stp I23070 w23069 I23070 x ∧ OwnK [(g22675, [(.bool x22665.Neg), v22671], 24), (g22677, [(.bool x22666.Neg), v22673], 24), (g22730, [(.bool x22723.Neg), v22728], 24), (g22740, [(.bool x22733.Neg), v22738], 24)] x, ⟨Stp.refl _ _, (OwnK.cons (hp.own 5 _ _ _ rfl).1 (OwnK.cons (hp.own 4 _ _ _ rfl).1 (OwnK.cons (hp.own 1 _ _ _ rfl).1 (OwnK.cons (hp.own 0 _ _ _ rfl).1 OwnK.nil))))⟩, fun x hx => ⟨hz.held hx.1, hx.2⟩, ?_⟩
    have hz := Stp.refl I23070 w23069
    refine vch_lt e52 rfl e48 rfl rfl rfl ?_
    obtain ⟨x23073, q23074, q22919⟩ := bind_some q22919
    refine ev_call rfl rfl C45 (((ref01_Of_ok n) _ _  6 hp.imm _ q23074).mono ?_)
    rintro _ w23075 ⟨I23076, v23077, hv, hq, r23078⟩
    replace hv := hv.symm
    subst hv
    have hs := hq.st
    have hp := hp.join0 hq
    replace hz := hz.trans hs
    replace r23072 := r23072.step hs
    replace r22739 := r22739.step hs
    replace r22729 := r22729.step hs
    replace r22698 := r22698.step hs
    replace r22696 := r22696.step hs
    replace r22674 := r22674.step hs
    replace r22672 := r22672.step hs
    replace tb := tb.step hs
    refine ⟨fun x => Stp I23076 w23075 I23076 x ∧ OwnK [(g22675, [(.bool x22665.Neg), v22671], 24), (g22677, [(.bool x22666.Neg), v22673], 24), (g22730, [(.bool x22723.Neg), v22728], 24), (g22740, [(.bool x22733.Neg), v22738], 24)] x, ⟨Stp.refl _ _, (OwnK.cons (hp.own 5 _ _ _ rfl).1 (OwnK.cons (hp.own 4 _ _ _ rfl).1 (OwnK.cons (hp.own 1 _ _ _ rfl).1 (OwnK.cons (hp.own 0 _ _ _ rfl).1 OwnK.nil))))⟩, fun x hx => ⟨hz.held hx.1, hx.2⟩, ?_⟩
    have hz := Stp.refl I23076 w23075
    refine vch_lt e53 rfl e48 rfl rfl rfl ?_
    obtain ⟨x23079, q23080, q22919⟩ := bind_some q22919
    refine ev_call rfl rfl C21 (((ref01_Same_ok n) _ _  x23067 v23071 r23072 x23073 v23077 r23078 hp.imm _ q23080).mono ?_)
    rintro _ w23081 ⟨rfl, hc⟩
    have hs := hp.stp hc
    replace hp := hp.ext hc
    replace hz := hz.trans hs
    replace r22739 := r22739.step hs
    replace r22729 := r22729.step hs
    replace r22698 := r22698.step hs
    replace r22696 := r22696.step hs
    replace r22674 := r22674.step hs
    replace r22672 := r22672.step hs
    replace tb := tb.step hs
    refine ⟨fun x => Stp I23076 w23081 I23076 x ∧ OwnK [(g22675, [(.bool x22665.Neg), v22671], 24), (g22677, [(.bool x22666.Neg), v22673], 24), (g22730, [(.bool x22723.Neg), v22728], 24), (g22740, [(.bool x22733.Neg), v22738], 24)] x, ⟨Stp.refl _ _, (OwnK.cons (hp.own 5 _ _ _ rfl).1 (OwnK.cons (hp.own 4 _ _ _ rfl).1 (OwnK.cons (hp.own 1 _ _ _ rfl).1 (OwnK.cons (hp.own 0 _ _ _ rfl).1 OwnK.nil))))⟩, fun x hx => ⟨hz.held hx.1, hx.2⟩, ?_⟩
    have hz := Stp.refl I23076 w23081
    refine vch_q e54 rfl ?_
    refine vch_q e55 rfl ?_
    obtain ⟨q23082, _, q22919⟩ := need_some q22919
    refine vch_lt e56 rfl e55 rfl rfl q23082 ?_
    obtain ⟨x23083, q23084, q22919⟩ := bind_some q22919
    refine ev_call rfl rfl C18 (((integer_Of_ok n) _ _  (-8) hp.imm _ q23084).mono ?_)
    rintro _ w23085 ⟨I23086, v23087, hv, hq, r23088⟩
    replace hv := hv.symm
    subst hv
    have hs := hq.st
    have hp := hp.join0 hq
    replace hz := hz.trans hs
    replace r22739 := r22739.step hs
    replace r22729 := r22729.step hs
    replace r22698 := r22698.step hs
    replace r22696 := r22696.step hs
    replace r22674 := r22674.step hs
    replace r22672 := r22672.step hs
    replace tb := tb.step hs
    refine ⟨fun x => Stp I23086 w23085 I23086 x ∧ OwnK [(g22675, [(.bool x22665.Neg), v22671], 24), (g22677, [(.bool x22666.Neg), v22673], 24), (g22730, [(.bool x22723.Neg), v22728], 24), (g22740, [(.bool x22733.Neg), v22738], 24)] x, ⟨Stp.refl _ _, (OwnK.cons (hp.own 5 _ _ _ rfl).1 (OwnK.cons (hp.own 4 _ _ _ rfl).1 (OwnK.cons (hp.own 1 _ _ _ rfl).1 (OwnK.cons (hp.own 0 _ _ _ rfl).1 OwnK.nil))))⟩, fun x hx => ⟨hz.held hx.1, hx.2⟩, ?_⟩
    have hz := Stp.refl I23086 w23085
    refine vch_lt e57 rfl e55 rfl rfl rfl ?_
    obtain ⟨x23089, q23090, q22919⟩ := bind_some q22919
    refine ev_call rfl rfl C19 (((integer_Bits_ok n) _ _  x23083 v23087 r23088 hp.imm _ q23090).mono ?_)
    rintro _ w23091 ⟨rfl, hc⟩
    have hs := hp.stp hc
    replace hp := hp.ext hc
    replace hz := hz.trans hs
    replace r22739 := r22739.step hs
    replace r22729 := r22729.step hs
    replace r22698 := r22698.step hs
    replace r22696 := r22696.step hs
    replace r22674 := r22674.step hs
    replace r22672 := r22672.step hs
    replace tb := tb.step hs
    refine ⟨fun x => Stp I23086 w23091 I23086 x ∧ OwnK [(g22675, [(.bool x22665.Neg), v22671], 24), (g22677, [(.bool x22666.Neg), v22673], 24), (g22730, [(.bool x22723.Neg), v22728], 24), (g22740, [(.bool x22733.Neg), v22738], 24)] x, ⟨Stp.refl _ _, (OwnK.cons (hp.own 5 _ _ _ rfl).1 (OwnK.cons (hp.own 4 _ _ _ rfl).1 (OwnK.cons (hp.own 1 _ _ _ rfl).1 (OwnK.cons (hp.own 0 _ _ _ rfl).1 OwnK.nil))))⟩, fun x hx => ⟨hz.held hx.1, hx.2⟩, ?_⟩
    have hz := Stp.refl I23086 w23091
    refine vch_qt e58 rfl e55 rfl rfl rfl ?_
    refine vch_q e59 rfl ?_
    refine vch_q e60 rfl ?_
    refine vch_end ?_
    obtain rfl := Option.some.inj q22919
    have hp := hp.sel [] (by decide)
    exact ⟨((x23089 == 4), I23086), (.c rfl .n), rfl, hp, tb⟩
  ·
    rintro ⟨x22915, I22916⟩ w22917 ⟨hy, hp, tb⟩
    replace hy := hy.symm
    subst hy
    apply go
    obtain rfl := Option.some.inj h
    exact ⟨rfl, hp.ch⟩

end Go.Proofs.YthhghkcopfnbiaaGreatDoor

namespace Go.Proofs.YthhghkcopfnbiaaGreatDoor
open Go Go.Proofs.YthhghkcopfnbiaaGreatDoor.Gw Go.RowKit
set_option linter.unusedVariables false
attribute [local irreducible] Ev EvQ EvS EvH
def ref01_Text_S (f : Int_2 → Option ByteArray) : Prop := ∀ (w0 : World) (I0 : Nat → Prop) (x25990 : Int_2) (v25991 : Value) (r25992 : RepS (dI .u32) w0 I0 v25991 x25990.Mag) (hI : ∀ g, I0 g → g < w0.heap.size) (r : ByteArray), f x25990 = some r →
    Ret Tryz.prog 27 #[(.agg #[(.bool x25990.Neg), v25991])] w0 fun v w1 => v = (.string r) ∧ Ch [] w0 w1
theorem ref01_Text_ok (n : Nat) : ref01_Text_S (ref01_Text n) := by
  intro w0 I0 x25990 v25991 r25992 hI r h
  unfold ref01_Text at h
  refine enter Tryz.func27 rfl (Nat.le_of_ble_eq_true rfl) ?_
  have hp : Hp ⟨w0, I0, []⟩ I0 [] w0 := Hp.start hI
  apply go
  apply go
  refine ev_boxI hp rfl rfl ?_
  intro p25995 I25996 w25994 hp hs a25997
  replace r25992 := r25992.step hs
  apply go
  apply go
  apply go
  apply go
  refine ev0 (rn_field rfl rfl FO24_1) ?_
  refine ev (rn_load rfl rfl (run_loadVar1 T22 (a25997.2 1 _ rfl))) ?_
  obtain ⟨x25998, q25999, h⟩ := bind_some h
  refine ev_call rfl rfl C47 (((ref01_trim_ok n) _ _  x25990.Mag v25991 r25992 hp.imm _ q25999).mono ?_)
  rintro _ w26000 ⟨I26001, v26002, e26003, hv, hq, o26004⟩
  replace hv := hv.symm
  subst hv
  have hs := hq.st
  have hp := hp.join0 hq
  replace a25997 := a25997.step hs
  replace r25992 := r25992.step hs
  obtain ⟨y26568, q26569, h⟩ := bind_some h
  refine W.cut (γ := (ByteArray × (Nat → Prop))) (fun g => [(1, (.pointer (some (p25995)))), (3, (.string (g.1)))]) (fun g w' => y26568 = (g.1) ∧ Hp ⟨w0, I0, []⟩ (g.2) [] w' ∧ RepS (dI .u32) w' (g.2) v25991 x25990.Mag ∧ At w' (g.2) p25995 [(.bool x25990.Neg), v25991]) ?_ ?_
  ·
    apply go
    refine W.loop q26569 (γ := (Value × Ent × (Nat → Prop))) (fun s g => [(1, (.pointer (some (p25995)))), (3, (.string (s.1))), (4, (g.1))]) (fun s g w' => Hp ⟨w0, I0, []⟩ (g.2.2) [(g.2.1)] w' ∧ RepS (dI .u32) w' (g.2.2) v25991 x25990.Mag ∧ At w' (g.2.2) p25995 [(.bool x25990.Neg), v25991] ∧ OwnS (dI .u32) 45 w' (g.2.2) (g.1) (g.2.1) (s.2)) (v26002, e26003, I26001) (.c rfl (.c rfl (.c rfl .n))) ⟨hp, r25992, a25997, o26004⟩ ?_
    rintro ⟨x26751, x26752⟩ ⟨v26753, e26754, I26756⟩ w26944 y26945 ⟨hp, r25992, a25997, o26755⟩ q26946 q26947
    unfold ref01_Text_L11 at q26946
    apply go
    apply go
    apply go
    refine ev0 (x_lenO rfl rfl Tryz.underlying22 o26755) ?_
    apply go
    refine sel_of (fun hc => ?_) (fun hc => ?_)
    ·
      have q26946 := cond_t q26946 hc
      apply go
      apply go
      apply go
      apply go
      obtain ⟨y27034, q27035, q26946⟩ := bind_some q26946
      refine W.cut (γ := ((List Int) × Int × Ent)) (fun g => [(1, (.pointer (some (p25995)))), (3, (.string x26751)), (4, v26753), (5, (.int .u64 (g.2.1)))]) (fun g w' => y27034 = ((g.1), (g.2.1)) ∧ Hp ⟨w0, I0, []⟩ I26756 [(g.2.2)] w' ∧ RepS (dI .u32) w' I26756 v25991 x25990.Mag ∧ At w' I26756 p25995 [(.bool x25990.Neg), v25991] ∧ OwnS (dI .u32) 45 w' I26756 v26753 (g.2.2) (g.1)) ?_ ?_
      ·
        apply go
        apply go
        refine ev0 (x_lenO rfl rfl Tryz.underlying22 o26755) ?_
        apply go
        refine W.loop q27035 (γ := Ent) (fun s g => [(1, (.pointer (some (p25995)))), (3, (.string x26751)), (4, v26753), (5, (.int .u64 (s.2.1))), (6, (.int .i64 (s.2.2)))]) (fun s g w' => Hp ⟨w0, I0, []⟩ I26756 [(g)] w' ∧ RepS (dI .u32) w' I26756 v25991 x25990.Mag ∧ At w' I26756 p25995 [(.bool x25990.Neg), v25991] ∧ OwnS (dI .u32) 45 w' I26756 v26753 (g) (s.1)) e26754 (.c rfl (.c rfl (.c rfl (.c rfl (.c rfl .n))))) ⟨hp, r25992, a25997, o26755⟩ ?_
        rintro ⟨x27057, x27061, x27062⟩ e27059 w27090 y27091 ⟨hp, r25992, a25997, o27060⟩ q27092 q27093
        unfold ref01_Text_L13 at q27092
        apply go
        apply go
        apply go
        apply go
        refine sel_of (fun hc => ?_) (fun hc => ?_)
        ·
          have q27092 := cond_t q27092 hc
          apply go
          apply go
          apply go
          apply go
          apply go
          obtain ⟨x27094, q27095, q27092⟩ := bind_some q27092
          refine ev_indexO rfl rfl rfl Tryz.underlying22 T45 o27060 q27095 ?_
          intro g27096 c27097 h27100 d27098 l27099
          refine ev (rn_load rfl rfl (run_loadVar1 T45 (hp.cellE (i := 0) rfl h27100 d27098 (j := 0) rfl))) ?_
          refine ev0 (rn_conv rfl rfl U45 Tryz.underlying49) ?_
          apply go
          apply go
          refine ⟨by decide, ?_⟩
          refine ev0 (rn_conv rfl rfl U49 Tryz.underlying45) ?_
          obtain ⟨x27102, q27103, q27092⟩ := bind_some q27092
          refine ev_indexO rfl rfl rfl Tryz.underlying22 T45 o27060 q27103 ?_
          intro g27104 c27105 h27108 d27106 l27107
          refine ev_storeE hp (i := 0) rfl h27108 rfl rfl rfl T45 o27060 q27103 (x0 := (IntKind.u32.wrap (IntKind.u64.wrap ((IntKind.u64.wrap ((IntKind.u64.wrap (x27061 * 4294967296)) + (IntKind.u64.wrap x27094))).tdiv 10)))) rfl ?_
          intro e27111 w27110 hp hs o27112
          replace a25997 := a25997.step hs
          replace r25992 := r25992.step hs
          apply go
          refine ⟨by decide, ?_⟩
          apply go
          exact ⟨_, (Option.some.inj q27092).symm, e27111, (.c rfl (.c rfl (.c rfl (.c rfl (.c rfl .n))))), ⟨hp, r25992, a25997, o27112⟩⟩
        ·
          have q27092 := cond_f q27092 hc
          apply go
          have q27115 := congrArg some (q27093 _ (Option.some.inj q27092).symm)
          obtain rfl := Option.some.inj q27115
          exact ⟨(x27057, x27061, e27059), (.c rfl (.c rfl (.c rfl (.c rfl .n)))), rfl, hp, r25992, a25997, o27060⟩
      ·
        rintro ⟨x27028, x27032, e27030⟩ w27033 ⟨hy, hp, r25992, a25997, o27031⟩
        replace hy := hy.symm
        subst hy
        apply go
        apply go
        refine ev0 (rn_conv rfl rfl U49 Tryz.underlying5) ?_
        refine ev_litN (d := (dI .u8)) (xs := [(IntKind.u8.wrap (IntKind.u64.wrap (48 + x27032)))]) (cs := [(.int .u8 (IntKind.u8.wrap (IntKind.u64.wrap (48 + x27032))))]) hp rfl rfl Tryz.underlying70 T5 (by decide) rfl rfl (Elems.cons (d := (dI .u8)) (xs := _) rfl (Elems.nil _ _ _ _)) ?_
        intro v27116 I27118 w27117 hp hs r27119
        replace a25997 := a25997.step hs
        replace r25992 := r25992.step hs
        replace o27031 := o27031.step hs
        refine ev (rn_bstr rfl rfl Tryz.underlying70 Tryz.underlying5 Tryz.underlying9 r27119) ?_
        obtain ⟨q27120, _, q26946⟩ := need_some q26946
        refine ⟨q27120, ?_⟩
        apply go
        have r27121 := o27031.frz hp (i := 0) rfl
        obtain ⟨hp, hs⟩ := freeze_hp hp (i := 0) rfl
        replace a25997 := a25997.step hs
        replace r25992 := r25992.step hs
        have hp := hp.sel [] (by decide)
        obtain ⟨x27122, q27123, q26946⟩ := bind_some q26946
        refine ev_call rfl rfl C47 (((ref01_trim_ok n) _ _  x27028 v26753 r27121 hp.imm _ q27123).mono ?_)
        rintro _ w27124 ⟨I27125, v27126, e27127, hv, hq, o27128⟩
        replace hv := hv.symm
        subst hv
        have hs := hq.st
        have hp := hp.join0 hq
        replace a25997 := a25997.step hs
        replace r25992 := r25992.step hs
        exact ⟨_, (Option.some.inj q26946).symm, (v27126, e27127, I27125), (.c rfl (.c rfl (.c rfl .n))), ⟨hp, r25992, a25997, o27128⟩⟩
    ·
      have q26946 := cond_f q26946 hc
      apply go
      have q27129 := congrArg some (q26947 _ (Option.some.inj q26946).symm)
      obtain rfl := Option.some.inj q27129
      have hp := hp.sel [] (by decide)
      exact ⟨(x26751, I26756), (.c rfl (.c rfl .n)), rfl, hp, r25992, a25997⟩
  ·
    rintro ⟨x26565, I26566⟩ w26567 ⟨hy, hp, r25992, a25997⟩
    replace hy := hy.symm
    subst hy
    apply go
    apply go
    apply go
    apply go
    refine sel_of (fun hc => ?_) (fun hc => ?_)
    ·
      have h := cond_t h hc
      apply go
      apply go
      apply go
      obtain rfl := Option.some.inj h
      exact ⟨rfl, hp.ch⟩
    ·
      have h := cond_f h hc
      apply go
      apply go
      apply go
      apply go
      refine ev0 (rn_field rfl rfl FO24_0) ?_
      refine ev (rn_load rfl rfl (run_loadVar1 T4 (a25997.2 0 _ rfl))) ?_
      apply go
      refine sel_of (fun hc => ?_) (fun hc => ?_)
      ·
        have h := cond_t h hc
        apply go
        apply go
        obtain ⟨q27130, _, h⟩ := need_some h
        refine ⟨q27130, ?_⟩
        apply go
        obtain rfl := Option.some.inj h
        exact ⟨rfl, hp.ch⟩
      ·
        have h := cond_f h hc
        apply go
        apply go
        apply go
        apply go
        obtain rfl := Option.some.inj h
        exact ⟨rfl, hp.ch⟩

end Go.Proofs.YthhghkcopfnbiaaGreatDoor

namespace Go.Proofs.YthhghkcopfnbiaaGreatDoor
open Go Go.Proofs.YthhghkcopfnbiaaGreatDoor.Gw Go.RowKit
set_option linter.unusedVariables false
attribute [local irreducible] Ev EvQ EvS EvH
def ref01_Parse_S (f : ByteArray → Option (Int_2 × Int)) : Prop := ∀ (w0 : World) (I0 : Nat → Prop) (x27224 : ByteArray) (hI : ∀ g, I0 g → g < w0.heap.size) (r : (Int_2 × Int)), f x27224 = some r →
    Ret Tryz.prog 29 #[(.string x27224)] w0 fun v w1 => ∃ (I1 : Nat → Prop) (u27225 : Value), v = (.tuple #[(.agg #[(.bool r.1.Neg), u27225]), (.int .i64 r.2)]) ∧ Hp ⟨w0, I0, []⟩ I1 [] w1 ∧ RepS (dI .u32) w1 I1 u27225 r.1.Mag
theorem ref01_Parse_ok (n : Nat) : ref01_Parse_S (ref01_Parse n) := by
  intro w0 I0 x27224 hI r h
  unfold ref01_Parse at h
  refine enter Tryz.func29 rfl (Nat.le_of_ble_eq_true rfl) ?_
  have hp : Hp ⟨w0, I0, []⟩ I0 [] w0 := Hp.start hI
  apply go
  apply go
  refine ev_alloc hp rfl T24 ?_
  intro g27226 w27227 hp hs
  apply go
  apply go
  apply go
  refine ev0 (rn_lenS rfl rfl Tryz.underlying9) ?_
  apply go
  refine sel_of (fun hc => ?_) (fun hc => ?_)
  ·
    have h := cond_t h hc
    apply go
    apply go
    refine ev0 (fun w => rn_build (cs := [(.bool false), (.slice none 0 0)]) rfl rfl T24 PL24 rfl) ?_
    refine ev_storeA hp (i := 0) (off := 0) (vs := [(.bool false), (.slice none 0 0)]) rfl rfl rfl rfl T24 rfl (Nat.le_of_ble_eq_true rfl) (ones_of rfl) ?_
    intro w27228 hp hs
    apply go
    obtain rfl := Option.some.inj h
    refine ⟨_, run_loadVarA T24 rfl (hp.at_ (i := 0) rfl), ?_⟩
    have hp := hp.sel [] (by decide)
    exact ⟨I0, .slice none 0 0, rfl, hp, RepS.nil _ _ _⟩
  ·
    have h := cond_f h hc
    apply go
    apply go
    apply go
    have hp := hp.none_
    have o27229 := OwnS.nil (dI .u32) 45 w27227 I0
    apply go
    apply go
    obtain ⟨y27238, q27239, h⟩ := bind_some h
    refine W.cut (γ := Int) (fun g => [(0, (.string x27224)), (2, (.pointer (some ⟨g27226, 0, none⟩))), (4, (.slice none 0 0)), (5, (.int .i64 (g)))]) (fun g w' => y27238 = (g) ∧ w27227 = w') ?_ ?_
    ·
      obtain ⟨y27243, q27244, q27239⟩ := bind_some q27239
      refine W.cut (γ := Bool) (fun g => [(0, (.string x27224)), (2, (.pointer (some ⟨g27226, 0, none⟩))), (4, (.slice none 0 0)), (5, (.int .i64 0)), (21, (.bool (g)))]) (fun g w' => y27243 = (g) ∧ w27227 = w') ?_ ?_
      ·
        apply go
        refine ev0 (rn_lenS rfl rfl Tryz.underlying9) ?_
        refine sel_of (fun hc => ?_) (fun hc => ?_)
        ·
          have q27244 := cond_t q27244 hc
          obtain ⟨x27245, q27246, q27244⟩ := bind_some q27244
          refine ev0 (rn_indexS rfl rfl rfl Tryz.underlying9 q27246) ?_
          obtain rfl := Option.some.inj q27244
          exact ⟨(x27245 == 45), (.c rfl (.c rfl (.c rfl (.c rfl (.c rfl .n))))), rfl, rfl⟩
        ·
          have q27244 := cond_f q27244 hc
          obtain rfl := Option.some.inj q27244
          exact ⟨false, (.c rfl (.c rfl (.c rfl (.c rfl (.c rfl .n))))), rfl, rfl⟩
      ·
        rintro x27242 _ ⟨hy, rfl⟩
        replace hy := hy.symm
        subst hy
        apply go
        refine sel_of (fun hc => ?_) (fun hc => ?_)
        ·
          have q27239 := cond_t q27239 hc
          apply go
          obtain rfl := Option.some.inj q27239
          exact ⟨1, (.c rfl (.c rfl (.c rfl (.c rfl .n)))), rfl, rfl⟩
        ·
          have q27239 := cond_f q27239 hc
          apply go
          obtain rfl := Option.some.inj q27239
          exact ⟨0, (.c rfl (.c rfl (.c rfl (.c rfl .n)))), rfl, rfl⟩
    ·
      rintro x27237 _ ⟨hy, rfl⟩
      replace hy := hy.symm
      subst hy
      obtain ⟨y28447, q28448, h⟩ := bind_some h
      refine W.cut (γ := ((List Int) × Value × Ent × (Nat → Prop))) (fun g => [(0, (.string x27224)), (2, (.pointer (some ⟨g27226, 0, none⟩))), (4, (g.2.1)), (5, (.int .i64 x27237))]) (fun g w' => y28447 = .go (g.1) ∧ Hp ⟨w0, I0, []⟩ (g.2.2.2) [some (g27226, [(.bool false), (.slice none 0 0)], 24), (g.2.2.1)] w' ∧ OwnS (dI .u32) 45 w' (g.2.2.2) (g.2.1) (g.2.2.1) (g.1)) ?_ ?_
      ·
        apply go
        apply go
        apply go
        have hp := hp.perm [1, 0] (by decide)
        refine W.loop q28448 (γ := (Value × Ent × (Nat → Prop))) (fun s g => [(0, (.string x27224)), (2, (.pointer (some ⟨g27226, 0, none⟩))), (4, (g.1)), (5, (.int .i64 x27237)), (6, (.int .i64 (s.2)))]) (fun s g w' => Hp ⟨w0, I0, []⟩ (g.2.2) [some (g27226, [(.bool false), (.slice none 0 0)], 24), (g.2.1)] w' ∧ OwnS (dI .u32) 45 w' (g.2.2) (g.1) (g.2.1) (s.1)) ((.slice none 0 0), none, I0) (.c rfl (.c rfl (.c rfl (.c rfl (.c rfl .n))))) ⟨hp, o27229⟩ ?_
        rintro ⟨x28841, x28845⟩ ⟨v28842, e28843, I28846⟩ w29245 y29246 ⟨hp, o28844⟩ q29247 q29248
        unfold ref01_Parse_L21 at q29247
        apply go
        apply go
        apply go
        refine ev0 (rn_lenS rfl rfl Tryz.underlying9) ?_
        apply go
        refine sel_of (fun hc => ?_) (fun hc => ?_)
        ·
          have q29247 := cond_t q29247 hc
          apply go
          obtain ⟨y29447, q29448, q29247⟩ := bind_some q29247
          refine W.cut (γ := ((List Int) × Value × Ent × (Nat → Prop))) (fun g => [(0, (.string x27224)), (2, (.pointer (some ⟨g27226, 0, none⟩))), (4, (g.2.1)), (5, (.int .i64 x27237)), (6, (.int .i64 x28845))]) (fun g w' => y29447 = .go (g.1) ∧ Hp ⟨w0, I0, []⟩ (g.2.2.2) [some (g27226, [(.bool false), (.slice none 0 0)], 24), (g.2.2.1)] w' ∧ OwnS (dI .u32) 45 w' (g.2.2.2) (g.2.1) (g.2.2.1) (g.1)) ?_ ?_
          ·
            apply go
            apply go
            obtain ⟨y29454, q29455, q29448⟩ := bind_some q29448
            refine W.cut (γ := Bool) (fun g => [(0, (.string x27224)), (2, (.pointer (some ⟨g27226, 0, none⟩))), (4, v28842), (5, (.int .i64 x27237)), (6, (.int .i64 x28845)), (38, (.bool (g)))]) (fun g w' => y29454 = (g) ∧ w29245 = w') ?_ ?_
            ·
              apply go
              obtain ⟨x29456, q29457, q29455⟩ := bind_some q29455
              refine ev0 (rn_indexS rfl rfl rfl Tryz.underlying9 q29457) ?_
              refine sel_of (fun hc => ?_) (fun hc => ?_)
              ·
                have q29455 := cond_t q29455 hc
                obtain rfl := Option.some.inj q29455
                exact ⟨true, (.c rfl (.c rfl (.c rfl (.c rfl (.c rfl (.c rfl .n)))))), rfl, rfl⟩
              ·
                have q29455 := cond_f q29455 hc
                obtain ⟨x29458, q29459, q29455⟩ := bind_some q29455
                refine ev0 (rn_indexS rfl rfl rfl Tryz.underlying9 q29459) ?_
                obtain rfl := Option.some.inj q29455
                exact ⟨(decide (x29458 > 57)), (.c rfl (.c rfl (.c rfl (.c rfl (.c rfl (.c rfl .n)))))), rfl, rfl⟩
            ·
              rintro x29453 _ ⟨hy, rfl⟩
              replace hy := hy.symm
              subst hy
              apply go
              refine sel_of (fun hc => ?_) (fun hc => ?_)
              ·
                have q29448 := cond_t q29448 hc
                apply go
                apply go
                refine ev0 (fun w => rn_build (cs := [(.bool false), (.slice none 0 0)]) rfl rfl T24 PL24 rfl) ?_
                refine ev_storeA hp (i := 0) (off := 0) (vs := [(.bool false), (.slice none 0 0)]) rfl rfl rfl rfl T24 rfl (Nat.le_of_ble_eq_true rfl) (ones_of rfl) ?_
                intro w29460 hp hs
                apply go
                obtain rfl := Option.some.inj q29448
                have q29461 := congrArg some (q29248 _ (Option.some.inj q29247).symm)
                obtain rfl := Option.some.inj q29461
                obtain rfl := Option.some.inj h
                refine ⟨_, run_loadVarA T24 rfl (hp.at_ (i := 0) rfl), ?_⟩
                have hp := hp.sel [] (by decide)
                exact ⟨I28846, .slice none 0 0, rfl, hp, RepS.nil _ _ _⟩
              ·
                have q29448 := cond_f q29448 hc
                apply go
                apply go
                apply go
                obtain ⟨x29462, q29463, q29448⟩ := bind_some q29448
                refine ev0 (rn_indexS rfl rfl rfl Tryz.underlying9 q29463) ?_
                refine ev0 (rn_conv rfl rfl U5 Tryz.underlying49) ?_
                obtain ⟨y29550, q29551, q29448⟩ := bind_some q29448
                refine W.cut (γ := ((List Int) × Int × Ent)) (fun g => [(0, (.string x27224)), (2, (.pointer (some ⟨g27226, 0, none⟩))), (4, v28842), (5, (.int .i64 x27237)), (6, (.int .i64 x28845)), (7, (.int .u64 (g.2.1)))]) (fun g w' => y29550 = ((g.1), (g.2.1)) ∧ Hp ⟨w0, I0, []⟩ I28846 [some (g27226, [(.bool false), (.slice none 0 0)], 24), (g.2.2)] w' ∧ OwnS (dI .u32) 45 w' I28846 v28842 (g.2.2) (g.1)) ?_ ?_
                ·
                  apply go
                  apply go
                  apply go
                  refine W.loop q29551 (γ := Ent) (fun s g => [(0, (.string x27224)), (2, (.pointer (some ⟨g27226, 0, none⟩))), (4, v28842), (5, (.int .i64 x27237)), (6, (.int .i64 x28845)), (7, (.int .u64 (s.2.1))), (8, (.int .i64 (s.2.2)))]) (fun s g w' => Hp ⟨w0, I0, []⟩ I28846 [some (g27226, [(.bool false), (.slice none 0 0)], 24), (g)] w' ∧ OwnS (dI .u32) 45 w' I28846 v28842 (g) (s.1)) e28843 (.c rfl (.c rfl (.c rfl (.c rfl (.c rfl (.c rfl (.c rfl .n))))))) ⟨hp, o28844⟩ ?_
                  rintro ⟨x29573, x29577, x29578⟩ e29575 w29606 y29607 ⟨hp, o29576⟩ q29608 q29609
                  unfold ref01_Parse_L25 at q29608
                  apply go
                  apply go
                  apply go
                  refine ev0 (x_lenO rfl rfl Tryz.underlying22 o29576) ?_
                  apply go
                  refine sel_of (fun hc => ?_) (fun hc => ?_)
                  ·
                    have q29608 := cond_t q29608 hc
                    apply go
                    apply go
                    apply go
                    apply go
                    apply go
                    obtain ⟨x29610, q29611, q29608⟩ := bind_some q29608
                    refine ev_indexO rfl rfl rfl Tryz.underlying22 T45 o29576 q29611 ?_
                    intro g29612 c29613 h29616 d29614 l29615
                    refine ev (rn_load rfl rfl (run_loadVar1 T45 (hp.cellE (i := 1) rfl h29616 d29614 (j := 0) rfl))) ?_
                    refine ev0 (rn_conv rfl rfl U45 Tryz.underlying49) ?_
                    apply go
                    apply go
                    refine ev0 (rn_conv rfl rfl U49 Tryz.underlying45) ?_
                    obtain ⟨x29618, q29619, q29608⟩ := bind_some q29608
                    refine ev_indexO rfl rfl rfl Tryz.underlying22 T45 o29576 q29619 ?_
                    intro g29620 c29621 h29624 d29622 l29623
                    refine ev_storeE hp (i := 1) rfl h29624 rfl rfl rfl T45 o29576 q29619 (x0 := (IntKind.u32.wrap (IntKind.u64.wrap (x29577 + (IntKind.u64.wrap ((IntKind.u64.wrap x29610) * 10)))))) rfl ?_
                    intro e29627 w29626 hp hs o29628
                    apply go
                    refine ⟨by decide, ?_⟩
                    apply go
                    exact ⟨_, (Option.some.inj q29608).symm, e29627, (.c rfl (.c rfl (.c rfl (.c rfl (.c rfl (.c rfl (.c rfl .n))))))), ⟨hp, o29628⟩⟩
                  ·
                    have q29608 := cond_f q29608 hc
                    apply go
                    have q29631 := congrArg some (q29609 _ (Option.some.inj q29608).symm)
                    obtain rfl := Option.some.inj q29631
                    exact ⟨(x29573, x29577, e29575), (.c rfl (.c rfl (.c rfl (.c rfl (.c rfl (.c rfl .n)))))), rfl, hp, o29576⟩
                ·
                  rintro ⟨x29544, x29548, e29546⟩ w29549 ⟨hy, hp, o29547⟩
                  replace hy := hy.symm
                  subst hy
                  apply go
                  apply go
                  apply go
                  refine sel_of (fun hc => ?_) (fun hc => ?_)
                  ·
                    have q29448 := cond_t q29448 hc
                    apply go
                    refine ev0 (rn_conv rfl rfl U49 Tryz.underlying45) ?_
                    refine ev_litN (d := (dI .u32)) (xs := [(IntKind.u32.wrap x29548)]) (cs := [(.int .u32 (IntKind.u32.wrap x29548))]) hp rfl rfl Tryz.underlying22 T45 (by decide) rfl rfl (Elems.cons (d := (dI .u32)) (xs := _) rfl (Elems.nil _ _ _ _)) ?_
                    intro v29632 I29634 w29633 hp hs r29635
                    replace o29547 := o29547.step hs
                    obtain ⟨x29636, q29637, q29448⟩ := bind_some q29448
                    refine ev_append hp (i := 1) rfl rfl rfl rfl Tryz.underlying22 T45 rfl rfl o29547 r29635 q29637 ?_
                    rintro v29638 e29639 w29640 hp hs o29641
                    obtain rfl := Option.some.inj q29448
                    exact ⟨(x29636, v29638, e29639, I29634), (.c rfl (.c rfl (.c rfl (.c rfl (.c rfl .n))))), rfl, hp, o29641⟩
                  ·
                    have q29448 := cond_f q29448 hc
                    apply go
                    obtain rfl := Option.some.inj q29448
                    exact ⟨(x29544, v28842, e29546, I28846), (.c rfl (.c rfl (.c rfl (.c rfl (.c rfl .n))))), rfl, hp, o29547⟩
          ·
            rintro ⟨x29441, v29442, e29443, I29445⟩ w29446 ⟨hy, hp, o29444⟩
            replace hy := hy.symm
            subst hy
            apply go
            exact ⟨_, (Option.some.inj q29247).symm, (v29442, e29443, I29445), (.c rfl (.c rfl (.c rfl (.c rfl (.c rfl .n))))), ⟨hp, o29444⟩⟩
        ·
          have q29247 := cond_f q29247 hc
          apply go
          have q29642 := congrArg some (q29248 _ (Option.some.inj q29247).symm)
          obtain rfl := Option.some.inj q29642
          exact ⟨(x28841, v28842, e28843, I28846), (.c rfl (.c rfl (.c rfl (.c rfl .n)))), rfl, hp, o28844⟩
      ·
        rintro ⟨x28441, v28442, e28443, I28445⟩ w28446 ⟨hy, hp, o28444⟩
        replace hy := hy.symm
        subst hy
        apply go
        apply go
        obtain ⟨A29643, m29644, m29645, rfl⟩ := o28444.isSl
        refine ev0 (fun w => rn_build (cs := [(.bool (x27237 == 1)), (.slice A29643 m29644 m29645)]) rfl rfl T24 PL24 rfl) ?_
        have r29647 := o28444.frz hp (i := 1) rfl
        obtain ⟨hp, hs⟩ := freeze_hp hp (i := 1) rfl
        have hp := hp.sel [0] (by decide)
        obtain ⟨x29648, q29649, h⟩ := bind_some h
        refine ev_call rfl rfl C28 (((ref01_Norm_ok n) _ _  (Int_2.mk (x27237 == 1) x28441) (.slice A29643 m29644 m29645) r29647 hp.imm _ q29649).mono ?_)
        rintro _ w29650 ⟨I29651, v29652, hv, hq, r29653⟩
        replace hv := hv.symm
        subst hv
        have hs := hq.st
        have hp := hp.join0 hq
        refine ev_alloc hp rfl T24 ?_
        intro g29654 w29655 hp hs
        replace r29653 := r29653.step hs
        refine ev_storeA hp (i := 0) (off := 0) (vs := [(.bool x29648.Neg), v29652]) rfl rfl rfl rfl T24 rfl (Nat.le_of_ble_eq_true rfl) (ones_cons rfl (ones_cons r29653.one ones_nil)) ?_
        intro w29656 hp hs
        replace r29653 := r29653.step hs
        apply go
        apply go
        apply go
        refine ev (rn_load rfl rfl (run_loadVarA T24 rfl (hp.at_ (i := 0) rfl))) ?_
        obtain ⟨x29657, q29658, h⟩ := bind_some h
        refine ev_call rfl rfl C27 (((ref01_Text_ok n) _ _  (Int_2.mk x29648.Neg x29648.Mag) v29652 r29653 hp.imm _ q29658).mono ?_)
        rintro _ w29659 ⟨rfl, hc⟩
        have hs := hp.stp hc
        replace hp := hp.ext hc
        replace r29653 := r29653.step hs
        apply go
        refine sel_of (fun hc => ?_) (fun hc => ?_)
        ·
          have h := cond_t h hc
          apply go
          apply go
          refine ev0 (fun w => rn_build (cs := [(.bool false), (.slice none 0 0)]) rfl rfl T24 PL24 rfl) ?_
          refine ev_storeA hp (i := 1) (off := 0) (vs := [(.bool false), (.slice none 0 0)]) rfl rfl rfl rfl T24 rfl (Nat.le_of_ble_eq_true rfl) (ones_of rfl) ?_
          intro w29660 hp hs
          replace r29653 := r29653.step hs
          apply go
          obtain rfl := Option.some.inj h
          refine ⟨_, run_loadVarA T24 rfl (hp.at_ (i := 1) rfl), ?_⟩
          have hp := hp.sel [] (by decide)
          exact ⟨I29651, .slice none 0 0, rfl, hp, RepS.nil _ _ _⟩
        ·
          have h := cond_f h hc
          apply go
          apply go
          apply go
          refine ev (rn_load rfl rfl (run_loadVarA T24 rfl (hp.at_ (i := 0) rfl))) ?_
          refine ev_storeA hp (i := 1) (off := 0) (vs := [(.bool x29648.Neg), v29652]) rfl rfl rfl rfl T24 rfl (Nat.le_of_ble_eq_true rfl) (ones_cons rfl (ones_cons r29653.one ones_nil)) ?_
          intro w29661 hp hs
          replace r29653 := r29653.step hs
          apply go
          obtain rfl := Option.some.inj h
          refine ⟨_, run_loadVarA T24 rfl (hp.at_ (i := 1) rfl), ?_⟩
          have hp := hp.sel [] (by decide)
          exact ⟨I29651, v29652, rfl, hp, r29653⟩

end Go.Proofs.YthhghkcopfnbiaaGreatDoor

namespace Go.Proofs.YthhghkcopfnbiaaGreatDoor
open Go Go.Proofs.YthhghkcopfnbiaaGreatDoor.Gw Go.RowKit
set_option linter.unusedVariables false
attribute [local irreducible] Ev EvQ EvS EvH vch
def law01_IntegerParses_S (f : ByteArray → Option Bool) : Prop := ∀ (w0 : World) (I0 : Nat → Prop) (tb : Tb w0 I0 1 .u64 pow10) (x29662 : ByteArray) (hI : ∀ g, I0 g → g < w0.heap.size) (r : Bool), f x29662 = some r →
    Ret Tryz.prog 6 #[(.string x29662)] w0 fun v w1 => v = (.bool r) ∧ Ch [] w0 w1
theorem law01_IntegerParses_ok (n : Nat) : law01_IntegerParses_S (law01_IntegerParses n) := by
  intro w0 I0 tb x29662 hI r h
  unfold law01_IntegerParses at h
  refine enter Tryz.func6 rfl (Nat.le_of_ble_eq_true rfl) ?_
  have hp : Hp ⟨w0, I0, []⟩ I0 [] w0 := Hp.start hI
  apply go
  apply go
  apply go
  obtain ⟨y29668, q29669, h⟩ := bind_some h
  refine W.cut (γ := Bool) (fun g => [(0, (.string x29662)), (13, (.bool (g)))]) (fun g w' => y29668 = (g) ∧ Hp ⟨w0, I0, []⟩ I0 [] w' ∧ Tb w' I0 1 .u64 pow10) ?_ ?_
  ·
    apply go
    obtain ⟨x29670, q29671, q29669⟩ := bind_some q29669
    refine ev_call rfl rfl C13 (((law01_awake_ok n) _ _ tb  hp.imm _ q29671).mono ?_)
    rintro _ w29672 ⟨rfl, hc⟩
    have hs := hp.stp hc
    replace hp := hp.ext hc
    replace tb := tb.step hs
    refine sel_of (fun hc => ?_) (fun hc => ?_)
    ·
      have q29669 := cond_t q29669 hc
      obtain rfl := Option.some.inj q29669
      exact ⟨true, (.c rfl (.c rfl .n)), rfl, hp, tb⟩
    ·
      have q29669 := cond_f q29669 hc
      refine ev0 (rn_lenS rfl rfl Tryz.underlying9) ?_
      obtain rfl := Option.some.inj q29669
      exact ⟨(decide ((x29662.size : Int) > 2100)), (.c rfl (.c rfl .n)), rfl, hp, tb⟩
  ·
    rintro x29666 w29667 ⟨hy, hp, tb⟩
    replace hy := hy.symm
    subst hy
    apply go
    refine sel_of (fun hc => ?_) (fun hc => ?_)
    ·
      have h := cond_t h hc
      apply go
      apply go
      obtain ⟨x29673, q29674, h⟩ := bind_some h
      refine ev_call rfl rfl C13 (((law01_awake_ok n) _ _ tb  hp.imm _ q29674).mono ?_)
      rintro _ w29675 ⟨rfl, hc⟩
      have hs := hp.stp hc
      replace hp := hp.ext hc
      replace tb := tb.step hs
      apply go
      obtain rfl := Option.some.inj h
      exact ⟨rfl, hp.ch⟩
    ·
      have h := cond_f h hc
      apply go
      apply go
      apply go
      obtain ⟨⟨x29676, x29677⟩, q29678, h⟩ := bind_some h
      refine ev_call rfl rfl C26 (((integer_Parse_ok n) _ _ tb x29662 hp.imm _ q29678).mono ?_)
      rintro _ w29679 ⟨I29680, v29681, hv, hq, r29682⟩
      replace hv := hv.symm
      subst hv
      have hs := hq.st
      have hp := hp.join0 hq
      replace tb := tb.step hs
      refine ev_alloc hp rfl T24 ?_
      intro g29683 w29684 hp hs
      replace r29682 := r29682.step hs
      replace tb := tb.step hs
      refine ev_storeA hp (i := 0) (off := 0) (vs := [(.bool x29676.Neg), v29681]) rfl rfl rfl rfl T24 rfl (Nat.le_of_ble_eq_true rfl) (ones_cons rfl (ones_cons r29682.one ones_nil)) ?_
      intro w29685 hp hs
      replace r29682 := r29682.step hs
      replace tb := tb.step hs
      apply go
      apply go
      apply go
      refine ev0 (rn_lenS rfl rfl Tryz.underlying9) ?_
      apply go
      refine sel_of (fun hc => ?_) (fun hc => ?_)
      ·
        have h := cond_t h hc
        obtain ⟨y29687, q29688, h⟩ := bind_some h
        refine W.cut (γ := Bool) (fun g => [(2, (.bool (g)))]) (fun g w' => y29687 = (g) ∧ w29685 = w') ?_ ?_
        ·
          apply go
          refine sel_of (fun hc => ?_) (fun hc => ?_)
          ·
            have q29688 := cond_t q29688 hc
            refine ev0 (rn_field rfl rfl FO24_1) ?_
            refine ev (rn_load rfl rfl (run_loadVar1 T22 (hp.cell (i := 0) (off := 1) rfl rfl))) ?_
            refine ev0 (rn_len rfl rfl Tryz.underlying22 r29682) ?_
            obtain rfl := Option.some.inj q29688
            exact ⟨((x29676.Mag.length : Int) == 0), (.c rfl .n), rfl, rfl⟩
          ·
            have q29688 := cond_f q29688 hc
            obtain rfl := Option.some.inj q29688
            exact ⟨false, (.c rfl .n), rfl, rfl⟩
        ·
          rintro x29686 _ ⟨hy, rfl⟩
          replace hy := hy.symm
          subst hy
          apply go
          obtain rfl := Option.some.inj h
          exact ⟨rfl, hp.ch⟩
      ·
        have h := cond_f h hc
        apply go
        apply go
        apply go
        obtain ⟨⟨x29689, x29690⟩, q29691, h⟩ := bind_some h
        refine ev_call rfl rfl C29 (((ref01_Parse_ok n) _ _  x29662 hp.imm _ q29691).mono ?_)
        rintro _ w29692 ⟨I29693, v29694, hv, hq, r29695⟩
        replace hv := hv.symm
        subst hv
        have hs := hq.st
        have hp := hp.join0 hq
        replace r29682 := r29682.step hs
        replace tb := tb.step hs
        refine ev_alloc hp rfl T24 ?_
        intro g29696 w29697 hp hs
        replace r29695 := r29695.step hs
        replace r29682 := r29682.step hs
        replace tb := tb.step hs
        refine ev_storeA hp (i := 0) (off := 0) (vs := [(.bool x29689.Neg), v29694]) rfl rfl rfl rfl T24 rfl (Nat.le_of_ble_eq_true rfl) (ones_cons rfl (ones_cons r29695.one ones_nil)) ?_
        intro w29698 hp hs
        replace r29695 := r29695.step hs
        replace r29682 := r29682.step hs
        replace tb := tb.step hs
        obtain ⟨y29726, q29727, h⟩ := bind_some h
        refine W.cut (γ := (Bool × (Nat → Prop))) (fun g => [(2, (.bool (g.1)))]) (fun g w' => y29726 = (g.1) ∧ Hp ⟨w0, I0, []⟩ (g.2) [] w' ∧ Tb w' (g.2) 1 .u64 pow10) ?_ ?_
        ·
          have hs := hp.stp (Ch.drew [] w29698)
          have hp := hp.drew
          replace r29695 := r29695.step hs
          replace r29682 := r29682.step hs
          replace tb := tb.step hs
          refine W.heldT [(0, true), (1, true), (2, true), (3, true), (4, true), (5, true), (6, false), (7, false), (8, true), (9, true), (10, true), (11, true), (12, true), (13, true), (15, true), (14, false), (16, true), (17, true), (18, true), (19, true)] (fun x => Stp I29693 w29698.drew I29693 x ∧ OwnK [(g29683, [(.bool x29676.Neg), v29681], 24), (g29696, [(.bool x29689.Neg), v29694], 24)] x) MX (by kernel_rfl) ⟨Stp.refl _ _, (OwnK.cons (hp.own 1 _ _ _ rfl).1 (OwnK.cons (hp.own 0 _ _ _ rfl).1 OwnK.nil))⟩ ?_
          have hz := Stp.refl I29693 w29698.drew
          intro ops hops
          have e0 : nthO ops 0 = some _ := (hops 0).trans rfl
          have e1 : nthO ops 1 = some _ := (hops 1).trans rfl
          have e2 : nthO ops 2 = some _ := (hops 2).trans rfl
          have e3 : nthO ops 3 = some _ := (hops 3).trans rfl
          have e4 : nthO ops 4 = some _ := (hops 4).trans rfl
          have e5 : nthO ops 5 = some _ := (hops 5).trans rfl
          have e6 : nthO ops 6 = some _ := (hops 6).trans rfl
          have e7 : nthO ops 7 = some _ := (hops 7).trans rfl
          have e8 : nthO ops 8 = some _ := (hops 8).trans rfl
          have e9 : nthO ops 9 = some _ := (hops 9).trans rfl
          have e10 : nthO ops 10 = some _ := (hops 10).trans rfl
          have e11 : nthO ops 11 = some _ := (hops 11).trans rfl
          have e12 : nthO ops 12 = some _ := (hops 12).trans rfl
          have e13 : nthO ops 13 = some _ := (hops 13).trans rfl
          have e14 : nthO ops 14 = some _ := (hops 14).trans rfl
          have e15 : nthO ops 15 = some _ := (hops 15).trans rfl
          have e16 : nthO ops 16 = some _ := (hops 16).trans rfl
          have e17 : nthO ops 17 = some _ := (hops 17).trans rfl
          have e18 : nthO ops 18 = some _ := (hops 18).trans rfl
          have e19 : nthO ops 19 = some _ := (hops 19).trans rfl
          clear hops
          refine vch_q e0 rfl ?_
          refine vch_q e1 rfl ?_
          refine vch_q e2 rfl ?_
          refine vch_q e3 rfl ?_
          rcases Bool.eq_false_or_eq_true (x29677 == x29690) with hc | hc
          ·
            have q29727 := cond_t q29727 hc
            refine vch_qt e4 rfl e3 rfl rfl hc ?_
            refine evh (fun w' hw => rn_load rfl rfl (run_loadVarA T24 rfl (hw.2.at_ (i := 0) rfl))) ?_
            refine vch_qt e5 rfl e3 rfl rfl rfl ?_
            refine evh (fun w' hw => rn_load rfl rfl (run_loadVarA T24 rfl (hw.2.at_ (i := 1) rfl))) ?_
            refine vch_lt e6 rfl e3 rfl rfl rfl ?_
            obtain ⟨x29740, q29741, q29727⟩ := bind_some q29727
            refine ev_call rfl rfl C28 (((ref01_Norm_ok n) _ _  (Int_2.mk x29689.Neg x29689.Mag) v29694 r29695 hp.imm _ q29741).mono ?_)
            rintro _ w29742 ⟨I29743, v29744, hv, hq, r29745⟩
            replace hv := hv.symm
            subst hv
            have hs := hq.st
            have hp := hp.join0 hq
            replace hz := hz.trans hs
            replace r29682 := r29682.step hs
            replace r29695 := r29695.step hs
            replace tb := tb.step hs
            refine ⟨fun x => Stp I29743 w29742 I29743 x ∧ OwnK [(g29683, [(.bool x29676.Neg), v29681], 24), (g29696, [(.bool x29689.Neg), v29694], 24)] x, ⟨Stp.refl _ _, (OwnK.cons (hp.own 1 _ _ _ rfl).1 (OwnK.cons (hp.own 0 _ _ _ rfl).1 OwnK.nil))⟩, fun x hx => ⟨hz.held hx.1, hx.2⟩, ?_⟩
            have hz := Stp.refl I29743 w29742
            refine vch_lt e7 rfl e3 rfl rfl rfl ?_
            obtain ⟨x29746, q29747, q29727⟩ := bind_some q29727
            refine ev_call rfl rfl C21 (((ref01_Same_ok n) _ _  (Int_2.mk x29676.Neg x29676.Mag) v29681 r29682 x29740 v29744 r29745 hp.imm _ q29747).mono ?_)
            rintro _ w29748 ⟨rfl, hc⟩
            have hs := hp.stp hc
            replace hp := hp.ext hc
            replace hz := hz.trans hs
            replace r29695 := r29695.step hs
            replace r29682 := r29682.step hs
            replace tb := tb.step hs
            refine ⟨fun x => Stp I29743 w29748 I29743 x ∧ OwnK [(g29683, [(.bool x29676.Neg), v29681], 24), (g29696, [(.bool x29689.Neg), v29694], 24)] x, ⟨Stp.refl _ _, (OwnK.cons (hp.own 1 _ _ _ rfl).1 (OwnK.cons (hp.own 0 _ _ _ rfl).1 OwnK.nil))⟩, fun x hx => ⟨hz.held hx.1, hx.2⟩, ?_⟩
            have hz := Stp.refl I29743 w29748
            refine vch_q e8 rfl ?_
            refine vch_q e9 rfl ?_
            rcases Bool.eq_false_or_eq_true x29746 with hc | hc
            ·
              have q29727 := cond_t q29727 hc
              refine vch_qt e10 rfl e9 rfl rfl hc ?_
              refine vch_qt e11 rfl e9 rfl rfl rfl ?_
              refine vch_qt e12 rfl e9 rfl rfl rfl ?_
              rcases Bool.eq_false_or_eq_true (x29677 != 0) with hc | hc
              ·
                have q29727 := cond_t q29727 hc
                refine vch_qf e13 rfl e12 rfl rfl hc ?_
                refine vch_qf e15 rfl e12 rfl rfl rfl ?_
                refine vch_lf e14 rfl e12 rfl rfl rfl ?_
                refine ⟨fun x => Stp I29743 w29748 I29743 x ∧ OwnK [(g29683, [(.bool x29676.Neg), v29681], 24), (g29696, [(.bool x29689.Neg), v29694], 24)] x, ⟨Stp.refl _ _, (OwnK.cons (hp.own 1 _ _ _ rfl).1 (OwnK.cons (hp.own 0 _ _ _ rfl).1 OwnK.nil))⟩, fun x hx => ⟨hz.held hx.1, hx.2⟩, ?_⟩
                have hz := Stp.refl I29743 w29748
                refine vch_qf e16 rfl e12 rfl rfl rfl ?_
                refine vch_qt e17 rfl e9 rfl rfl rfl ?_
                refine vch_q e18 rfl ?_
                refine vch_q e19 rfl ?_
                refine vch_end ?_
                obtain rfl := Option.some.inj q29727
                have hp := hp.sel [] (by decide)
                exact ⟨(true, I29743), (.c rfl .n), rfl, hp, tb⟩
              ·
                have q29727 := cond_f q29727 hc
                refine vch_qt e13 rfl e12 rfl rfl hc ?_
                refine evh (fun w' hw => rn_load rfl rfl (run_loadVarA T24 rfl (hw.2.at_ (i := 0) rfl))) ?_
                refine vch_qt e15 rfl e12 rfl rfl rfl ?_
                refine vch_lt e14 rfl e12 rfl rfl rfl ?_
                obtain ⟨x29749, q29750, q29727⟩ := bind_some q29727
                refine ev_call rfl rfl C25 (((integer_Text_ok n) _ _ tb (Int_2.mk x29676.Neg x29676.Mag) v29681 r29682 hp.imm _ q29750).mono ?_)
                rintro _ w29751 ⟨rfl, hc⟩
                have hs := hp.stp hc
                replace hp := hp.ext hc
                replace hz := hz.trans hs
                replace r29695 := r29695.step hs
                replace r29682 := r29682.step hs
                replace tb := tb.step hs
                refine ⟨fun x => Stp I29743 w29751 I29743 x ∧ OwnK [(g29683, [(.bool x29676.Neg), v29681], 24), (g29696, [(.bool x29689.Neg), v29694], 24)] x, ⟨Stp.refl _ _, (OwnK.cons (hp.own 1 _ _ _ rfl).1 (OwnK.cons (hp.own 0 _ _ _ rfl).1 OwnK.nil))⟩, fun x hx => ⟨hz.held hx.1, hx.2⟩, ?_⟩
                have hz := Stp.refl I29743 w29751
                refine vch_qt e16 rfl e12 rfl rfl rfl ?_
                refine vch_qt e17 rfl e9 rfl rfl rfl ?_
                refine vch_q e18 rfl ?_
                refine vch_q e19 rfl ?_
                refine vch_end ?_
                obtain rfl := Option.some.inj q29727
                have hp := hp.sel [] (by decide)
                exact ⟨((x29749.toList == x29662.toList), I29743), (.c rfl .n), rfl, hp, tb⟩
            ·
              have q29727 := cond_f q29727 hc
              refine vch_qf e10 rfl e9 rfl rfl hc ?_
              refine vch_qf e11 rfl e9 rfl rfl rfl ?_
              refine vch_qf e12 rfl e9 rfl rfl rfl ?_
              refine vch_qu e13 rfl e12 rfl rfl ?_
              refine vch_qu e15 rfl e12 rfl rfl ?_
              refine vch_lu e14 rfl e12 rfl rfl ?_
              refine ⟨fun x => Stp I29743 w29748 I29743 x ∧ OwnK [(g29683, [(.bool x29676.Neg), v29681], 24), (g29696, [(.bool x29689.Neg), v29694], 24)] x, ⟨Stp.refl _ _, (OwnK.cons (hp.own 1 _ _ _ rfl).1 (OwnK.cons (hp.own 0 _ _ _ rfl).1 OwnK.nil))⟩, fun x hx => ⟨hz.held hx.1, hx.2⟩, ?_⟩
              have hz := Stp.refl I29743 w29748
              refine vch_qu e16 rfl e12 rfl rfl ?_
              refine vch_qf e17 rfl e9 rfl rfl rfl ?_
              refine vch_q e18 rfl ?_
              refine vch_q e19 rfl ?_
              refine vch_end ?_
              obtain rfl := Option.some.inj q29727
              have hp := hp.sel [] (by decide)
              exact ⟨(false, I29743), (.c rfl .n), rfl, hp, tb⟩
          ·
            have q29727 := cond_f q29727 hc
            refine vch_qf e4 rfl e3 rfl rfl hc ?_
            refine vch_qf e5 rfl e3 rfl rfl rfl ?_
            refine vch_lf e6 rfl e3 rfl rfl rfl ?_
            refine ⟨fun x => Stp I29693 w29698.drew I29693 x ∧ OwnK [(g29683, [(.bool x29676.Neg), v29681], 24), (g29696, [(.bool x29689.Neg), v29694], 24)] x, ⟨Stp.refl _ _, (OwnK.cons (hp.own 1 _ _ _ rfl).1 (OwnK.cons (hp.own 0 _ _ _ rfl).1 OwnK.nil))⟩, fun x hx => ⟨hz.held hx.1, hx.2⟩, ?_⟩
            have hz := Stp.refl I29693 w29698.drew
            refine vch_lf e7 rfl e3 rfl rfl rfl ?_
            refine ⟨fun x => Stp I29693 w29698.drew I29693 x ∧ OwnK [(g29683, [(.bool x29676.Neg), v29681], 24), (g29696, [(.bool x29689.Neg), v29694], 24)] x, ⟨Stp.refl _ _, (OwnK.cons (hp.own 1 _ _ _ rfl).1 (OwnK.cons (hp.own 0 _ _ _ rfl).1 OwnK.nil))⟩, fun x hx => ⟨hz.held hx.1, hx.2⟩, ?_⟩
            have hz := Stp.refl I29693 w29698.drew
            refine vch_q e8 rfl ?_
            refine vch_q e9 rfl ?_
            refine vch_qf e10 rfl e9 rfl rfl rfl ?_
            refine vch_qf e11 rfl e9 rfl rfl rfl ?_
            refine vch_qf e12 rfl e9 rfl rfl rfl ?_
            refine vch_qu e13 rfl e12 rfl rfl ?_
            refine vch_qu e15 rfl e12 rfl rfl ?_
            refine vch_lu e14 rfl e12 rfl rfl ?_
            refine ⟨fun x => Stp I29693 w29698.drew I29693 x ∧ OwnK [(g29683, [(.bool x29676.Neg), v29681], 24), (g29696, [(.bool x29689.Neg), v29694], 24)] x, ⟨Stp.refl _ _, (OwnK.cons (hp.own 1 _ _ _ rfl).1 (OwnK.cons (hp.own 0 _ _ _ rfl).1 OwnK.nil))⟩, fun x hx => ⟨hz.held hx.1, hx.2⟩, ?_⟩
            have hz := Stp.refl I29693 w29698.drew
            refine vch_qu e16 rfl e12 rfl rfl ?_
            refine vch_qf e17 rfl e9 rfl rfl rfl ?_
            refine vch_q e18 rfl ?_
            refine vch_q e19 rfl ?_
            refine vch_end ?_
            obtain rfl := Option.some.inj q29727
            have hp := hp.sel [] (by decide)
            exact ⟨(false, I29693), (.c rfl .n), rfl, hp, tb⟩
        ·
          rintro ⟨x29723, I29724⟩ w29725 ⟨hy, hp, tb⟩
          replace hy := hy.symm
          subst hy
          apply go
          obtain rfl := Option.some.inj h
          exact ⟨rfl, hp.ch⟩

end Go.Proofs.YthhghkcopfnbiaaGreatDoor
