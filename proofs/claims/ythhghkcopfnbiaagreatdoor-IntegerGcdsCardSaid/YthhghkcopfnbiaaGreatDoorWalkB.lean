/-
  Each function of the program computes the plain function of its name.
-/
import Derived.Test.YthhghkcopfnbiaaGreatDoorFactsA
import Derived.Test.YthhghkcopfnbiaaGreatDoorWalkA
import Derived.Test.YthhghkcopfnbiaaGreatDoorCoreA
namespace Go.Proofs.YthhghkcopfnbiaaGreatDoor
open Go Go.Proofs.YthhghkcopfnbiaaGreatDoor.Gw Go.RowKit
set_option linter.unusedVariables false
attribute [local irreducible] Ev EvQ EvS EvH
def integer_Parse_S (f : ByteArray → Option (Int_2 × Int)) : Prop := ∀ (w0 : World) (I0 : Nat → Prop) (tb : Tb w0 I0 1 .u64 pow10) (x19209 : ByteArray) (hI : ∀ g, I0 g → g < w0.heap.size) (r : (Int_2 × Int)), f x19209 = some r →
    Ret Tryz.prog 26 #[(.string x19209)] w0 fun v w1 => ∃ (I1 : Nat → Prop) (u19210 : Value), v = (.tuple #[(.agg #[(.bool r.1.Neg), u19210]), (.int .i64 r.2)]) ∧ Hp ⟨w0, I0, []⟩ I1 [] w1 ∧ RepS (dI .u32) w1 I1 u19210 r.1.Mag
theorem integer_Parse_ok (n : Nat) : integer_Parse_S (integer_Parse n) := by
  intro w0 I0 tb x19209 hI r h
  unfold integer_Parse at h
  refine enter Tryz.func26 rfl (Nat.le_of_ble_eq_true rfl) ?_
  have hp : Hp ⟨w0, I0, []⟩ I0 [] w0 := Hp.start hI
  apply go
  apply go
  refine ev_alloc hp rfl T24 ?_
  intro g19211 w19212 hp hs
  replace tb := tb.step hs
  apply go
  apply go
  apply go
  refine ev0 (rn_lenS rfl rfl Tryz.underlying9) ?_
  apply go
  refine sel_of (fun hc => ?_) (fun hc => ?_)
  ·
    have h := cond_t h hc
    apply go
    apply go
    refine ev0 (fun w => rn_build (cs := [(.bool false), (.slice none 0 0)]) rfl rfl T24 PL24 rfl) ?_
    refine ev_storeA hp (i := 0) (off := 0) (vs := [(.bool false), (.slice none 0 0)]) rfl rfl rfl rfl T24 rfl (Nat.le_of_ble_eq_true rfl) (ones_of rfl) ?_
    intro w19213 hp hs
    replace tb := tb.step hs
    apply go
    obtain rfl := Option.some.inj h
    refine ⟨_, run_loadVarA T24 rfl (hp.at_ (i := 0) rfl), ?_⟩
    have hp := hp.sel [] (by decide)
    exact ⟨I0, .slice none 0 0, rfl, hp, RepS.nil _ _ _⟩
  ·
    have h := cond_f h hc
    apply go
    apply go
    apply go
    obtain ⟨⟨x19214, x19215⟩, q19216, h⟩ := bind_some h
    refine ev_call rfl rfl C62 (((strings_CutPrefix_ok n) _ _  x19209 (ByteArray.mk #[45]) hp.imm _ q19216).mono ?_)
    rintro _ w19217 ⟨rfl, hc⟩
    have hs := hp.stp hc
    replace hp := hp.ext hc
    replace tb := tb.step hs
    apply go
    obtain ⟨y19220, q19221, h⟩ := bind_some h
    refine W.cut (γ := Unit) (fun _ => [(2, (.pointer (some ⟨g19211, 0, none⟩))), (4, (.string x19214)), (5, (.bool x19215)), (34, (.bool true))]) (fun _ w' => y19220 = () ∧ w19217 = w') ?_ ?_
    ·
      apply go
      refine sel_of (fun hc => ?_) (fun hc => ?_)
      ·
        have q19221 := cond_t q19221 hc
        obtain rfl := Option.some.inj q19221
        exact ⟨(), (.c rfl (.c rfl (.c rfl (.c rfl .n)))), rfl, rfl⟩
      ·
        have q19221 := cond_f q19221 hc
        obtain ⟨x19222, q19223, q19221⟩ := bind_some q19221
        refine ev0 (rn_indexS rfl rfl rfl Tryz.underlying9 q19223) ?_
        refine sel_of (fun hc => ?_) (fun hc => ?_)
        ·
          have q19221 := cond_t q19221 hc
          refine sel_of (fun hc => ?_) (fun hc => ?_)
          ·
            have q19221 := cond_t q19221 hc
            obtain rfl := Option.some.inj q19221
            exact ⟨(), (.c rfl (.c rfl (.c rfl (.c rfl .n)))), rfl, rfl⟩
          ·
            have q19221 := cond_f q19221 hc
            cases q19221
        ·
          have q19221 := cond_f q19221 hc
          cases q19221
    ·
      rintro ⟨⟩ _ ⟨hy, rfl⟩
      replace hy := hy.symm
      subst hy
      apply go
      apply go
      apply go
      refine ev0 (fun w => rn_build (cs := [(.bool false), (.slice none 0 0)]) rfl rfl T24 PL24 rfl) ?_
      refine ev_storeA hp (i := 0) (off := 0) (vs := [(.bool false), (.slice none 0 0)]) rfl rfl rfl rfl T24 rfl (Nat.le_of_ble_eq_true rfl) (ones_of rfl) ?_
      intro w19224 hp hs
      replace tb := tb.step hs
      apply go
      obtain rfl := Option.some.inj h
      refine ⟨_, run_loadVarA T24 rfl (hp.at_ (i := 0) rfl), ?_⟩
      have hp := hp.sel [] (by decide)
      exact ⟨I0, .slice none 0 0, rfl, hp, RepS.nil _ _ _⟩

end Go.Proofs.YthhghkcopfnbiaaGreatDoor

namespace Go.Proofs.YthhghkcopfnbiaaGreatDoor
open Go Go.Proofs.YthhghkcopfnbiaaGreatDoor.Gw Go.RowKit
set_option linter.unusedVariables false
attribute [local irreducible] Ev EvQ EvS EvH
def integer_Sign_S (f : Int_2 → Option Int) : Prop := ∀ (w0 : World) (I0 : Nat → Prop) (x16104 : Int_2) (v16105 : Value) (r16106 : RepS (dI .u32) w0 I0 v16105 x16104.Mag) (hI : ∀ g, I0 g → g < w0.heap.size) (r : Int), f x16104 = some r →
    Ret Tryz.prog 23 #[(.agg #[(.bool x16104.Neg), v16105])] w0 fun v w1 => v = (.int .i64 r) ∧ Ch [] w0 w1
theorem integer_Sign_ok (n : Nat) : integer_Sign_S (integer_Sign n) := by
  intro w0 I0 x16104 v16105 r16106 hI r h
  unfold integer_Sign at h
  refine enter Tryz.func23 rfl (Nat.le_of_ble_eq_true rfl) ?_
  have hp : Hp ⟨w0, I0, []⟩ I0 [] w0 := Hp.start hI
  apply go
  apply go
  refine ev_boxI hp rfl rfl ?_
  intro p16109 I16110 w16108 hp hs a16111
  replace r16106 := r16106.step hs
  apply go
  apply go
  apply go
  apply go
  refine ev0 (rn_field rfl rfl FO24_1) ?_
  refine ev (rn_load rfl rfl (run_loadVar1 T22 (a16111.2 1 _ rfl))) ?_
  obtain ⟨x16112, q16113, h⟩ := bind_some h
  refine ev_call rfl rfl C46 (((integer_trim_ok n) _ _  x16104.Mag v16105 r16106 hp.imm _ q16113).mono ?_)
  rintro _ w16114 ⟨I16115, v16116, hv, hq, r16117⟩
  replace hv := hv.symm
  subst hv
  have hs := hq.st
  have hp := hp.join0 hq
  replace a16111 := a16111.step hs
  replace r16106 := r16106.step hs
  refine ev0 (rn_len rfl rfl Tryz.underlying22 r16117) ?_
  apply go
  refine sel_of (fun hc => ?_) (fun hc => ?_)
  ·
    have h := cond_t h hc
    apply go
    apply go
    apply go
    obtain rfl := Option.some.inj h
    exact ⟨rfl, hp.ch⟩
  ·
    have h := cond_f h hc
    apply go
    apply go
    refine ev0 (rn_field rfl rfl FO24_0) ?_
    refine ev (rn_load rfl rfl (run_loadVar1 T4 (a16111.2 0 _ rfl))) ?_
    apply go
    refine sel_of (fun hc => ?_) (fun hc => ?_)
    ·
      have h := cond_t h hc
      apply go
      apply go
      apply go
      obtain rfl := Option.some.inj h
      exact ⟨rfl, hp.ch⟩
    ·
      have h := cond_f h hc
      apply go
      apply go
      apply go
      apply go
      obtain rfl := Option.some.inj h
      exact ⟨rfl, hp.ch⟩

end Go.Proofs.YthhghkcopfnbiaaGreatDoor

namespace Go.Proofs.YthhghkcopfnbiaaGreatDoor
open Go Go.Proofs.YthhghkcopfnbiaaGreatDoor.Gw Go.RowKit
set_option linter.unusedVariables false
attribute [local irreducible] Ev EvQ EvS EvH
def integer_Cmp_S (f : Int_2 → Int_2 → Option Int) : Prop := ∀ (w0 : World) (I0 : Nat → Prop) (x16141 : Int_2) (v16142 : Value) (r16143 : RepS (dI .u32) w0 I0 v16142 x16141.Mag) (x16144 : Int_2) (v16145 : Value) (r16146 : RepS (dI .u32) w0 I0 v16145 x16144.Mag) (hI : ∀ g, I0 g → g < w0.heap.size) (r : Int), f x16141 x16144 = some r →
    Ret Tryz.prog 17 #[(.agg #[(.bool x16141.Neg), v16142]), (.agg #[(.bool x16144.Neg), v16145])] w0 fun v w1 => v = (.int .i64 r) ∧ Ch [] w0 w1
theorem integer_Cmp_ok (n : Nat) : integer_Cmp_S (integer_Cmp n) := by
  intro w0 I0 x16141 v16142 r16143 x16144 v16145 r16146 hI r h
  unfold integer_Cmp at h
  refine enter Tryz.func17 rfl (Nat.le_of_ble_eq_true rfl) ?_
  have hp : Hp ⟨w0, I0, []⟩ I0 [] w0 := Hp.start hI
  apply go
  apply go
  refine ev_boxI hp rfl rfl ?_
  intro p16149 I16150 w16148 hp hs a16151
  replace r16146 := r16146.step hs
  replace r16143 := r16143.step hs
  refine ev_boxI hp rfl rfl ?_
  intro p16154 I16155 w16153 hp hs a16156
  replace a16151 := a16151.step hs
  replace r16143 := r16143.step hs
  replace r16146 := r16146.step hs
  apply go
  refine W.quiet (fun w' => Ch [] w16153 w') MX (by kernel_rfl) (Ch.drew [] w16153) ?_
  refine evq (fun w' hw => rn_load rfl rfl (run_loadVarA T24 rfl (a16151.step (hp.stp hw)))) ?_
  obtain ⟨x16157, q16158, h⟩ := bind_some h
  refine evq_call rfl rfl C23 (fun w' hw => ((integer_Sign_ok n) _ _  (Int_2.mk x16141.Neg x16141.Mag) v16142 (r16143.step (hp.stp hw)) (hp.ext hw).imm _ q16158).mono fun _ _ ⟨e, hc⟩ => ⟨e, hw.trans hc⟩) ?_
  refine evq (fun w' hw => rn_load rfl rfl (run_loadVarA T24 rfl (a16156.step (hp.stp hw)))) ?_
  obtain ⟨x16159, q16160, h⟩ := bind_some h
  refine evq_call rfl rfl C23 (fun w' hw => ((integer_Sign_ok n) _ _  (Int_2.mk x16144.Neg x16144.Mag) v16145 (r16146.step (hp.stp hw)) (hp.ext hw).imm _ q16160).mono fun _ _ ⟨e, hc⟩ => ⟨e, hw.trans hc⟩) ?_
  intro w16161 hc
  have hs := hp.stp hc
  replace hp := hp.ext hc
  replace a16151 := a16151.step hs
  replace r16143 := r16143.step hs
  replace a16156 := a16156.step hs
  replace r16146 := r16146.step hs
  apply go
  apply go
  apply go
  apply go
  apply go
  refine sel_of (fun hc => ?_) (fun hc => ?_)
  ·
    have h := cond_t h hc
    apply go
    apply go
    apply go
    obtain rfl := Option.some.inj h
    exact ⟨rfl, hp.ch⟩
  ·
    have h := cond_f h hc
    apply go
    apply go
    apply go
    refine sel_of (fun hc => ?_) (fun hc => ?_)
    ·
      have h := cond_t h hc
      apply go
      apply go
      apply go
      obtain rfl := Option.some.inj h
      exact ⟨rfl, hp.ch⟩
    ·
      have h := cond_f h hc
      apply go
      apply go
      have hs := hp.stp (Ch.drew [] w16161)
      have hp := hp.drew
      replace a16151 := a16151.step hs
      replace r16143 := r16143.step hs
      replace a16156 := a16156.step hs
      replace r16146 := r16146.step hs
      refine W.held [(0, true), (1, true), (2, true), (4, true), (5, true), (3, false), (6, false), (7, false), (8, true), (9, true)] (Stp I16155 w16161.drew I16155) MX (by kernel_rfl) (Stp.refl _ _) ?_
      have hz := Stp.refl I16155 w16161.drew
      refine evh0 (rn_field rfl rfl FO24_1) ?_
      refine evh (fun w' hw => rn_load rfl rfl (run_loadVar1 T22 ((a16151.step hw).2 1 _ rfl))) ?_
      refine evh0 (rn_field rfl rfl FO24_1) ?_
      refine evh (fun w' hw => rn_load rfl rfl (run_loadVar1 T22 ((a16156.step hw).2 1 _ rfl))) ?_
      obtain ⟨x16177, q16178, h⟩ := bind_some h
      refine ev_call rfl rfl C46 (((integer_trim_ok n) _ _  x16141.Mag v16142 r16143 hp.imm _ q16178).mono ?_)
      rintro _ w16179 ⟨I16180, v16181, hv, hq, r16182⟩
      replace hv := hv.symm
      subst hv
      have hs := hq.st
      have hp := hp.join0 hq
      replace hz := hz.trans hs
      replace r16146 := r16146.step hs
      refine ⟨Stp I16180 w16179 I16180, Stp.refl _ _, fun x hx => hz.held hx, ?_⟩
      have hz := Stp.refl I16180 w16179
      obtain ⟨x16183, q16184, h⟩ := bind_some h
      refine ev_call rfl rfl C46 (((integer_trim_ok n) _ _  x16144.Mag v16145 r16146 hp.imm _ q16184).mono ?_)
      rintro _ w16185 ⟨I16186, v16187, hv, hq, r16188⟩
      replace hv := hv.symm
      subst hv
      have hs := hq.st
      have hp := hp.join0 hq
      replace hz := hz.trans hs
      replace r16182 := r16182.step hs
      refine ⟨Stp I16186 w16185 I16186, Stp.refl _ _, fun x hx => hz.held hx, ?_⟩
      have hz := Stp.refl I16186 w16185
      obtain ⟨x16189, q16190, h⟩ := bind_some h
      refine ev_call rfl rfl C48 (((integer_compare_ok n) _ _  x16177 v16181 r16182 x16183 v16187 r16188 hp.imm _ q16190).mono ?_)
      rintro _ w16191 ⟨rfl, hc⟩
      have hs := hp.stp hc
      replace hp := hp.ext hc
      replace hz := hz.trans hs
      refine ⟨Stp I16186 w16191 I16186, Stp.refl _ _, fun x hx => hz.held hx, ?_⟩
      have hz := Stp.refl I16186 w16191
      apply go
      obtain rfl := Option.some.inj h
      exact ⟨rfl, hp.ch⟩

end Go.Proofs.YthhghkcopfnbiaaGreatDoor

namespace Go.Proofs.YthhghkcopfnbiaaGreatDoor
open Go Go.Proofs.YthhghkcopfnbiaaGreatDoor.Gw Go.RowKit
set_option linter.unusedVariables false
attribute [local irreducible] Ev EvQ EvS EvH
def integer_Sqrt_S (f : Int_2 → Option (Int_2 × Int)) : Prop := ∀ (w0 : World) (I0 : Nat → Prop) (x16192 : Int_2) (v16193 : Value) (r16194 : RepS (dI .u32) w0 I0 v16193 x16192.Mag) (hI : ∀ g, I0 g → g < w0.heap.size) (r : (Int_2 × Int)), f x16192 = some r →
    Ret Tryz.prog 33 #[(.agg #[(.bool x16192.Neg), v16193])] w0 fun v w1 => ∃ (I1 : Nat → Prop) (u16195 : Value), v = (.tuple #[(.agg #[(.bool r.1.Neg), u16195]), (.int .i64 r.2)]) ∧ Hp ⟨w0, I0, []⟩ I1 [] w1 ∧ RepS (dI .u32) w1 I1 u16195 r.1.Mag
theorem integer_Sqrt_ok (n : Nat) : integer_Sqrt_S (integer_Sqrt n) := by
  intro w0 I0 x16192 v16193 r16194 hI r h
  unfold integer_Sqrt at h
  refine enter Tryz.func33 rfl (Nat.le_of_ble_eq_true rfl) ?_
  have hp : Hp ⟨w0, I0, []⟩ I0 [] w0 := Hp.start hI
  apply go
  apply go
  refine ev_boxI hp rfl rfl ?_
  intro p16198 I16199 w16197 hp hs a16200
  replace r16194 := r16194.step hs
  refine ev_alloc hp rfl T24 ?_
  intro g16201 w16202 hp hs
  replace a16200 := a16200.step hs
  replace r16194 := r16194.step hs
  apply go
  apply go
  apply go
  refine ev (rn_load rfl rfl (run_loadVarA T24 rfl a16200)) ?_
  obtain ⟨x16203, q16204, h⟩ := bind_some h
  refine ev_call rfl rfl C23 (((integer_Sign_ok n) _ _  (Int_2.mk x16192.Neg x16192.Mag) v16193 r16194 hp.imm _ q16204).mono ?_)
  rintro _ w16205 ⟨rfl, hc⟩
  have hs := hp.stp hc
  replace hp := hp.ext hc
  replace a16200 := a16200.step hs
  replace r16194 := r16194.step hs
  apply go
  apply go
  apply go
  apply go
  refine sel_of (fun hc => ?_) (fun hc => ?_)
  ·
    have h := cond_t h hc
    apply go
    apply go
    refine ev0 (fun w => rn_build (cs := [(.bool false), (.slice none 0 0)]) rfl rfl T24 PL24 rfl) ?_
    refine ev_storeA hp (i := 0) (off := 0) (vs := [(.bool false), (.slice none 0 0)]) rfl rfl rfl rfl T24 rfl (Nat.le_of_ble_eq_true rfl) (ones_of rfl) ?_
    intro w16206 hp hs
    apply go
    obtain rfl := Option.some.inj h
    refine ⟨_, run_loadVarA T24 rfl (hp.at_ (i := 0) rfl), ?_⟩
    have hp := hp.sel [] (by decide)
    exact ⟨I16199, .slice none 0 0, rfl, hp, RepS.nil _ _ _⟩
  ·
    have h := cond_f h hc
    apply go
    apply go
    apply go
    refine sel_of (fun hc => ?_) (fun hc => ?_)
    ·
      have h := cond_t h hc
      apply go
      apply go
      refine ev0 (fun w => rn_build (cs := [(.bool false), (.slice none 0 0)]) rfl rfl T24 PL24 rfl) ?_
      refine ev_storeA hp (i := 0) (off := 0) (vs := [(.bool false), (.slice none 0 0)]) rfl rfl rfl rfl T24 rfl (Nat.le_of_ble_eq_true rfl) (ones_of rfl) ?_
      intro w16207 hp hs
      apply go
      obtain rfl := Option.some.inj h
      refine ⟨_, run_loadVarA T24 rfl (hp.at_ (i := 0) rfl), ?_⟩
      have hp := hp.sel [] (by decide)
      exact ⟨I16199, .slice none 0 0, rfl, hp, RepS.nil _ _ _⟩
    ·
      have h := cond_f h hc
      apply go
      apply go
      apply go
      refine ev (rn_load rfl rfl (run_loadVarA T24 rfl a16200)) ?_
      obtain ⟨x16208, q16209, h⟩ := bind_some h
      refine ev_call rfl rfl C19 (((integer_Bits_ok n) _ _  (Int_2.mk x16192.Neg x16192.Mag) v16193 r16194 hp.imm _ q16209).mono ?_)
      rintro _ w16210 ⟨rfl, hc⟩
      have hs := hp.stp hc
      replace hp := hp.ext hc
      replace a16200 := a16200.step hs
      replace r16194 := r16194.step hs
      refine ⟨by decide, ?_⟩
      apply go
      apply go
      refine ⟨by decide, ?_⟩
      obtain ⟨x16211, q16212, h⟩ := bind_some h
      refine ev_make (d := (dI .u32)) (x0 := 0) hp rfl rfl rfl Tryz.underlying22 T45 (fun _ _ => rfl) (Nat.le_of_ble_eq_true rfl) q16212 ?_
      intro v16213 e16214 w16215 hp hs o16216
      replace a16200 := a16200.step hs
      replace r16194 := r16194.step hs
      apply go
      apply go
      refine ⟨by decide, ?_⟩
      refine ⟨by decide, ?_⟩
      obtain ⟨q16217, _, h⟩ := need_some h
      refine ⟨q16217, ?_⟩
      obtain ⟨x16218, q16219, h⟩ := bind_some h
      refine ev_indexO rfl rfl rfl Tryz.underlying22 T45 o16216 q16219 ?_
      intro g16220 c16221 h16224 d16222 l16223
      refine ev_storeE hp (i := 0) rfl h16224 rfl rfl rfl T45 o16216 q16219 (x0 := (IntKind.u32.wrap ((1 : Int) * 2 ^ min ((IntKind.i64.wrap ((IntKind.i64.wrap (x16208 + 1)).tdiv 2)).tmod 32).toNat (IntKind.u32).bits))) rfl ?_
      intro e16227 w16226 hp hs o16228
      replace a16200 := a16200.step hs
      replace r16194 := r16194.step hs
      apply go
      apply go
      have r16231 := o16228.frz hp (i := 0) rfl
      obtain ⟨hp, hs⟩ := freeze_hp hp (i := 0) rfl
      replace a16200 := a16200.step hs
      replace r16194 := r16194.step hs
      have hp := hp.sel [1] (by decide)
      obtain ⟨x16232, q16233, h⟩ := bind_some h
      refine ev_call rfl rfl C49 (((integer_made_ok n) _ _  false (upd x16211 (IntKind.i64.wrap ((IntKind.i64.wrap ((IntKind.i64.wrap (x16208 + 1)).tdiv 2)).tdiv 32)) (IntKind.u32.wrap ((1 : Int) * 2 ^ min ((IntKind.i64.wrap ((IntKind.i64.wrap (x16208 + 1)).tdiv 2)).tmod 32).toNat (IntKind.u32).bits))) v16213 r16231 hp.imm _ q16233).mono ?_)
      rintro _ w16234 ⟨I16235, v16236, hv, hq, r16237⟩
      replace hv := hv.symm
      subst hv
      have hs := hq.st
      have hp := hp.join0 hq
      replace a16200 := a16200.step hs
      replace r16194 := r16194.step hs
      refine ev_alloc hp rfl T24 ?_
      intro g16238 w16239 hp hs
      replace a16200 := a16200.step hs
      replace r16194 := r16194.step hs
      replace r16237 := r16237.step hs
      refine ev_storeA hp (i := 0) (off := 0) (vs := [(.bool x16232.Neg), v16236]) rfl rfl rfl rfl T24 rfl (Nat.le_of_ble_eq_true rfl) (ones_cons rfl (ones_cons r16237.one ones_nil)) ?_
      intro w16240 hp hs
      replace a16200 := a16200.step hs
      replace r16194 := r16194.step hs
      replace r16237 := r16237.step hs
      apply go
      have hp := hp.perm [1, 0] (by decide)
      refine W.loop h (γ := (Value × (Nat → Prop))) (fun s g => [(1, (.pointer (some (p16198)))), (2, (.pointer (some ⟨g16201, 0, none⟩))), (6, (.pointer (some ⟨g16238, 0, none⟩)))]) (fun s g w' => Hp ⟨w0, I0, []⟩ (g.2) [some (g16201, [(.bool false), (.slice none 0 0)], 24), some (g16238, [(.bool (s.1)), (g.1)], 24)] w' ∧ RepS (dI .u32) w' (g.2) v16193 x16192.Mag ∧ At w' (g.2) p16198 [(.bool x16192.Neg), v16193] ∧ RepS (dI .u32) w' (g.2) (g.1) (s.2)) (v16236, I16235) (.c rfl (.c rfl (.c rfl .n))) ⟨hp, r16194, a16200, r16237⟩ ?_
      rintro ⟨x16290, x16291⟩ ⟨v16292, I16294⟩ w16349 y16350 ⟨hp, r16194, a16200, r16293⟩ q16351 q16352
      unfold integer_Sqrt_L0 at q16351
      apply go
      apply go
      apply go
      refine ev (rn_load rfl rfl (run_loadVarA T24 rfl a16200)) ?_
      refine ev (rn_load rfl rfl (run_loadVarA T24 rfl (hp.at_ (i := 1) rfl))) ?_
      obtain ⟨⟨x16353, x16354, x16355⟩, q16356, q16351⟩ := bind_some q16351
      refine ev_call rfl rfl C24 (((integer_DivMod_ok n) _ _  (Int_2.mk x16192.Neg x16192.Mag) v16193 r16194 (Int_2.mk x16290 x16291) v16292 r16293 hp.imm _ q16356).mono ?_)
      rintro _ w16357 ⟨I16358, v16359, v16361, hv, hq, r16360, r16362⟩
      replace hv := hv.symm
      subst hv
      have hs := hq.st
      have hp := hp.join0 hq
      replace a16200 := a16200.step hs
      replace r16194 := r16194.step hs
      replace r16293 := r16293.step hs
      refine ev_alloc hp rfl T24 ?_
      intro g16363 w16364 hp hs
      replace a16200 := a16200.step hs
      replace r16194 := r16194.step hs
      replace r16360 := r16360.step hs
      replace r16362 := r16362.step hs
      replace r16293 := r16293.step hs
      refine ev_alloc hp rfl T24 ?_
      intro g16365 w16366 hp hs
      replace a16200 := a16200.step hs
      replace r16194 := r16194.step hs
      replace r16360 := r16360.step hs
      replace r16362 := r16362.step hs
      replace r16293 := r16293.step hs
      refine ev_storeA hp (i := 1) (off := 0) (vs := [(.bool x16353.Neg), v16359]) rfl rfl rfl rfl T24 rfl (Nat.le_of_ble_eq_true rfl) (ones_cons rfl (ones_cons r16360.one ones_nil)) ?_
      intro w16367 hp hs
      replace a16200 := a16200.step hs
      replace r16194 := r16194.step hs
      replace r16362 := r16362.step hs
      replace r16360 := r16360.step hs
      replace r16293 := r16293.step hs
      refine ev_storeA hp (i := 0) (off := 0) (vs := [(.bool x16354.Neg), v16361]) rfl rfl rfl rfl T24 rfl (Nat.le_of_ble_eq_true rfl) (ones_cons rfl (ones_cons r16362.one ones_nil)) ?_
      intro w16368 hp hs
      replace a16200 := a16200.step hs
      replace r16194 := r16194.step hs
      replace r16362 := r16362.step hs
      replace r16360 := r16360.step hs
      replace r16293 := r16293.step hs
      apply go
      apply go
      refine ev (rn_load rfl rfl (run_loadVarA T24 rfl (hp.at_ (i := 3) rfl))) ?_
      refine ev (rn_load rfl rfl (run_loadVarA T24 rfl (hp.at_ (i := 1) rfl))) ?_
      obtain ⟨x16369, q16370, q16351⟩ := bind_some q16351
      refine ev_call rfl rfl C30 (((integer_Add_ok n) _ _  (Int_2.mk x16290 x16291) v16292 r16293 (Int_2.mk x16353.Neg x16353.Mag) v16359 r16360 hp.imm _ q16370).mono ?_)
      rintro _ w16371 ⟨I16372, v16373, hv, hq, r16374⟩
      replace hv := hv.symm
      subst hv
      have hs := hq.st
      have hp := hp.join0 hq
      replace a16200 := a16200.step hs
      replace r16194 := r16194.step hs
      replace r16362 := r16362.step hs
      replace r16360 := r16360.step hs
      replace r16293 := r16293.step hs
      obtain ⟨x16375, q16376, q16351⟩ := bind_some q16351
      refine ev_call rfl rfl C18 (((integer_Of_ok n) _ _  2 hp.imm _ q16376).mono ?_)
      rintro _ w16377 ⟨I16378, v16379, hv, hq, r16380⟩
      replace hv := hv.symm
      subst hv
      have hs := hq.st
      have hp := hp.join0 hq
      replace a16200 := a16200.step hs
      replace r16194 := r16194.step hs
      replace r16374 := r16374.step hs
      replace r16362 := r16362.step hs
      replace r16360 := r16360.step hs
      replace r16293 := r16293.step hs
      obtain ⟨⟨x16381, x16382, x16383⟩, q16384, q16351⟩ := bind_some q16351
      refine ev_call rfl rfl C24 (((integer_DivMod_ok n) _ _  x16369 v16373 r16374 x16375 v16379 r16380 hp.imm _ q16384).mono ?_)
      rintro _ w16385 ⟨I16386, v16387, v16389, hv, hq, r16388, r16390⟩
      replace hv := hv.symm
      subst hv
      have hs := hq.st
      have hp := hp.join0 hq
      replace a16200 := a16200.step hs
      replace r16194 := r16194.step hs
      replace r16362 := r16362.step hs
      replace r16360 := r16360.step hs
      replace r16293 := r16293.step hs
      refine ev_alloc hp rfl T24 ?_
      intro g16391 w16392 hp hs
      replace a16200 := a16200.step hs
      replace r16194 := r16194.step hs
      replace r16388 := r16388.step hs
      replace r16390 := r16390.step hs
      replace r16362 := r16362.step hs
      replace r16360 := r16360.step hs
      replace r16293 := r16293.step hs
      refine ev_alloc hp rfl T24 ?_
      intro g16393 w16394 hp hs
      replace a16200 := a16200.step hs
      replace r16194 := r16194.step hs
      replace r16388 := r16388.step hs
      replace r16390 := r16390.step hs
      replace r16362 := r16362.step hs
      replace r16360 := r16360.step hs
      replace r16293 := r16293.step hs
      refine ev_storeA hp (i := 1) (off := 0) (vs := [(.bool x16381.Neg), v16387]) rfl rfl rfl rfl T24 rfl (Nat.le_of_ble_eq_true rfl) (ones_cons rfl (ones_cons r16388.one ones_nil)) ?_
      intro w16395 hp hs
      replace a16200 := a16200.step hs
      replace r16194 := r16194.step hs
      replace r16390 := r16390.step hs
      replace r16388 := r16388.step hs
      replace r16362 := r16362.step hs
      replace r16360 := r16360.step hs
      replace r16293 := r16293.step hs
      refine ev_storeA hp (i := 0) (off := 0) (vs := [(.bool x16382.Neg), v16389]) rfl rfl rfl rfl T24 rfl (Nat.le_of_ble_eq_true rfl) (ones_cons rfl (ones_cons r16390.one ones_nil)) ?_
      intro w16396 hp hs
      replace a16200 := a16200.step hs
      replace r16194 := r16194.step hs
      replace r16390 := r16390.step hs
      replace r16388 := r16388.step hs
      replace r16362 := r16362.step hs
      replace r16360 := r16360.step hs
      replace r16293 := r16293.step hs
      apply go
      apply go
      apply go
      refine ev (rn_load rfl rfl (run_loadVarA T24 rfl (hp.at_ (i := 1) rfl))) ?_
      refine ev (rn_load rfl rfl (run_loadVarA T24 rfl (hp.at_ (i := 5) rfl))) ?_
      obtain ⟨x16397, q16398, q16351⟩ := bind_some q16351
      refine ev_call rfl rfl C17 (((integer_Cmp_ok n) _ _  (Int_2.mk x16381.Neg x16381.Mag) v16387 r16388 (Int_2.mk x16290 x16291) v16292 r16293 hp.imm _ q16398).mono ?_)
      rintro _ w16399 ⟨rfl, hc⟩
      have hs := hp.stp hc
      replace hp := hp.ext hc
      replace a16200 := a16200.step hs
      replace r16194 := r16194.step hs
      replace r16390 := r16390.step hs
      replace r16388 := r16388.step hs
      replace r16362 := r16362.step hs
      replace r16360 := r16360.step hs
      replace r16293 := r16293.step hs
      apply go
      refine sel_of (fun hc => ?_) (fun hc => ?_)
      ·
        have q16351 := cond_t q16351 hc
        apply go
        apply go
        refine ev (rn_load rfl rfl (run_loadVarA T24 rfl (hp.at_ (i := 5) rfl))) ?_
        refine ev_storeA hp (i := 4) (off := 0) (vs := [(.bool x16290), v16292]) rfl rfl rfl rfl T24 rfl (Nat.le_of_ble_eq_true rfl) (ones_cons rfl (ones_cons r16293.one ones_nil)) ?_
        intro w16400 hp hs
        replace r16390 := r16390.step hs
        replace r16388 := r16388.step hs
        replace r16362 := r16362.step hs
        replace r16360 := r16360.step hs
        replace r16293 := r16293.step hs
        apply go
        have q16401 := congrArg some (q16352 _ (Option.some.inj q16351).symm)
        obtain rfl := Option.some.inj q16401
        refine ⟨_, run_loadVarA T24 rfl (hp.at_ (i := 4) rfl), ?_⟩
        have hp := hp.sel [] (by decide)
        exact ⟨I16386, v16292, rfl, hp, r16293⟩
      ·
        have q16351 := cond_f q16351 hc
        apply go
        apply go
        refine ev (rn_load rfl rfl (run_loadVarA T24 rfl (hp.at_ (i := 1) rfl))) ?_
        refine ev_storeA hp (i := 5) (off := 0) (vs := [(.bool x16381.Neg), v16387]) rfl rfl rfl rfl T24 rfl (Nat.le_of_ble_eq_true rfl) (ones_cons rfl (ones_cons r16388.one ones_nil)) ?_
        intro w16402 hp hs
        replace a16200 := a16200.step hs
        replace r16194 := r16194.step hs
        replace r16390 := r16390.step hs
        replace r16388 := r16388.step hs
        replace r16362 := r16362.step hs
        replace r16360 := r16360.step hs
        have hp := hp.sel [4, 5] (by decide)
        exact ⟨_, (Option.some.inj q16351).symm, (v16387, I16386), (.c rfl (.c rfl (.c rfl .n))), ⟨hp, r16194, a16200, r16388⟩⟩

end Go.Proofs.YthhghkcopfnbiaaGreatDoor

namespace Go.Proofs.YthhghkcopfnbiaaGreatDoor
open Go Go.Proofs.YthhghkcopfnbiaaGreatDoor.Gw Go.RowKit
set_option linter.unusedVariables false
attribute [local irreducible] Ev EvQ EvS EvH
def ref01_trim_S (f : (List Int) → Option (List Int)) : Prop := ∀ (w0 : World) (I0 : Nat → Prop) (x19225 : (List Int)) (v19226 : Value) (r19227 : RepS (dI .u32) w0 I0 v19226 x19225) (hI : ∀ g, I0 g → g < w0.heap.size) (r : (List Int)), f x19225 = some r →
    Ret Tryz.prog 47 #[v19226] w0 fun v w1 => ∃ (I1 : Nat → Prop) (u19228 : Value) (u19229 : Ent), v = u19228 ∧ Hp ⟨w0, I0, []⟩ I1 [u19229] w1 ∧ OwnS (dI .u32) 45 w1 I1 u19228 u19229 r
theorem ref01_trim_ok (n : Nat) : ref01_trim_S (ref01_trim n) := by
  intro w0 I0 x19225 v19226 r19227 hI r h
  unfold ref01_trim at h
  refine enter Tryz.func47 rfl (Nat.le_of_ble_eq_true rfl) ?_
  have hp : Hp ⟨w0, I0, []⟩ I0 [] w0 := Hp.start hI
  apply go
  apply go
  obtain ⟨y19300, q19301, h⟩ := bind_some h
  refine W.cut (γ := ((List Int) × Value)) (fun g => [(0, (g.2))]) (fun g w' => y19300 = (g.1) ∧ w0 = w' ∧ RepS (dI .u32) w' I0 (g.2) (g.1)) ?_ ?_
  ·
    apply go
    refine W.loop q19301 (γ := Value) (fun s g => [(0, (g))]) (fun s g w' => w0 = w' ∧ RepS (dI .u32) w' I0 (g) (s)) v19226 (.c rfl .n) ⟨rfl, r19227⟩ ?_
    rintro x19321 v19322 _ y19346 ⟨rfl, r19323⟩ q19347 q19348
    unfold ref01_trim_L1 at q19347
    apply go
    obtain ⟨y19356, q19357, q19347⟩ := bind_some q19347
    refine W.cut (γ := Bool) (fun g => [(0, v19322), (14, (.bool (g)))]) (fun g w' => y19356 = (g) ∧ w0 = w') ?_ ?_
    ·
      apply go
      refine ev0 (rn_len rfl rfl Tryz.underlying22 r19323) ?_
      refine sel_of (fun hc => ?_) (fun hc => ?_)
      ·
        have q19357 := cond_t q19357 hc
        refine ev0 (rn_len rfl rfl Tryz.underlying22 r19323) ?_
        obtain ⟨x19358, q19359, q19357⟩ := bind_some q19357
        refine ev_index rfl rfl rfl Tryz.underlying22 T45 r19323 q19359 ?_
        intro p19360 c19361 d19362 a19363
        obtain rfl : c19361 = [(.int .u32 x19358)] := d19362
        refine ev (rn_load rfl rfl (run_loadVar1 T45 (a19363.2 0 _ rfl))) ?_
        obtain rfl := Option.some.inj q19357
        exact ⟨(x19358 == 0), (.c rfl (.c rfl .n)), rfl, rfl⟩
      ·
        have q19357 := cond_f q19357 hc
        obtain rfl := Option.some.inj q19357
        exact ⟨false, (.c rfl (.c rfl .n)), rfl, rfl⟩
    ·
      rintro x19355 _ ⟨hy, rfl⟩
      replace hy := hy.symm
      subst hy
      apply go
      refine sel_of (fun hc => ?_) (fun hc => ?_)
      ·
        have q19347 := cond_t q19347 hc
        apply go
        apply go
        apply go
        refine ev0 (rn_len rfl rfl Tryz.underlying22 r19323) ?_
        obtain ⟨x19364, q19365, q19347⟩ := bind_some q19347
        refine ev_slice (kl := .i64) (kh := .i64) rfl rfl rfl rfl Tryz.underlying22 T45 r19323 q19365 ?_
        intro v19366 r19367
        exact ⟨_, (Option.some.inj q19347).symm, v19366, (.c rfl .n), ⟨rfl, r19367⟩⟩
      ·
        have q19347 := cond_f q19347 hc
        apply go
        have q19368 := congrArg some (q19348 _ (Option.some.inj q19347).symm)
        obtain rfl := Option.some.inj q19368
        exact ⟨(x19321, v19322), (.c rfl .n), rfl, rfl, r19323⟩
  ·
    rintro ⟨x19297, v19298⟩ _ ⟨hy, rfl, r19299⟩
    replace hy := hy.symm
    subst hy
    apply go
    apply go
    refine ev_litON (d := (dI .u32)) (xs := ([] : List Int)) (cs := []) hp rfl rfl Tryz.underlying22 T45 (by decide) (by decide) rfl rfl (Elems.nil _ _ _ _) ?_
    intro v19369 e19371 w19370 hp hs o19372
    replace r19299 := r19299.step hs
    obtain ⟨x19373, q19374, h⟩ := bind_some h
    refine ev_append hp (i := 0) rfl rfl rfl rfl Tryz.underlying22 T45 rfl rfl o19372 r19299 q19374 ?_
    rintro v19375 e19376 w19377 hp hs o19378
    apply go
    obtain rfl := Option.some.inj h
    exact ⟨I0, v19375, e19376, rfl, hp, o19378⟩

end Go.Proofs.YthhghkcopfnbiaaGreatDoor

namespace Go.Proofs.YthhghkcopfnbiaaGreatDoor
open Go Go.Proofs.YthhghkcopfnbiaaGreatDoor.Gw Go.RowKit
set_option linter.unusedVariables false
attribute [local irreducible] Ev EvQ EvS EvH
def ref01_Norm_S (f : Int_2 → Option Int_2) : Prop := ∀ (w0 : World) (I0 : Nat → Prop) (x19379 : Int_2) (v19380 : Value) (r19381 : RepS (dI .u32) w0 I0 v19380 x19379.Mag) (hI : ∀ g, I0 g → g < w0.heap.size) (r : Int_2), f x19379 = some r →
    Ret Tryz.prog 28 #[(.agg #[(.bool x19379.Neg), v19380])] w0 fun v w1 => ∃ (I1 : Nat → Prop) (u19382 : Value), v = (.agg #[(.bool r.Neg), u19382]) ∧ Hp ⟨w0, I0, []⟩ I1 [] w1 ∧ RepS (dI .u32) w1 I1 u19382 r.Mag
theorem ref01_Norm_ok (n : Nat) : ref01_Norm_S (ref01_Norm n) := by
  intro w0 I0 x19379 v19380 r19381 hI r h
  unfold ref01_Norm at h
  refine enter Tryz.func28 rfl (Nat.le_of_ble_eq_true rfl) ?_
  have hp : Hp ⟨w0, I0, []⟩ I0 [] w0 := Hp.start hI
  apply go
  apply go
  refine ev_boxI hp rfl rfl ?_
  intro p19385 I19386 w19384 hp hs a19387
  replace r19381 := r19381.step hs
  refine ev_alloc hp rfl T24 ?_
  intro g19388 w19389 hp hs
  replace a19387 := a19387.step hs
  replace r19381 := r19381.step hs
  apply go
  apply go
  refine ev0 (rn_field rfl rfl FO24_1) ?_
  refine ev (rn_load rfl rfl (run_loadVar1 T22 (a19387.2 1 _ rfl))) ?_
  obtain ⟨x19390, q19391, h⟩ := bind_some h
  refine ev_call rfl rfl C47 (((ref01_trim_ok n) _ _  x19379.Mag v19380 r19381 hp.imm _ q19391).mono ?_)
  rintro _ w19392 ⟨I19393, v19394, e19395, hv, hq, o19396⟩
  replace hv := hv.symm
  subst hv
  have hs := hq.st
  have hp := hp.join0 hq
  replace a19387 := a19387.step hs
  replace r19381 := r19381.step hs
  obtain ⟨y19413, q19414, h⟩ := bind_some h
  refine W.cut (γ := (Bool × (List Int) × Value × Ent)) (fun g => [(2, (.pointer (some ⟨g19388, 0, none⟩)))]) (fun g w' => y19413 = ((g.1), (g.2.1)) ∧ Hp ⟨w0, I0, []⟩ I19393 [(g.2.2.2), some (g19388, [(.bool (g.1)), (g.2.2.1)], 24)] w' ∧ OwnS (dI .u32) 45 w' I19393 (g.2.2.1) (g.2.2.2) (g.2.1)) ?_ ?_
  ·
    apply go
    refine ev0 (rn_field rfl rfl FO24_0) ?_
    refine ev (rn_load rfl rfl (run_loadVar1 T4 (a19387.2 0 _ rfl))) ?_
    refine sel_of (fun hc => ?_) (fun hc => ?_)
    ·
      have q19414 := cond_t q19414 hc
      refine ev0 (x_lenO rfl rfl Tryz.underlying22 o19396) ?_
      obtain ⟨A19415, m19416, m19417, rfl⟩ := o19396.isSl
      refine ev0 (fun w => rn_build (cs := [(.bool (decide ((x19390.length : Int) > 0))), (.slice A19415 m19416 m19417)]) rfl rfl T24 PL24 rfl) ?_
      refine ev_storeA hp (i := 1) (off := 0) (vs := [(.bool (decide ((x19390.length : Int) > 0))), (.slice A19415 m19416 m19417)]) rfl rfl rfl rfl T24 rfl (Nat.le_of_ble_eq_true rfl) (ones_cons rfl (ones_cons o19396.one ones_nil)) ?_
      intro w19419 hp hs
      replace o19396 := o19396.step hs
      obtain rfl := Option.some.inj q19414
      exact ⟨((decide ((x19390.length : Int) > 0)), x19390, (.slice A19415 m19416 m19417), e19395), (.c rfl .n), rfl, hp, o19396⟩
    ·
      have q19414 := cond_f q19414 hc
      obtain ⟨A19420, m19421, m19422, rfl⟩ := o19396.isSl
      refine ev0 (fun w => rn_build (cs := [(.bool false), (.slice A19420 m19421 m19422)]) rfl rfl T24 PL24 rfl) ?_
      refine ev_storeA hp (i := 1) (off := 0) (vs := [(.bool false), (.slice A19420 m19421 m19422)]) rfl rfl rfl rfl T24 rfl (Nat.le_of_ble_eq_true rfl) (ones_cons rfl (ones_cons o19396.one ones_nil)) ?_
      intro w19424 hp hs
      replace o19396 := o19396.step hs
      obtain rfl := Option.some.inj q19414
      exact ⟨(false, x19390, (.slice A19420 m19421 m19422), e19395), (.c rfl .n), rfl, hp, o19396⟩
  ·
    rintro ⟨x19407, x19408, v19409, e19410⟩ w19412 ⟨hy, hp, o19411⟩
    replace hy := hy.symm
    subst hy
    apply go
    obtain rfl := Option.some.inj h
    have r19425 := o19411.frz hp (i := 0) rfl
    obtain ⟨hp, hs⟩ := freeze_hp hp (i := 0) rfl
    have hp := hp.sel [1] (by decide)
    refine ⟨_, run_loadVarA T24 rfl (hp.at_ (i := 0) rfl), ?_⟩
    have hp := hp.sel [] (by decide)
    exact ⟨(Ad I19393 e19410), v19409, rfl, hp, r19425⟩

end Go.Proofs.YthhghkcopfnbiaaGreatDoor

namespace Go.Proofs.YthhghkcopfnbiaaGreatDoor
open Go Go.Proofs.YthhghkcopfnbiaaGreatDoor.Gw Go.RowKit
set_option linter.unusedVariables false
attribute [local irreducible] Ev EvQ EvS EvH
def ref01_Of_S (f : Int → Option Int_2) : Prop := ∀ (w0 : World) (I0 : Nat → Prop) (x19426 : Int) (hI : ∀ g, I0 g → g < w0.heap.size) (r : Int_2), f x19426 = some r →
    Ret Tryz.prog 45 #[(.int .i64 x19426)] w0 fun v w1 => ∃ (I1 : Nat → Prop) (u19427 : Value), v = (.agg #[(.bool r.Neg), u19427]) ∧ Hp ⟨w0, I0, []⟩ I1 [] w1 ∧ RepS (dI .u32) w1 I1 u19427 r.Mag
theorem ref01_Of_ok (n : Nat) : ref01_Of_S (ref01_Of n) := by
  intro w0 I0 x19426 hI r h
  unfold ref01_Of at h
  refine enter Tryz.func45 rfl (Nat.le_of_ble_eq_true rfl) ?_
  have hp : Hp ⟨w0, I0, []⟩ I0 [] w0 := Hp.start hI
  apply go
  apply go
  refine ev_alloc hp rfl T24 ?_
  intro g19428 w19429 hp hs
  apply go
  apply go
  refine ev0 (rn_conv rfl rfl U3 Tryz.underlying49) ?_
  obtain ⟨y19431, q19432, h⟩ := bind_some h
  refine W.cut (γ := Int) (fun g => [(0, (.int .i64 x19426)), (2, (.pointer (some ⟨g19428, 0, none⟩))), (3, (.int .u64 (g)))]) (fun g w' => y19431 = (g) ∧ w19429 = w') ?_ ?_
  ·
    apply go
    apply go
    apply go
    refine sel_of (fun hc => ?_) (fun hc => ?_)
    ·
      have q19432 := cond_t q19432 hc
      apply go
      obtain rfl := Option.some.inj q19432
      exact ⟨(IntKind.u64.wrap (0 - (IntKind.u64.wrap x19426))), (.c rfl (.c rfl (.c rfl .n))), rfl, rfl⟩
    ·
      have q19432 := cond_f q19432 hc
      apply go
      obtain rfl := Option.some.inj q19432
      exact ⟨(IntKind.u64.wrap x19426), (.c rfl (.c rfl (.c rfl .n))), rfl, rfl⟩
  ·
    rintro x19430 _ ⟨hy, rfl⟩
    replace hy := hy.symm
    subst hy
    apply go
    apply go
    refine ev0 (rn_conv rfl rfl U49 Tryz.underlying45) ?_
    refine ⟨by decide, ?_⟩
    refine ev0 (rn_conv rfl rfl U49 Tryz.underlying45) ?_
    refine ev_litN (d := (dI .u32)) (xs := [(IntKind.u32.wrap x19430), (IntKind.u32.wrap (x19430.fdiv (2 ^ min (32 : Int).toNat (IntKind.u64).bits)))]) (cs := [(.int .u32 (IntKind.u32.wrap x19430)), (.int .u32 (IntKind.u32.wrap (x19430.fdiv (2 ^ min (32 : Int).toNat (IntKind.u64).bits))))]) hp rfl rfl Tryz.underlying22 T45 (by decide) rfl rfl (Elems.cons (d := (dI .u32)) (xs := _) rfl (Elems.cons (d := (dI .u32)) (xs := _) rfl (Elems.nil _ _ _ _))) ?_
    intro v19433 I19435 w19434 hp hs r19436
    obtain ⟨A19437, m19438, m19439, rfl⟩ := r19436.isSl
    refine ev0 (fun w => rn_build (cs := [(.bool (decide (x19426 < 0))), (.slice A19437 m19438 m19439)]) rfl rfl T24 PL24 rfl) ?_
    obtain ⟨x19441, q19442, h⟩ := bind_some h
    refine ev_call rfl rfl C28 (((ref01_Norm_ok n) _ _  (Int_2.mk (decide (x19426 < 0)) [(IntKind.u32.wrap x19430), (IntKind.u32.wrap (x19430.fdiv (2 ^ min (32 : Int).toNat (IntKind.u64).bits)))]) (.slice A19437 m19438 m19439) r19436 hp.imm _ q19442).mono ?_)
    rintro _ w19443 ⟨I19444, v19445, hv, hq, r19446⟩
    replace hv := hv.symm
    subst hv
    have hs := hq.st
    have hp := hp.join0 hq
    refine ev_storeA hp (i := 0) (off := 0) (vs := [(.bool x19441.Neg), v19445]) rfl rfl rfl rfl T24 rfl (Nat.le_of_ble_eq_true rfl) (ones_cons rfl (ones_cons r19446.one ones_nil)) ?_
    intro w19447 hp hs
    replace r19446 := r19446.step hs
    apply go
    obtain rfl := Option.some.inj h
    refine ⟨_, run_loadVarA T24 rfl (hp.at_ (i := 0) rfl), ?_⟩
    have hp := hp.sel [] (by decide)
    exact ⟨I19444, v19445, rfl, hp, r19446⟩

end Go.Proofs.YthhghkcopfnbiaaGreatDoor

namespace Go.Proofs.YthhghkcopfnbiaaGreatDoor
open Go Go.Proofs.YthhghkcopfnbiaaGreatDoor.Gw Go.RowKit
set_option linter.unusedVariables false
attribute [local irreducible] Ev EvQ EvS EvH vch
def law01_awake_S (f : Option Bool) : Prop := ∀ (w0 : World) (I0 : Nat → Prop) (tb : Tb w0 I0 1 .u64 pow10)  (hI : ∀ g, I0 g → g < w0.heap.size) (r : Bool), f  = some r →
    Ret Tryz.prog 13 #[] w0 fun v w1 => v = (.bool r) ∧ Ch [] w0 w1
theorem law01_awake_ok (n : Nat) : law01_awake_S (law01_awake n) := by
  intro w0 I0 tb hI r h
  unfold law01_awake at h
  refine enter Tryz.func13 rfl (Nat.le_of_ble_eq_true rfl) ?_
  have hp : Hp ⟨w0, I0, []⟩ I0 [] w0 := Hp.start hI
  apply go
  apply go
  apply go
  apply go
  obtain ⟨x22008, q22009, h⟩ := bind_some h
  refine ev_call rfl rfl C18 (((integer_Of_ok n) _ _  (-7) hp.imm _ q22009).mono ?_)
  rintro _ w22010 ⟨I22011, v22012, hv, hq, r22013⟩
  replace hv := hv.symm
  subst hv
  have hs := hq.st
  have hp := hp.join0 hq
  replace tb := tb.step hs
  obtain ⟨x22014, q22015, h⟩ := bind_some h
  refine ev_call rfl rfl C18 (((integer_Of_ok n) _ _  2 hp.imm _ q22015).mono ?_)
  rintro _ w22016 ⟨I22017, v22018, hv, hq, r22019⟩
  replace hv := hv.symm
  subst hv
  have hs := hq.st
  have hp := hp.join0 hq
  replace r22013 := r22013.step hs
  replace tb := tb.step hs
  obtain ⟨⟨x22020, x22021, x22022⟩, q22023, h⟩ := bind_some h
  refine ev_call rfl rfl C24 (((integer_DivMod_ok n) _ _  x22008 v22012 r22013 x22014 v22018 r22019 hp.imm _ q22023).mono ?_)
  rintro _ w22024 ⟨I22025, v22026, v22028, hv, hq, r22027, r22029⟩
  replace hv := hv.symm
  subst hv
  have hs := hq.st
  have hp := hp.join0 hq
  replace tb := tb.step hs
  refine ev_alloc hp rfl T24 ?_
  intro g22030 w22031 hp hs
  replace r22027 := r22027.step hs
  replace r22029 := r22029.step hs
  replace tb := tb.step hs
  refine ev_alloc hp rfl T24 ?_
  intro g22032 w22033 hp hs
  replace r22027 := r22027.step hs
  replace r22029 := r22029.step hs
  replace tb := tb.step hs
  refine ev_storeA hp (i := 1) (off := 0) (vs := [(.bool x22020.Neg), v22026]) rfl rfl rfl rfl T24 rfl (Nat.le_of_ble_eq_true rfl) (ones_cons rfl (ones_cons r22027.one ones_nil)) ?_
  intro w22034 hp hs
  replace r22029 := r22029.step hs
  replace r22027 := r22027.step hs
  replace tb := tb.step hs
  refine ev_storeA hp (i := 0) (off := 0) (vs := [(.bool x22021.Neg), v22028]) rfl rfl rfl rfl T24 rfl (Nat.le_of_ble_eq_true rfl) (ones_cons rfl (ones_cons r22029.one ones_nil)) ?_
  intro w22035 hp hs
  replace r22029 := r22029.step hs
  replace r22027 := r22027.step hs
  replace tb := tb.step hs
  apply go
  apply go
  refine ev (rn_load rfl rfl (run_loadVarA T24 rfl (hp.at_ (i := 1) rfl))) ?_
  refine ev_litN (d := (dI .u32)) (xs := [0]) (cs := [(.int .u32 0)]) hp rfl rfl Tryz.underlying22 T45 (by decide) rfl rfl (Elems.cons (d := (dI .u32)) (xs := _) rfl (Elems.nil _ _ _ _)) ?_
  intro v22036 I22038 w22037 hp hs r22039
  replace r22027 := r22027.step hs
  replace r22029 := r22029.step hs
  replace tb := tb.step hs
  obtain ⟨A22040, m22041, m22042, rfl⟩ := r22039.isSl
  refine ev0 (fun w => rn_build (cs := [(.bool true), (.slice A22040 m22041 m22042)]) rfl rfl T24 PL24 rfl) ?_
  obtain ⟨⟨x22044, x22045, x22046⟩, q22047, h⟩ := bind_some h
  refine ev_call rfl rfl C24 (((integer_DivMod_ok n) _ _  (Int_2.mk x22020.Neg x22020.Mag) v22026 r22027 (Int_2.mk true [0]) (.slice A22040 m22041 m22042) r22039 hp.imm _ q22047).mono ?_)
  rintro _ w22048 ⟨I22049, v22050, v22052, hv, hq, r22051, r22053⟩
  replace hv := hv.symm
  subst hv
  have hs := hq.st
  have hp := hp.join0 hq
  replace r22029 := r22029.step hs
  replace r22027 := r22027.step hs
  replace tb := tb.step hs
  refine ev_alloc hp rfl T24 ?_
  intro g22054 w22055 hp hs
  replace r22051 := r22051.step hs
  replace r22053 := r22053.step hs
  replace r22029 := r22029.step hs
  replace r22027 := r22027.step hs
  replace tb := tb.step hs
  refine ev_alloc hp rfl T24 ?_
  intro g22056 w22057 hp hs
  replace r22051 := r22051.step hs
  replace r22053 := r22053.step hs
  replace r22029 := r22029.step hs
  replace r22027 := r22027.step hs
  replace tb := tb.step hs
  refine ev_storeA hp (i := 1) (off := 0) (vs := [(.bool x22044.Neg), v22050]) rfl rfl rfl rfl T24 rfl (Nat.le_of_ble_eq_true rfl) (ones_cons rfl (ones_cons r22051.one ones_nil)) ?_
  intro w22058 hp hs
  replace r22053 := r22053.step hs
  replace r22051 := r22051.step hs
  replace r22029 := r22029.step hs
  replace r22027 := r22027.step hs
  replace tb := tb.step hs
  refine ev_storeA hp (i := 0) (off := 0) (vs := [(.bool x22045.Neg), v22052]) rfl rfl rfl rfl T24 rfl (Nat.le_of_ble_eq_true rfl) (ones_cons rfl (ones_cons r22053.one ones_nil)) ?_
  intro w22059 hp hs
  replace r22053 := r22053.step hs
  replace r22051 := r22051.step hs
  replace r22029 := r22029.step hs
  replace r22027 := r22027.step hs
  replace tb := tb.step hs
  apply go
  apply go
  refine ev_litN (d := (dI .u32)) (xs := [7, 0]) (cs := [(.int .u32 7), (.int .u32 0)]) hp rfl rfl Tryz.underlying22 T45 (by decide) rfl rfl (Elems.cons (d := (dI .u32)) (xs := _) rfl (Elems.cons (d := (dI .u32)) (xs := _) rfl (Elems.nil _ _ _ _))) ?_
  intro v22060 I22062 w22061 hp hs r22063
  replace r22053 := r22053.step hs
  replace r22051 := r22051.step hs
  replace r22029 := r22029.step hs
  replace r22027 := r22027.step hs
  replace tb := tb.step hs
  obtain ⟨A22064, m22065, m22066, rfl⟩ := r22063.isSl
  refine ev0 (fun w => rn_build (cs := [(.bool true), (.slice A22064 m22065 m22066)]) rfl rfl T24 PL24 rfl) ?_
  obtain ⟨⟨x22068, x22069⟩, q22070, h⟩ := bind_some h
  refine ev_call rfl rfl C15 (((integer_Small_ok n) _ _  (Int_2.mk true [7, 0]) (.slice A22064 m22065 m22066) r22063 hp.imm _ q22070).mono ?_)
  rintro _ w22071 ⟨rfl, hc⟩
  have hs := hp.stp hc
  replace hp := hp.ext hc
  replace r22053 := r22053.step hs
  replace r22051 := r22051.step hs
  replace r22029 := r22029.step hs
  replace r22027 := r22027.step hs
  replace tb := tb.step hs
  apply go
  apply go
  obtain ⟨x22072, q22073, h⟩ := bind_some h
  refine ev_call rfl rfl C18 (((integer_Of_ok n) _ _  24 hp.imm _ q22073).mono ?_)
  rintro _ w22074 ⟨I22075, v22076, hv, hq, r22077⟩
  replace hv := hv.symm
  subst hv
  have hs := hq.st
  have hp := hp.join0 hq
  replace r22053 := r22053.step hs
  replace r22051 := r22051.step hs
  replace r22029 := r22029.step hs
  replace r22027 := r22027.step hs
  replace tb := tb.step hs
  obtain ⟨⟨x22078, x22079⟩, q22080, h⟩ := bind_some h
  refine ev_call rfl rfl C33 (((integer_Sqrt_ok n) _ _  x22072 v22076 r22077 hp.imm _ q22080).mono ?_)
  rintro _ w22081 ⟨I22082, v22083, hv, hq, r22084⟩
  replace hv := hv.symm
  subst hv
  have hs := hq.st
  have hp := hp.join0 hq
  replace r22053 := r22053.step hs
  replace r22051 := r22051.step hs
  replace r22029 := r22029.step hs
  replace r22027 := r22027.step hs
  replace tb := tb.step hs
  refine ev_alloc hp rfl T24 ?_
  intro g22085 w22086 hp hs
  replace r22084 := r22084.step hs
  replace r22053 := r22053.step hs
  replace r22051 := r22051.step hs
  replace r22029 := r22029.step hs
  replace r22027 := r22027.step hs
  replace tb := tb.step hs
  refine ev_storeA hp (i := 0) (off := 0) (vs := [(.bool x22078.Neg), v22083]) rfl rfl rfl rfl T24 rfl (Nat.le_of_ble_eq_true rfl) (ones_cons rfl (ones_cons r22084.one ones_nil)) ?_
  intro w22087 hp hs
  replace r22084 := r22084.step hs
  replace r22053 := r22053.step hs
  replace r22051 := r22051.step hs
  replace r22029 := r22029.step hs
  replace r22027 := r22027.step hs
  replace tb := tb.step hs
  apply go
  apply go
  obtain ⟨⟨x22088, x22089⟩, q22090, h⟩ := bind_some h
  refine ev_call rfl rfl C26 (((integer_Parse_ok n) _ _ tb (ByteArray.mk #[45, 48]) hp.imm _ q22090).mono ?_)
  rintro _ w22091 ⟨I22092, v22093, hv, hq, r22094⟩
  replace hv := hv.symm
  subst hv
  have hs := hq.st
  have hp := hp.join0 hq
  replace r22084 := r22084.step hs
  replace r22053 := r22053.step hs
  replace r22051 := r22051.step hs
  replace r22029 := r22029.step hs
  replace r22027 := r22027.step hs
  replace tb := tb.step hs
  refine ev_alloc hp rfl T24 ?_
  intro g22095 w22096 hp hs
  replace r22094 := r22094.step hs
  replace r22084 := r22084.step hs
  replace r22053 := r22053.step hs
  replace r22051 := r22051.step hs
  replace r22029 := r22029.step hs
  replace r22027 := r22027.step hs
  replace tb := tb.step hs
  refine ev_storeA hp (i := 0) (off := 0) (vs := [(.bool x22088.Neg), v22093]) rfl rfl rfl rfl T24 rfl (Nat.le_of_ble_eq_true rfl) (ones_cons rfl (ones_cons r22094.one ones_nil)) ?_
  intro w22097 hp hs
  replace r22094 := r22094.step hs
  replace r22084 := r22084.step hs
  replace r22053 := r22053.step hs
  replace r22051 := r22051.step hs
  replace r22029 := r22029.step hs
  replace r22027 := r22027.step hs
  replace tb := tb.step hs
  obtain ⟨y22273, q22274, h⟩ := bind_some h
  refine W.cut (γ := (Bool × (Nat → Prop))) (fun g => [(0, (.bool (g.1)))]) (fun g w' => y22273 = (g.1) ∧ Hp ⟨w0, I0, []⟩ (g.2) [] w' ∧ Tb w' (g.2) 1 .u64 pow10) ?_ ?_
  ·
    have hs := hp.stp (Ch.drew [] w22097)
    have hp := hp.drew
    replace r22094 := r22094.step hs
    replace r22084 := r22084.step hs
    replace r22053 := r22053.step hs
    replace r22051 := r22051.step hs
    replace r22029 := r22029.step hs
    replace r22027 := r22027.step hs
    replace tb := tb.step hs
    refine W.heldT [(0, true), (1, false), (2, false), (3, true), (4, true), (5, false), (6, false), (7, true), (8, true), (9, true), (10, true), (11, true), (12, true), (13, true), (14, true), (15, true), (16, true), (17, true), (18, true), (19, true), (20, true), (21, true), (22, true), (23, true), (24, true), (25, false), (26, false), (27, true), (28, true), (29, true), (30, true), (31, true), (32, true), (33, true), (34, true), (35, true), (36, true), (37, true), (38, true), (39, true), (40, true), (41, true), (42, true), (43, false), (44, true), (45, false), (46, true), (47, true), (48, true), (49, false), (50, false), (51, false), (52, false), (53, false), (54, true), (55, true), (56, false), (57, false), (58, true), (59, true), (60, true)] (fun x => Stp I22092 w22097.drew I22092 x ∧ OwnK [(g22030, [(.bool x22020.Neg), v22026], 24), (g22032, [(.bool x22021.Neg), v22028], 24), (g22085, [(.bool x22078.Neg), v22083], 24), (g22095, [(.bool x22088.Neg), v22093], 24)] x) MX (by kernel_rfl) ⟨Stp.refl _ _, (OwnK.cons (hp.own 5 _ _ _ rfl).1 (OwnK.cons (hp.own 4 _ _ _ rfl).1 (OwnK.cons (hp.own 1 _ _ _ rfl).1 (OwnK.cons (hp.own 0 _ _ _ rfl).1 OwnK.nil))))⟩ ?_
    have hz := Stp.refl I22092 w22097.drew
    intro ops hops
    have e0 : nthO ops 0 = some _ := (hops 0).trans rfl
    have e1 : nthO ops 1 = some _ := (hops 1).trans rfl
    have e2 : nthO ops 2 = some _ := (hops 2).trans rfl
    have e3 : nthO ops 3 = some _ := (hops 3).trans rfl
    have e4 : nthO ops 4 = some _ := (hops 4).trans rfl
    have e5 : nthO ops 5 = some _ := (hops 5).trans rfl
    have e6 : nthO ops 6 = some _ := (hops 6).trans rfl
    have e7 : nthO ops 7 = some _ := (hops 7).trans rfl
    have e8 : nthO ops 8 = some _ := (hops 8).trans rfl
    have e9 : nthO ops 9 = some _ := (hops 9).trans rfl
    have e10 : nthO ops 10 = some _ := (hops 10).trans rfl
    have e11 : nthO ops 11 = some _ := (hops 11).trans rfl
    have e12 : nthO ops 12 = some _ := (hops 12).trans rfl
    have e13 : nthO ops 13 = some _ := (hops 13).trans rfl
    have e14 : nthO ops 14 = some _ := (hops 14).trans rfl
    have e15 : nthO ops 15 = some _ := (hops 15).trans rfl
    have e16 : nthO ops 16 = some _ := (hops 16).trans rfl
    have e17 : nthO ops 17 = some _ := (hops 17).trans rfl
    have e18 : nthO ops 18 = some _ := (hops 18).trans rfl
    have e19 : nthO ops 19 = some _ := (hops 19).trans rfl
    have e20 : nthO ops 20 = some _ := (hops 20).trans rfl
    have e21 : nthO ops 21 = some _ := (hops 21).trans rfl
    have e22 : nthO ops 22 = some _ := (hops 22).trans rfl
    have e23 : nthO ops 23 = some _ := (hops 23).trans rfl
    have e24 : nthO ops 24 = some _ := (hops 24).trans rfl
    have e25 : nthO ops 25 = some _ := (hops 25).trans rfl
    have e26 : nthO ops 26 = some _ := (hops 26).trans rfl
    have e27 : nthO ops 27 = some _ := (hops 27).trans rfl
    have e28 : nthO ops 28 = some _ := (hops 28).trans rfl
    have e29 : nthO ops 29 = some _ := (hops 29).trans rfl
    have e30 : nthO ops 30 = some _ := (hops 30).trans rfl
    have e31 : nthO ops 31 = some _ := (hops 31).trans rfl
    have e32 : nthO ops 32 = some _ := (hops 32).trans rfl
    have e33 : nthO ops 33 = some _ := (hops 33).trans rfl
    have e34 : nthO ops 34 = some _ := (hops 34).trans rfl
    have e35 : nthO ops 35 = some _ := (hops 35).trans rfl
    have e36 : nthO ops 36 = some _ := (hops 36).trans rfl
    have e37 : nthO ops 37 = some _ := (hops 37).trans rfl
    have e38 : nthO ops 38 = some _ := (hops 38).trans rfl
    have e39 : nthO ops 39 = some _ := (hops 39).trans rfl
    have e40 : nthO ops 40 = some _ := (hops 40).trans rfl
    have e41 : nthO ops 41 = some _ := (hops 41).trans rfl
    have e42 : nthO ops 42 = some _ := (hops 42).trans rfl
    have e43 : nthO ops 43 = some _ := (hops 43).trans rfl
    have e44 : nthO ops 44 = some _ := (hops 44).trans rfl
    have e45 : nthO ops 45 = some _ := (hops 45).trans rfl
    have e46 : nthO ops 46 = some _ := (hops 46).trans rfl
    have e47 : nthO ops 47 = some _ := (hops 47).trans rfl
    have e48 : nthO ops 48 = some _ := (hops 48).trans rfl
    have e49 : nthO ops 49 = some _ := (hops 49).trans rfl
    have e50 : nthO ops 50 = some _ := (hops 50).trans rfl
    have e51 : nthO ops 51 = some _ := (hops 51).trans rfl
    have e52 : nthO ops 52 = some _ := (hops 52).trans rfl
    have e53 : nthO ops 53 = some _ := (hops 53).trans rfl
    have e54 : nthO ops 54 = some _ := (hops 54).trans rfl
    have e55 : nthO ops 55 = some _ := (hops 55).trans rfl
    have e56 : nthO ops 56 = some _ := (hops 56).trans rfl
    have e57 : nthO ops 57 = some _ := (hops 57).trans rfl
    have e58 : nthO ops 58 = some _ := (hops 58).trans rfl
    have e59 : nthO ops 59 = some _ := (hops 59).trans rfl
    have e60 : nthO ops 60 = some _ := (hops 60).trans rfl
    clear hops
    refine vch_q e0 rfl ?_
    refine evh (fun w' hw => rn_load rfl rfl (run_loadVarA T24 rfl (hw.2.at_ (i := 0) rfl))) ?_
    refine vch_l e1 rfl ?_
    obtain ⟨x22361, q22362, q22274⟩ := bind_some q22274
    refine ev_call rfl rfl C45 (((ref01_Of_ok n) _ _  (-4) hp.imm _ q22362).mono ?_)
    rintro _ w22363 ⟨I22364, v22365, hv, hq, r22366⟩
    replace hv := hv.symm
    subst hv
    have hs := hq.st
    have hp := hp.join0 hq
    replace hz := hz.trans hs
    replace r22027 := r22027.step hs
    replace r22094 := r22094.step hs
    replace r22084 := r22084.step hs
    replace r22053 := r22053.step hs
    replace r22051 := r22051.step hs
    replace r22029 := r22029.step hs
    replace tb := tb.step hs
    refine ⟨fun x => Stp I22364 w22363 I22364 x ∧ OwnK [(g22030, [(.bool x22020.Neg), v22026], 24), (g22032, [(.bool x22021.Neg), v22028], 24), (g22085, [(.bool x22078.Neg), v22083], 24), (g22095, [(.bool x22088.Neg), v22093], 24)] x, ⟨Stp.refl _ _, (OwnK.cons (hp.own 5 _ _ _ rfl).1 (OwnK.cons (hp.own 4 _ _ _ rfl).1 (OwnK.cons (hp.own 1 _ _ _ rfl).1 (OwnK.cons (hp.own 0 _ _ _ rfl).1 OwnK.nil))))⟩, fun x hx => ⟨hz.held hx.1, hx.2⟩, ?_⟩
    have hz := Stp.refl I22364 w22363
    refine vch_l e2 rfl ?_
    obtain ⟨x22367, q22368, q22274⟩ := bind_some q22274
    refine ev_call rfl rfl C21 (((ref01_Same_ok n) _ _  (Int_2.mk x22020.Neg x22020.Mag) v22026 r22027 x22361 v22365 r22366 hp.imm _ q22368).mono ?_)
    rintro _ w22369 ⟨rfl, hc⟩
    have hs := hp.stp hc
    replace hp := hp.ext hc
    replace hz := hz.trans hs
    replace r22094 := r22094.step hs
    replace r22084 := r22084.step hs
    replace r22053 := r22053.step hs
    replace r22051 := r22051.step hs
    replace r22029 := r22029.step hs
    replace r22027 := r22027.step hs
    replace tb := tb.step hs
    refine ⟨fun x => Stp I22364 w22369 I22364 x ∧ OwnK [(g22030, [(.bool x22020.Neg), v22026], 24), (g22032, [(.bool x22021.Neg), v22028], 24), (g22085, [(.bool x22078.Neg), v22083], 24), (g22095, [(.bool x22088.Neg), v22093], 24)] x, ⟨Stp.refl _ _, (OwnK.cons (hp.own 5 _ _ _ rfl).1 (OwnK.cons (hp.own 4 _ _ _ rfl).1 (OwnK.cons (hp.own 1 _ _ _ rfl).1 (OwnK.cons (hp.own 0 _ _ _ rfl).1 OwnK.nil))))⟩, fun x hx => ⟨hz.held hx.1, hx.2⟩, ?_⟩
    have hz := Stp.refl I22364 w22369
    refine vch_q e3 rfl ?_
    obtain ⟨q22370, _, q22274⟩ := need_some q22274
    refine vch_qt e4 rfl e3 rfl rfl q22370 ?_
    refine evh (fun w' hw => rn_load rfl rfl (run_loadVarA T24 rfl (hw.2.at_ (i := 1) rfl))) ?_
    refine vch_lt e5 rfl e3 rfl rfl rfl ?_
    obtain ⟨x22371, q22372, q22274⟩ := bind_some q22274
    refine ev_call rfl rfl C45 (((ref01_Of_ok n) _ _  1 hp.imm _ q22372).mono ?_)
    rintro _ w22373 ⟨I22374, v22375, hv, hq, r22376⟩
    replace hv := hv.symm
    subst hv
    have hs := hq.st
    have hp := hp.join0 hq
    replace hz := hz.trans hs
    replace r22029 := r22029.step hs
    replace r22094 := r22094.step hs
    replace r22084 := r22084.step hs
    replace r22053 := r22053.step hs
    replace r22051 := r22051.step hs
    replace r22027 := r22027.step hs
    replace tb := tb.step hs
    refine ⟨fun x => Stp I22374 w22373 I22374 x ∧ OwnK [(g22030, [(.bool x22020.Neg), v22026], 24), (g22032, [(.bool x22021.Neg), v22028], 24), (g22085, [(.bool x22078.Neg), v22083], 24), (g22095, [(.bool x22088.Neg), v22093], 24)] x, ⟨Stp.refl _ _, (OwnK.cons (hp.own 5 _ _ _ rfl).1 (OwnK.cons (hp.own 4 _ _ _ rfl).1 (OwnK.cons (hp.own 1 _ _ _ rfl).1 (OwnK.cons (hp.own 0 _ _ _ rfl).1 OwnK.nil))))⟩, fun x hx => ⟨hz.held hx.1, hx.2⟩, ?_⟩
    have hz := Stp.refl I22374 w22373
    refine vch_lt e6 rfl e3 rfl rfl rfl ?_
    obtain ⟨x22377, q22378, q22274⟩ := bind_some q22274
    refine ev_call rfl rfl C21 (((ref01_Same_ok n) _ _  (Int_2.mk x22021.Neg x22021.Mag) v22028 r22029 x22371 v22375 r22376 hp.imm _ q22378).mono ?_)
    rintro _ w22379 ⟨rfl, hc⟩
    have hs := hp.stp hc
    replace hp := hp.ext hc
    replace hz := hz.trans hs
    replace r22094 := r22094.step hs
    replace r22084 := r22084.step hs
    replace r22053 := r22053.step hs
    replace r22051 := r22051.step hs
    replace r22029 := r22029.step hs
    replace r22027 := r22027.step hs
    replace tb := tb.step hs
    refine ⟨fun x => Stp I22374 w22379 I22374 x ∧ OwnK [(g22030, [(.bool x22020.Neg), v22026], 24), (g22032, [(.bool x22021.Neg), v22028], 24), (g22085, [(.bool x22078.Neg), v22083], 24), (g22095, [(.bool x22088.Neg), v22093], 24)] x, ⟨Stp.refl _ _, (OwnK.cons (hp.own 5 _ _ _ rfl).1 (OwnK.cons (hp.own 4 _ _ _ rfl).1 (OwnK.cons (hp.own 1 _ _ _ rfl).1 (OwnK.cons (hp.own 0 _ _ _ rfl).1 OwnK.nil))))⟩, fun x hx => ⟨hz.held hx.1, hx.2⟩, ?_⟩
    have hz := Stp.refl I22374 w22379
    refine vch_q e7 rfl ?_
    refine vch_q e8 rfl ?_
    obtain ⟨q22380, _, q22274⟩ := need_some q22274
    refine vch_qt e9 rfl e8 rfl rfl q22380 ?_
    refine vch_qt e10 rfl e8 rfl rfl rfl ?_
    refine vch_q e11 rfl ?_
    refine vch_q e12 rfl ?_
    obtain ⟨q22381, _, q22274⟩ := need_some q22274
    refine vch_qt e13 rfl e12 rfl rfl q22381 ?_
    refine vch_qt e14 rfl e12 rfl rfl rfl ?_
    refine vch_q e15 rfl ?_
    refine vch_q e16 rfl ?_
    obtain ⟨q22382, _, q22274⟩ := need_some q22274
    refine vch_qt e17 rfl e16 rfl rfl q22382 ?_
    refine vch_qt e18 rfl e16 rfl rfl rfl ?_
    refine vch_q e19 rfl ?_
    refine vch_q e20 rfl ?_
    obtain ⟨q22383, _, q22274⟩ := need_some q22274
    refine vch_qt e21 rfl e20 rfl rfl q22383 ?_
    refine vch_q e22 rfl ?_
    refine vch_q e23 rfl ?_
    obtain ⟨q22384, _, q22274⟩ := need_some q22274
    refine vch_qt e24 rfl e23 rfl rfl q22384 ?_
    refine evh (fun w' hw => rn_load rfl rfl (run_loadVarA T24 rfl (hw.2.at_ (i := 2) rfl))) ?_
    refine vch_lt e25 rfl e23 rfl rfl rfl ?_
    obtain ⟨x22385, q22386, q22274⟩ := bind_some q22274
    refine ev_call rfl rfl C45 (((ref01_Of_ok n) _ _  4 hp.imm _ q22386).mono ?_)
    rintro _ w22387 ⟨I22388, v22389, hv, hq, r22390⟩
    replace hv := hv.symm
    subst hv
    have hs := hq.st
    have hp := hp.join0 hq
    replace hz := hz.trans hs
    replace r22084 := r22084.step hs
    replace r22094 := r22094.step hs
    replace r22053 := r22053.step hs
    replace r22051 := r22051.step hs
    replace r22029 := r22029.step hs
    replace r22027 := r22027.step hs
    replace tb := tb.step hs
    refine ⟨fun x => Stp I22388 w22387 I22388 x ∧ OwnK [(g22030, [(.bool x22020.Neg), v22026], 24), (g22032, [(.bool x22021.Neg), v22028], 24), (g22085, [(.bool x22078.Neg), v22083], 24), (g22095, [(.bool x22088.Neg), v22093], 24)] x, ⟨Stp.refl _ _, (OwnK.cons (hp.own 5 _ _ _ rfl).1 (OwnK.cons (hp.own 4 _ _ _ rfl).1 (OwnK.cons (hp.own 1 _ _ _ rfl).1 (OwnK.cons (hp.own 0 _ _ _ rfl).1 OwnK.nil))))⟩, fun x hx => ⟨hz.held hx.1, hx.2⟩, ?_⟩
    have hz := Stp.refl I22388 w22387
    refine vch_lt e26 rfl e23 rfl rfl rfl ?_
    obtain ⟨x22391, q22392, q22274⟩ := bind_some q22274
    refine ev_call rfl rfl C21 (((ref01_Same_ok n) _ _  (Int_2.mk x22078.Neg x22078.Mag) v22083 r22084 x22385 v22389 r22390 hp.imm _ q22392).mono ?_)
    rintro _ w22393 ⟨rfl, hc⟩
    have hs := hp.stp hc
    replace hp := hp.ext hc
    replace hz := hz.trans hs
    replace r22094 := r22094.step hs
    replace r22084 := r22084.step hs
    replace r22053 := r22053.step hs
    replace r22051 := r22051.step hs
    replace r22029 := r22029.step hs
    replace r22027 := r22027.step hs
    replace tb := tb.step hs
    refine ⟨fun x => Stp I22388 w22393 I22388 x ∧ OwnK [(g22030, [(.bool x22020.Neg), v22026], 24), (g22032, [(.bool x22021.Neg), v22028], 24), (g22085, [(.bool x22078.Neg), v22083], 24), (g22095, [(.bool x22088.Neg), v22093], 24)] x, ⟨Stp.refl _ _, (OwnK.cons (hp.own 5 _ _ _ rfl).1 (OwnK.cons (hp.own 4 _ _ _ rfl).1 (OwnK.cons (hp.own 1 _ _ _ rfl).1 (OwnK.cons (hp.own 0 _ _ _ rfl).1 OwnK.nil))))⟩, fun x hx => ⟨hz.held hx.1, hx.2⟩, ?_⟩
    have hz := Stp.refl I22388 w22393
    refine vch_q e27 rfl ?_
    refine vch_q e28 rfl ?_
    obtain ⟨q22394, _, q22274⟩ := need_some q22274
    refine vch_qt e29 rfl e28 rfl rfl q22394 ?_
    refine vch_qt e30 rfl e28 rfl rfl rfl ?_
    refine vch_q e31 rfl ?_
    refine vch_q e32 rfl ?_
    obtain ⟨q22395, _, q22274⟩ := need_some q22274
    refine vch_qt e33 rfl e32 rfl rfl q22395 ?_
    refine vch_qt e34 rfl e32 rfl rfl rfl ?_
    refine vch_q e35 rfl ?_
    refine vch_q e36 rfl ?_
    obtain ⟨q22396, _, q22274⟩ := need_some q22274
    refine vch_qt e37 rfl e36 rfl rfl q22396 ?_
    refine evh0 (rn_field rfl rfl FO24_1) ?_
    refine vch_qt e38 rfl e36 rfl rfl rfl ?_
    refine evh (fun w' hw => rn_load rfl rfl (run_loadVar1 T22 (hw.2.cell (i := 3) (off := 1) rfl rfl))) ?_
    refine vch_qt e39 rfl e36 rfl rfl rfl ?_
    refine evh0 (rn_len rfl rfl Tryz.underlying22 r22094) ?_
    refine vch_qt e40 rfl e36 rfl rfl rfl ?_
    refine vch_q e41 rfl ?_
    refine vch_q e42 rfl ?_
    obtain ⟨q22397, _, q22274⟩ := need_some q22274
    refine vch_lt e43 rfl e42 rfl rfl q22397 ?_
    refine ev_litN (d := (dI .u32)) (xs := [0, 1]) (cs := [(.int .u32 0), (.int .u32 1)]) hp rfl rfl Tryz.underlying22 T45 (by decide) rfl rfl (Elems.cons (d := (dI .u32)) (xs := _) rfl (Elems.cons (d := (dI .u32)) (xs := _) rfl (Elems.nil _ _ _ _))) ?_
    intro v22398 I22400 w22399 hp hs r22401
    replace hz := hz.trans hs
    replace r22094 := r22094.step hs
    replace r22084 := r22084.step hs
    replace r22053 := r22053.step hs
    replace r22051 := r22051.step hs
    replace r22029 := r22029.step hs
    replace r22027 := r22027.step hs
    replace tb := tb.step hs
    refine ⟨fun x => Stp I22400 w22399 I22400 x ∧ OwnK [(g22030, [(.bool x22020.Neg), v22026], 24), (g22032, [(.bool x22021.Neg), v22028], 24), (g22085, [(.bool x22078.Neg), v22083], 24), (g22095, [(.bool x22088.Neg), v22093], 24)] x, ⟨Stp.refl _ _, (OwnK.cons (hp.own 5 _ _ _ rfl).1 (OwnK.cons (hp.own 4 _ _ _ rfl).1 (OwnK.cons (hp.own 1 _ _ _ rfl).1 (OwnK.cons (hp.own 0 _ _ _ rfl).1 OwnK.nil))))⟩, fun x hx => ⟨hz.held hx.1, hx.2⟩, ?_⟩
    have hz := Stp.refl I22400 w22399
    refine vch_qt e44 rfl e42 rfl rfl rfl ?_
    obtain ⟨A22402, m22403, m22404, rfl⟩ := r22401.isSl
    refine evh0 (fun w => rn_build (cs := [(.bool true), (.slice A22402 m22403 m22404)]) rfl rfl T24 PL24 rfl) ?_
    refine vch_lt e45 rfl e42 rfl rfl rfl ?_
    obtain ⟨x22406, q22407, q22274⟩ := bind_some q22274
    refine ev_call rfl rfl C25 (((integer_Text_ok n) _ _ tb (Int_2.mk true [0, 1]) (.slice A22402 m22403 m22404) r22401 hp.imm _ q22407).mono ?_)
    rintro _ w22408 ⟨rfl, hc⟩
    have hs := hp.stp hc
    replace hp := hp.ext hc
    replace hz := hz.trans hs
    replace r22094 := r22094.step hs
    replace r22084 := r22084.step hs
    replace r22053 := r22053.step hs
    replace r22051 := r22051.step hs
    replace r22029 := r22029.step hs
    replace r22027 := r22027.step hs
    replace tb := tb.step hs
    refine ⟨fun x => Stp I22400 w22408 I22400 x ∧ OwnK [(g22030, [(.bool x22020.Neg), v22026], 24), (g22032, [(.bool x22021.Neg), v22028], 24), (g22085, [(.bool x22078.Neg), v22083], 24), (g22095, [(.bool x22088.Neg), v22093], 24)] x, ⟨Stp.refl _ _, (OwnK.cons (hp.own 5 _ _ _ rfl).1 (OwnK.cons (hp.own 4 _ _ _ rfl).1 (OwnK.cons (hp.own 1 _ _ _ rfl).1 (OwnK.cons (hp.own 0 _ _ _ rfl).1 OwnK.nil))))⟩, fun x hx => ⟨hz.held hx.1, hx.2⟩, ?_⟩
    have hz := Stp.refl I22400 w22408
    refine vch_qt e46 rfl e42 rfl rfl rfl ?_
    refine vch_q e47 rfl ?_
    refine vch_q e48 rfl ?_
    obtain ⟨q22409, _, q22274⟩ := need_some q22274
    refine vch_lt e49 rfl e48 rfl rfl q22409 ?_
    obtain ⟨x22410, q22411, q22274⟩ := bind_some q22274
    refine ev_call rfl rfl C18 (((integer_Of_ok n) _ _  (-12) hp.imm _ q22411).mono ?_)
    rintro _ w22412 ⟨I22413, v22414, hv, hq, r22415⟩
    replace hv := hv.symm
    subst hv
    have hs := hq.st
    have hp := hp.join0 hq
    replace hz := hz.trans hs
    replace r22094 := r22094.step hs
    replace r22084 := r22084.step hs
    replace r22053 := r22053.step hs
    replace r22051 := r22051.step hs
    replace r22029 := r22029.step hs
    replace r22027 := r22027.step hs
    replace tb := tb.step hs
    refine ⟨fun x => Stp I22413 w22412 I22413 x ∧ OwnK [(g22030, [(.bool x22020.Neg), v22026], 24), (g22032, [(.bool x22021.Neg), v22028], 24), (g22085, [(.bool x22078.Neg), v22083], 24), (g22095, [(.bool x22088.Neg), v22093], 24)] x, ⟨Stp.refl _ _, (OwnK.cons (hp.own 5 _ _ _ rfl).1 (OwnK.cons (hp.own 4 _ _ _ rfl).1 (OwnK.cons (hp.own 1 _ _ _ rfl).1 (OwnK.cons (hp.own 0 _ _ _ rfl).1 OwnK.nil))))⟩, fun x hx => ⟨hz.held hx.1, hx.2⟩, ?_⟩
    have hz := Stp.refl I22413 w22412
    refine vch_lt e50 rfl e48 rfl rfl rfl ?_
    obtain ⟨x22416, q22417, q22274⟩ := bind_some q22274
    refine ev_call rfl rfl C18 (((integer_Of_ok n) _ _  18 hp.imm _ q22417).mono ?_)
    rintro _ w22418 ⟨I22419, v22420, hv, hq, r22421⟩
    replace hv := hv.symm
    subst hv
    have hs := hq.st
    have hp := hp.join0 hq
    replace hz := hz.trans hs
    replace r22415 := r22415.step hs
    replace r22094 := r22094.step hs
    replace r22084 := r22084.step hs
    replace r22053 := r22053.step hs
    replace r22051 := r22051.step hs
    replace r22029 := r22029.step hs
    replace r22027 := r22027.step hs
    replace tb := tb.step hs
    refine ⟨fun x => Stp I22419 w22418 I22419 x ∧ OwnK [(g22030, [(.bool x22020.Neg), v22026], 24), (g22032, [(.bool x22021.Neg), v22028], 24), (g22085, [(.bool x22078.Neg), v22083], 24), (g22095, [(.bool x22088.Neg), v22093], 24)] x, ⟨Stp.refl _ _, (OwnK.cons (hp.own 5 _ _ _ rfl).1 (OwnK.cons (hp.own 4 _ _ _ rfl).1 (OwnK.cons (hp.own 1 _ _ _ rfl).1 (OwnK.cons (hp.own 0 _ _ _ rfl).1 OwnK.nil))))⟩, fun x hx => ⟨hz.held hx.1, hx.2⟩, ?_⟩
    have hz := Stp.refl I22419 w22418
    refine vch_lt e51 rfl e48 rfl rfl rfl ?_
    obtain ⟨x22422, q22423, q22274⟩ := bind_some q22274
    refine ev_call rfl rfl C20 (((integer_Gcd_ok n) _ _  x22410 v22414 r22415 x22416 v22420 r22421 hp.imm _ q22423).mono ?_)
    rintro _ w22424 ⟨I22425, v22426, hv, hq, r22427⟩
    replace hv := hv.symm
    subst hv
    have hs := hq.st
    have hp := hp.join0 hq
    replace hz := hz.trans hs
    replace r22094 := r22094.step hs
    replace r22084 := r22084.step hs
    replace r22053 := r22053.step hs
    replace r22051 := r22051.step hs
    replace r22029 := r22029.step hs
    replace r22027 := r22027.step hs
    replace tb := tb.step hs
    refine ⟨fun x => Stp I22425 w22424 I22425 x ∧ OwnK [(g22030, [(.bool x22020.Neg), v22026], 24), (g22032, [(.bool x22021.Neg), v22028], 24), (g22085, [(.bool x22078.Neg), v22083], 24), (g22095, [(.bool x22088.Neg), v22093], 24)] x, ⟨Stp.refl _ _, (OwnK.cons (hp.own 5 _ _ _ rfl).1 (OwnK.cons (hp.own 4 _ _ _ rfl).1 (OwnK.cons (hp.own 1 _ _ _ rfl).1 (OwnK.cons (hp.own 0 _ _ _ rfl).1 OwnK.nil))))⟩, fun x hx => ⟨hz.held hx.1, hx.2⟩, ?_⟩
    have hz := Stp.refl I22425 w22424
    refine vch_lt e52 rfl e48 rfl rfl rfl ?_
    obtain ⟨x22428, q22429, q22274⟩ := bind_some q22274
    refine ev_call rfl rfl C45 (((ref01_Of_ok n) _ _  6 hp.imm _ q22429).mono ?_)
    rintro _ w22430 ⟨I22431, v22432, hv, hq, r22433⟩
    replace hv := hv.symm
    subst hv
    have hs := hq.st
    have hp := hp.join0 hq
    replace hz := hz.trans hs
    replace r22427 := r22427.step hs
    replace r22094 := r22094.step hs
    replace r22084 := r22084.step hs
    replace r22053 := r22053.step hs
    replace r22051 := r22051.step hs
    replace r22029 := r22029.step hs
    replace r22027 := r22027.step hs
    replace tb := tb.step hs
    refine ⟨fun x => Stp I22431 w22430 I22431 x ∧ OwnK [(g22030, [(.bool x22020.Neg), v22026], 24), (g22032, [(.bool x22021.Neg), v22028], 24), (g22085, [(.bool x22078.Neg), v22083], 24), (g22095, [(.bool x22088.Neg), v22093], 24)] x, ⟨Stp.refl _ _, (OwnK.cons (hp.own 5 _ _ _ rfl).1 (OwnK.cons (hp.own 4 _ _ _ rfl).1 (OwnK.cons (hp.own 1 _ _ _ rfl).1 (OwnK.cons (hp.own 0 _ _ _ rfl).1 OwnK.nil))))⟩, fun x hx => ⟨hz.held hx.1, hx.2⟩, ?_⟩
    have hz := Stp.refl I22431 w22430
    refine vch_lt e53 rfl e48 rfl rfl rfl ?_
    obtain ⟨x22434, q22435, q22274⟩ := bind_some q22274
    refine ev_call rfl rfl C21 (((ref01_Same_ok n) _ _  x22422 v22426 r22427 x22428 v22432 r22433 hp.imm _ q22435).mono ?_)
    rintro _ w22436 ⟨rfl, hc⟩
    have hs := hp.stp hc
    replace hp := hp.ext hc
    replace hz := hz.trans hs
    replace r22094 := r22094.step hs
    replace r22084 := r22084.step hs
    replace r22053 := r22053.step hs
    replace r22051 := r22051.step hs
    replace r22029 := r22029.step hs
    replace r22027 := r22027.step hs
    replace tb := tb.step hs
    refine ⟨fun x => Stp I22431 w22436 I22431 x ∧ OwnK [(g22030, [(.bool x22020.Neg), v22026], 24), (g22032, [(.bool x22021.Neg), v22028], 24), (g22085, [(.bool x22078.Neg), v22083], 24), (g22095, [(.bool x22088.Neg), v22093], 24)] x, ⟨Stp.refl _ _, (OwnK.cons (hp.own 5 _ _ _ rfl).1 (OwnK.cons (hp.own 4 _ _ _ rfl).1 (OwnK.cons (hp.own 1 _ _ _ rfl).1 (OwnK.cons (hp.own 0 _ _ _ rfl).1 OwnK.nil))))⟩, fun x hx => ⟨hz.held hx.1, hx.2⟩, ?_⟩
    have hz := Stp.refl I22431 w22436
    refine vch_q e54 rfl ?_
    refine vch_q e55 rfl ?_
    obtain ⟨q22437, _, q22274⟩ := need_some q22274
    refine vch_lt e56 rfl e55 rfl rfl q22437 ?_
    obtain ⟨x22438, q22439, q22274⟩ := bind_some q22274
    refine ev_call rfl rfl C18 (((integer_Of_ok n) _ _  (-8) hp.imm _ q22439).mono ?_)
    rintro _ w22440 ⟨I22441, v22442, hv, hq, r22443⟩
    replace hv := hv.symm
    subst hv
    have hs := hq.st
    have hp := hp.join0 hq
    replace hz := hz.trans hs
    replace r22094 := r22094.step hs
    replace r22084 := r22084.step hs
    replace r22053 := r22053.step hs
    replace r22051 := r22051.step hs
    replace r22029 := r22029.step hs
    replace r22027 := r22027.step hs
    replace tb := tb.step hs
    refine ⟨fun x => Stp I22441 w22440 I22441 x ∧ OwnK [(g22030, [(.bool x22020.Neg), v22026], 24), (g22032, [(.bool x22021.Neg), v22028], 24), (g22085, [(.bool x22078.Neg), v22083], 24), (g22095, [(.bool x22088.Neg), v22093], 24)] x, ⟨Stp.refl _ _, (OwnK.cons (hp.own 5 _ _ _ rfl).1 (OwnK.cons (hp.own 4 _ _ _ rfl).1 (OwnK.cons (hp.own 1 _ _ _ rfl).1 (OwnK.cons (hp.own 0 _ _ _ rfl).1 OwnK.nil))))⟩, fun x hx => ⟨hz.held hx.1, hx.2⟩, ?_⟩
    have hz := Stp.refl I22441 w22440
    refine vch_lt e57 rfl e55 rfl rfl rfl ?_
    obtain ⟨x22444, q22445, q22274⟩ := bind_some q22274
    refine ev_call rfl rfl C19 (((integer_Bits_ok n) _ _  x22438 v22442 r22443 hp.imm _ q22445).mono ?_)
    rintro _ w22446 ⟨rfl, hc⟩
    have hs := hp.stp hc
    replace hp := hp.ext hc
    replace hz := hz.trans hs
    replace r22094 := r22094.step hs
    replace r22084 := r22084.step hs
    replace r22053 := r22053.step hs
    replace r22051 := r22051.step hs
    replace r22029 := r22029.step hs
    replace r22027 := r22027.step hs
    replace tb := tb.step hs
    refine ⟨fun x => Stp I22441 w22446 I22441 x ∧ OwnK [(g22030, [(.bool x22020.Neg), v22026], 24), (g22032, [(.bool x22021.Neg), v22028], 24), (g22085, [(.bool x22078.Neg), v22083], 24), (g22095, [(.bool x22088.Neg), v22093], 24)] x, ⟨Stp.refl _ _, (OwnK.cons (hp.own 5 _ _ _ rfl).1 (OwnK.cons (hp.own 4 _ _ _ rfl).1 (OwnK.cons (hp.own 1 _ _ _ rfl).1 (OwnK.cons (hp.own 0 _ _ _ rfl).1 OwnK.nil))))⟩, fun x hx => ⟨hz.held hx.1, hx.2⟩, ?_⟩
    have hz := Stp.refl I22441 w22446
    refine vch_qt e58 rfl e55 rfl rfl rfl ?_
    refine vch_q e59 rfl ?_
    refine vch_q e60 rfl ?_
    refine vch_end ?_
    obtain rfl := Option.some.inj q22274
    have hp := hp.sel [] (by decide)
    exact ⟨((x22444 == 4), I22441), (.c rfl .n), rfl, hp, tb⟩
  ·
    rintro ⟨x22270, I22271⟩ w22272 ⟨hy, hp, tb⟩
    replace hy := hy.symm
    subst hy
    apply go
    obtain rfl := Option.some.inj h
    exact ⟨rfl, hp.ch⟩

end Go.Proofs.YthhghkcopfnbiaaGreatDoor

namespace Go.Proofs.YthhghkcopfnbiaaGreatDoor
open Go Go.Proofs.YthhghkcopfnbiaaGreatDoor.Gw Go.RowKit
set_option linter.unusedVariables false
attribute [local irreducible] Ev EvQ EvS EvH
def ref01_Abs_S (f : Int_2 → Option Int_2) : Prop := ∀ (w0 : World) (I0 : Nat → Prop) (x23048 : Int_2) (v23049 : Value) (r23050 : RepS (dI .u32) w0 I0 v23049 x23048.Mag) (hI : ∀ g, I0 g → g < w0.heap.size) (r : Int_2), f x23048 = some r →
    Ret Tryz.prog 42 #[(.agg #[(.bool x23048.Neg), v23049])] w0 fun v w1 => ∃ (I1 : Nat → Prop) (u23051 : Value), v = (.agg #[(.bool r.Neg), u23051]) ∧ Hp ⟨w0, I0, []⟩ I1 [] w1 ∧ RepS (dI .u32) w1 I1 u23051 r.Mag
theorem ref01_Abs_ok (n : Nat) : ref01_Abs_S (ref01_Abs n) := by
  intro w0 I0 x23048 v23049 r23050 hI r h
  unfold ref01_Abs at h
  refine enter Tryz.func42 rfl (Nat.le_of_ble_eq_true rfl) ?_
  have hp : Hp ⟨w0, I0, []⟩ I0 [] w0 := Hp.start hI
  apply go
  apply go
  refine ev_boxI hp rfl rfl ?_
  intro p23054 I23055 w23053 hp hs a23056
  replace r23050 := r23050.step hs
  refine ev_alloc hp rfl T24 ?_
  intro g23057 w23058 hp hs
  replace a23056 := a23056.step hs
  replace r23050 := r23050.step hs
  apply go
  apply go
  refine ev0 (rn_field rfl rfl FO24_1) ?_
  refine ev (rn_load rfl rfl (run_loadVar1 T22 (a23056.2 1 _ rfl))) ?_
  obtain ⟨A23059, m23060, m23061, rfl⟩ := r23050.isSl
  refine ev0 (fun w => rn_build (cs := [(.bool false), (.slice A23059 m23060 m23061)]) rfl rfl T24 PL24 rfl) ?_
  obtain ⟨x23063, q23064, h⟩ := bind_some h
  refine ev_call rfl rfl C28 (((ref01_Norm_ok n) _ _  (Int_2.mk false x23048.Mag) (.slice A23059 m23060 m23061) r23050 hp.imm _ q23064).mono ?_)
  rintro _ w23065 ⟨I23066, v23067, hv, hq, r23068⟩
  replace hv := hv.symm
  subst hv
  have hs := hq.st
  have hp := hp.join0 hq
  refine ev_storeA hp (i := 0) (off := 0) (vs := [(.bool x23063.Neg), v23067]) rfl rfl rfl rfl T24 rfl (Nat.le_of_ble_eq_true rfl) (ones_cons rfl (ones_cons r23068.one ones_nil)) ?_
  intro w23069 hp hs
  replace r23068 := r23068.step hs
  apply go
  obtain rfl := Option.some.inj h
  refine ⟨_, run_loadVarA T24 rfl (hp.at_ (i := 0) rfl), ?_⟩
  have hp := hp.sel [] (by decide)
  exact ⟨I23066, v23067, rfl, hp, r23068⟩

end Go.Proofs.YthhghkcopfnbiaaGreatDoor

namespace Go.Proofs.YthhghkcopfnbiaaGreatDoor
open Go Go.Proofs.YthhghkcopfnbiaaGreatDoor.Gw Go.RowKit
set_option linter.unusedVariables false
attribute [local irreducible] Ev EvQ EvS EvH
def ref01_half_S (f : (List Int) → Option (List Int)) : Prop := ∀ (w0 : World) (I0 : Nat → Prop) (x23070 : (List Int)) (v23071 : Value) (r23072 : RepS (dI .u32) w0 I0 v23071 x23070) (hI : ∀ g, I0 g → g < w0.heap.size) (r : (List Int)), f x23070 = some r →
    Ret Tryz.prog 51 #[v23071] w0 fun v w1 => ∃ (I1 : Nat → Prop) (u23073 : Value), v = u23073 ∧ Hp ⟨w0, I0, []⟩ I1 [] w1 ∧ RepS (dI .u32) w1 I1 u23073 r
theorem ref01_half_ok (n : Nat) : ref01_half_S (ref01_half n) := by
  intro w0 I0 x23070 v23071 r23072 hI r h
  unfold ref01_half at h
  refine enter Tryz.func51 rfl (Nat.le_of_ble_eq_true rfl) ?_
  have hp : Hp ⟨w0, I0, []⟩ I0 [] w0 := Hp.start hI
  apply go
  apply go
  apply go
  apply go
  refine ev_litON (d := (dI .u32)) (xs := ([] : List Int)) (cs := []) hp rfl rfl Tryz.underlying22 T45 (by decide) (by decide) rfl rfl (Elems.nil _ _ _ _) ?_
  intro v23074 e23076 w23075 hp hs o23077
  replace r23072 := r23072.step hs
  obtain ⟨x23078, q23079, h⟩ := bind_some h
  refine ev_append hp (i := 0) rfl rfl rfl rfl Tryz.underlying22 T45 rfl rfl o23077 r23072 q23079 ?_
  rintro v23080 e23081 w23082 hp hs o23083
  replace r23072 := r23072.step hs
  obtain ⟨y23419, q23420, h⟩ := bind_some h
  refine W.cut (γ := ((List Int) × Ent)) (fun g => [(3, v23080)]) (fun g w' => y23419 = (g.1) ∧ Hp ⟨w0, I0, []⟩ I0 [(g.2)] w' ∧ OwnS (dI .u32) 45 w' I0 v23080 (g.2) (g.1)) ?_ ?_
  ·
    apply go
    apply go
    apply go
    refine W.loop q23420 (γ := Ent) (fun s g => [(0, v23071), (3, v23080), (4, (.int .i64 (s.2)))]) (fun s g w' => Hp ⟨w0, I0, []⟩ I0 [(g)] w' ∧ RepS (dI .u32) w' I0 v23071 x23070 ∧ OwnS (dI .u32) 45 w' I0 v23080 (g) (s.1)) e23081 (.c rfl (.c rfl (.c rfl .n))) ⟨hp, r23072, o23083⟩ ?_
    rintro ⟨x23526, x23530⟩ e23528 w23641 y23642 ⟨hp, r23072, o23529⟩ q23643 q23644
    unfold ref01_half_L1 at q23643
    apply go
    apply go
    apply go
    refine ev0 (x_lenO rfl rfl Tryz.underlying22 o23529) ?_
    apply go
    refine sel_of (fun hc => ?_) (fun hc => ?_)
    ·
      have q23643 := cond_t q23643 hc
      apply go
      obtain ⟨y23699, q23700, q23643⟩ := bind_some q23643
      refine W.cut (γ := ((List Int) × Ent)) (fun g => [(0, v23071), (3, v23080), (4, (.int .i64 x23530))]) (fun g w' => y23699 = (g.1) ∧ Hp ⟨w0, I0, []⟩ I0 [(g.2)] w' ∧ RepS (dI .u32) w' I0 v23071 x23070 ∧ OwnS (dI .u32) 45 w' I0 v23080 (g.2) (g.1)) ?_ ?_
      ·
        apply go
        apply go
        apply go
        obtain ⟨x23701, q23702, q23700⟩ := bind_some q23700
        refine ev_indexO rfl rfl rfl Tryz.underlying22 T45 o23529 q23702 ?_
        intro g23703 c23704 h23707 d23705 l23706
        refine ev (rn_load rfl rfl (run_loadVar1 T45 (hp.cellE (i := 0) rfl h23707 d23705 (j := 0) rfl))) ?_
        refine ⟨by decide, ?_⟩
        obtain ⟨x23709, q23710, q23700⟩ := bind_some q23700
        refine ev_indexO rfl rfl rfl Tryz.underlying22 T45 o23529 q23710 ?_
        intro g23711 c23712 h23715 d23713 l23714
        refine ev_storeE hp (i := 0) rfl h23715 rfl rfl rfl T45 o23529 q23710 (x0 := (x23701.fdiv (2 ^ min (1 : Int).toNat (IntKind.u32).bits))) rfl ?_
        intro e23718 w23717 hp hs o23719
        replace r23072 := r23072.step hs
        apply go
        apply go
        refine ev0 (rn_len rfl rfl Tryz.underlying22 r23072) ?_
        apply go
        refine sel_of (fun hc => ?_) (fun hc => ?_)
        ·
          have q23700 := cond_t q23700 hc
          have hs := hp.stp (Ch.drew [] w23717)
          have hp := hp.drew
          replace r23072 := r23072.step hs
          replace o23719 := o23719.step hs
          refine W.tail 15 MX (by kernel_rfl) ?_
          obtain ⟨x23723, q23724, q23700⟩ := bind_some q23700
          refine evs_indexO rfl rfl rfl Tryz.underlying22 T45 o23719 q23724 ?_
          intro g23725 c23726 h23729 d23727 l23728
          refine evs (rn_load rfl rfl (run_loadVar1 T45 (hp.cellE (i := 0) rfl h23729 d23727 (j := 0) rfl))) ?_
          obtain ⟨x23731, q23732, q23700⟩ := bind_some q23700
          refine evs_index rfl rfl rfl Tryz.underlying22 T45 r23072 q23732 ?_
          intro p23733 c23734 d23735 a23736
          obtain rfl : c23734 = [(.int .u32 x23731)] := d23735
          refine evs (rn_load rfl rfl (run_loadVar1 T45 (a23736.2 0 _ rfl))) ?_
          refine ⟨by decide, ?_⟩
          refine ⟨by decide, ?_⟩
          obtain ⟨x23737, q23738, q23700⟩ := bind_some q23700
          refine evs_indexO rfl rfl rfl Tryz.underlying22 T45 o23719 q23738 ?_
          intro g23739 c23740 h23743 d23741 l23742
          refine ev_storeE hp (i := 0) rfl h23743 rfl rfl rfl T45 o23719 q23738 (x0 := (IntKind.u32.wrap (x23723 + (IntKind.u32.wrap ((x23731.tmod 2) * 2 ^ min (31 : Int).toNat (IntKind.u32).bits))))) rfl ?_
          intro e23746 w23745 hp hs o23747
          replace r23072 := r23072.step hs
          obtain rfl := Option.some.inj q23700
          exact ⟨((upd (upd x23526 x23530 (x23701.fdiv (2 ^ min (1 : Int).toNat (IntKind.u32).bits))) x23530 (IntKind.u32.wrap (x23723 + (IntKind.u32.wrap ((x23731.tmod 2) * 2 ^ min (31 : Int).toNat (IntKind.u32).bits))))), e23746), (.c rfl (.c rfl (.c rfl .n))), rfl, hp, r23072, o23747⟩
        ·
          have q23700 := cond_f q23700 hc
          apply go
          obtain rfl := Option.some.inj q23700
          exact ⟨((upd x23526 x23530 (x23701.fdiv (2 ^ min (1 : Int).toNat (IntKind.u32).bits))), e23718), (.c rfl (.c rfl (.c rfl .n))), rfl, hp, r23072, o23719⟩
      ·
        rintro ⟨x23694, e23696⟩ w23698 ⟨hy, hp, r23072, o23697⟩
        replace hy := hy.symm
        subst hy
        apply go
        exact ⟨_, (Option.some.inj q23643).symm, e23696, (.c rfl (.c rfl (.c rfl .n))), ⟨hp, r23072, o23697⟩⟩
    ·
      have q23643 := cond_f q23643 hc
      apply go
      have q23750 := congrArg some (q23644 _ (Option.some.inj q23643).symm)
      obtain rfl := Option.some.inj q23750
      exact ⟨(x23526, e23528), (.c rfl .n), rfl, hp, o23529⟩
  ·
    rintro ⟨x23414, e23416⟩ w23418 ⟨hy, hp, o23417⟩
    replace hy := hy.symm
    subst hy
    apply go
    apply go
    have r23751 := o23417.frz hp (i := 0) rfl
    obtain ⟨hp, hs⟩ := freeze_hp hp (i := 0) rfl
    have hp := hp.sel [] (by decide)
    obtain ⟨x23752, q23753, h⟩ := bind_some h
    refine ev_call rfl rfl C47 (((ref01_trim_ok n) _ _  x23414 v23080 r23751 hp.imm _ q23753).mono ?_)
    rintro _ w23754 ⟨I23755, v23756, e23757, hv, hq, o23758⟩
    replace hv := hv.symm
    subst hv
    have hs := hq.st
    have hp := hp.join0 hq
    apply go
    obtain rfl := Option.some.inj h
    have r23759 := o23758.frz hp (i := 0) rfl
    obtain ⟨hp, hs⟩ := freeze_hp hp (i := 0) rfl
    have hp := hp.sel [] (by decide)
    exact ⟨(Ad I23755 e23757), v23756, rfl, hp, r23759⟩

end Go.Proofs.YthhghkcopfnbiaaGreatDoor

namespace Go.Proofs.YthhghkcopfnbiaaGreatDoor
open Go Go.Proofs.YthhghkcopfnbiaaGreatDoor.Gw Go.RowKit
set_option linter.unusedVariables false
attribute [local irreducible] Ev EvQ EvS EvH
def ref01_cmp_S (f : (List Int) → (List Int) → Option Int) : Prop := ∀ (w0 : World) (I0 : Nat → Prop) (x22455 : (List Int)) (v22456 : Value) (r22457 : RepS (dI .u32) w0 I0 v22456 x22455) (x22458 : (List Int)) (v22459 : Value) (r22460 : RepS (dI .u32) w0 I0 v22459 x22458) (hI : ∀ g, I0 g → g < w0.heap.size) (r : Int), f x22455 x22458 = some r →
    Ret Tryz.prog 52 #[v22456, v22459] w0 fun v w1 => v = (.int .i64 r) ∧ Ch [] w0 w1
theorem ref01_cmp_ok (n : Nat) : ref01_cmp_S (ref01_cmp n) := by
  intro w0 I0 x22455 v22456 r22457 x22458 v22459 r22460 hI r h
  unfold ref01_cmp at h
  refine enter Tryz.func52 rfl (Nat.le_of_ble_eq_true rfl) ?_
  have hp : Hp ⟨w0, I0, []⟩ I0 [] w0 := Hp.start hI
  apply go
  apply go
  apply go
  apply go
  apply go
  refine ev0 (rn_len rfl rfl Tryz.underlying22 r22457) ?_
  refine ev0 (rn_len rfl rfl Tryz.underlying22 r22460) ?_
  apply go
  refine sel_of (fun hc => ?_) (fun hc => ?_)
  ·
    have h := cond_t h hc
    apply go
    apply go
    apply go
    refine ev0 (rn_len rfl rfl Tryz.underlying22 r22457) ?_
    refine ev0 (rn_len rfl rfl Tryz.underlying22 r22460) ?_
    apply go
    refine sel_of (fun hc => ?_) (fun hc => ?_)
    ·
      have h := cond_t h hc
      apply go
      apply go
      apply go
      obtain rfl := Option.some.inj h
      exact ⟨rfl, hp.ch⟩
    ·
      have h := cond_f h hc
      apply go
      apply go
      apply go
      apply go
      obtain rfl := Option.some.inj h
      exact ⟨rfl, hp.ch⟩
  ·
    have h := cond_f h hc
    apply go
    obtain ⟨y22549, q22550, h⟩ := bind_some h
    refine W.cut (γ := Unit) (fun _ => []) (fun _ w' => y22549 = .go () ∧ Hp ⟨w0, I0, []⟩ I0 [] w') ?_ ?_
    ·
      apply go
      apply go
      refine ev0 (rn_len rfl rfl Tryz.underlying22 r22457) ?_
      apply go
      refine W.loop q22550 (γ := Unit) (fun s _ => [(0, v22456), (1, v22459), (5, (.int .i64 (s)))]) (fun s _ w' => Hp ⟨w0, I0, []⟩ I0 [] w' ∧ RepS (dI .u32) w' I0 v22456 x22455 ∧ RepS (dI .u32) w' I0 v22459 x22458) () (.c rfl (.c rfl (.c rfl .n))) ⟨hp, r22457, r22460⟩ ?_
      rintro x22577 ⟨⟩ w22605 y22606 ⟨hp, r22457, r22460⟩ q22607 q22608
      unfold ref01_cmp_L1 at q22607
      apply go
      apply go
      apply go
      apply go
      refine sel_of (fun hc => ?_) (fun hc => ?_)
      ·
        have q22607 := cond_t q22607 hc
        apply go
        apply go
        apply go
        apply go
        apply go
        refine W.quiet (fun w' => Ch [] w22605 w') MX (by kernel_rfl) (Ch.drew [] w22605) ?_
        obtain ⟨x22609, q22610, q22607⟩ := bind_some q22607
        refine evq_index rfl rfl rfl Tryz.underlying22 T45 r22457 q22610 ?_
        intro p22611 c22612 d22613 a22614
        obtain rfl : c22612 = [(.int .u32 x22609)] := d22613
        refine evq (fun w' hw => rn_load rfl rfl (run_loadVar1 T45 ((a22614.step (hp.stp hw)).2 0 _ rfl))) ?_
        obtain ⟨x22615, q22616, q22607⟩ := bind_some q22607
        refine evq_index rfl rfl rfl Tryz.underlying22 T45 r22460 q22616 ?_
        intro p22617 c22618 d22619 a22620
        obtain rfl : c22618 = [(.int .u32 x22615)] := d22619
        refine evq (fun w' hw => rn_load rfl rfl (run_loadVar1 T45 ((a22620.step (hp.stp hw)).2 0 _ rfl))) ?_
        intro w22621 hc
        have hs := hp.stp hc
        replace hp := hp.ext hc
        replace r22457 := r22457.step hs
        replace r22460 := r22460.step hs
        apply go
        refine sel_of (fun hc => ?_) (fun hc => ?_)
        ·
          have q22607 := cond_t q22607 hc
          apply go
          apply go
          apply go
          have q22622 := congrArg some (q22608 _ (Option.some.inj q22607).symm)
          obtain rfl := Option.some.inj q22622
          obtain rfl := Option.some.inj h
          exact ⟨rfl, hp.ch⟩
        ·
          have q22607 := cond_f q22607 hc
          apply go
          apply go
          refine W.quiet (fun w' => Ch [] w22621 w') MX (by kernel_rfl) (Ch.drew [] w22621) ?_
          obtain ⟨x22623, q22624, q22607⟩ := bind_some q22607
          refine evq_index rfl rfl rfl Tryz.underlying22 T45 r22457 q22624 ?_
          intro p22625 c22626 d22627 a22628
          obtain rfl : c22626 = [(.int .u32 x22623)] := d22627
          refine evq (fun w' hw => rn_load rfl rfl (run_loadVar1 T45 ((a22628.step (hp.stp hw)).2 0 _ rfl))) ?_
          obtain ⟨x22629, q22630, q22607⟩ := bind_some q22607
          refine evq_index rfl rfl rfl Tryz.underlying22 T45 r22460 q22630 ?_
          intro p22631 c22632 d22633 a22634
          obtain rfl : c22632 = [(.int .u32 x22629)] := d22633
          refine evq (fun w' hw => rn_load rfl rfl (run_loadVar1 T45 ((a22634.step (hp.stp hw)).2 0 _ rfl))) ?_
          intro w22635 hc
          have hs := hp.stp hc
          replace hp := hp.ext hc
          replace r22457 := r22457.step hs
          replace r22460 := r22460.step hs
          apply go
          refine sel_of (fun hc => ?_) (fun hc => ?_)
          ·
            have q22607 := cond_t q22607 hc
            apply go
            apply go
            apply go
            have q22636 := congrArg some (q22608 _ (Option.some.inj q22607).symm)
            obtain rfl := Option.some.inj q22636
            obtain rfl := Option.some.inj h
            exact ⟨rfl, hp.ch⟩
          ·
            have q22607 := cond_f q22607 hc
            apply go
            apply go
            exact ⟨_, (Option.some.inj q22607).symm, (), (.c rfl (.c rfl (.c rfl .n))), ⟨hp, r22457, r22460⟩⟩
      ·
        have q22607 := cond_f q22607 hc
        apply go
        have q22637 := congrArg some (q22608 _ (Option.some.inj q22607).symm)
        obtain rfl := Option.some.inj q22637
        exact ⟨(), .n, rfl, hp⟩
    ·
      rintro ⟨⟩ w22548 ⟨hy, hp⟩
      replace hy := hy.symm
      subst hy
      apply go
      apply go
      apply go
      obtain rfl := Option.some.inj h
      exact ⟨rfl, hp.ch⟩

end Go.Proofs.YthhghkcopfnbiaaGreatDoor

namespace Go.Proofs.YthhghkcopfnbiaaGreatDoor
open Go Go.Proofs.YthhghkcopfnbiaaGreatDoor.Gw Go.RowKit
set_option linter.unusedVariables false
attribute [local irreducible] Ev EvQ EvS EvH
def ref01_sub_S (f : (List Int) → (List Int) → Option (List Int)) : Prop := ∀ (w0 : World) (I0 : Nat → Prop) (x23760 : (List Int)) (v23761 : Value) (r23762 : RepS (dI .u32) w0 I0 v23761 x23760) (x23763 : (List Int)) (v23764 : Value) (r23765 : RepS (dI .u32) w0 I0 v23764 x23763) (hI : ∀ g, I0 g → g < w0.heap.size) (r : (List Int)), f x23760 x23763 = some r →
    Ret Tryz.prog 53 #[v23761, v23764] w0 fun v w1 => ∃ (I1 : Nat → Prop) (u23766 : Value), v = u23766 ∧ Hp ⟨w0, I0, []⟩ I1 [] w1 ∧ RepS (dI .u32) w1 I1 u23766 r
theorem ref01_sub_ok (n : Nat) : ref01_sub_S (ref01_sub n) := by
  intro w0 I0 x23760 v23761 r23762 x23763 v23764 r23765 hI r h
  unfold ref01_sub at h
  refine enter Tryz.func53 rfl (Nat.le_of_ble_eq_true rfl) ?_
  have hp : Hp ⟨w0, I0, []⟩ I0 [] w0 := Hp.start hI
  apply go
  apply go
  apply go
  apply go
  apply go
  apply go
  obtain ⟨y23899, q23900, h⟩ := bind_some h
  refine W.cut (γ := ((List Int) × Value × Ent × (Nat → Prop))) (fun g => [(5, (g.2.1))]) (fun g w' => y23899 = (g.1) ∧ Hp ⟨w0, I0, []⟩ (g.2.2.2) [(g.2.2.1)] w' ∧ OwnS (dI .u32) 45 w' (g.2.2.2) (g.2.1) (g.2.2.1) (g.1)) ?_ ?_
  ·
    apply go
    apply go
    apply go
    have hp := hp.none_
    have o23987 := OwnS.nil (dI .u32) 45 w0 I0
    refine W.loop q23900 (γ := (Value × Ent × (Nat → Prop))) (fun s g => [(0, v23761), (1, v23764), (5, (g.1)), (6, (.int .i64 (s.2.1))), (7, (.int .i64 (s.2.2)))]) (fun s g w' => Hp ⟨w0, I0, []⟩ (g.2.2) [(g.2.1)] w' ∧ RepS (dI .u32) w' (g.2.2) v23761 x23760 ∧ RepS (dI .u32) w' (g.2.2) v23764 x23763 ∧ OwnS (dI .u32) 45 w' (g.2.2) (g.1) (g.2.1) (s.1)) ((.slice none 0 0), none, I0) (.c rfl (.c rfl (.c rfl (.c rfl (.c rfl .n))))) ⟨hp, r23762, r23765, o23987⟩ ?_
    rintro ⟨x23937, x23941, x23942⟩ ⟨v23938, e23939, I23943⟩ w23986 y23988 ⟨hp, r23762, r23765, o23940⟩ q23989 q23990
    unfold ref01_sub_L1 at q23989
    apply go
    apply go
    apply go
    refine ev0 (rn_len rfl rfl Tryz.underlying22 r23762) ?_
    apply go
    refine sel_of (fun hc => ?_) (fun hc => ?_)
    ·
      have q23989 := cond_t q23989 hc
      apply go
      apply go
      apply go
      apply go
      apply go
      obtain ⟨x23991, q23992, q23989⟩ := bind_some q23989
      refine ev_index rfl rfl rfl Tryz.underlying22 T45 r23762 q23992 ?_
      intro p23993 c23994 d23995 a23996
      obtain rfl : c23994 = [(.int .u32 x23991)] := d23995
      refine ev (rn_load rfl rfl (run_loadVar1 T45 (a23996.2 0 _ rfl))) ?_
      refine ev0 (rn_conv rfl rfl U45 Tryz.underlying2) ?_
      obtain ⟨y24004, q24005, q23989⟩ := bind_some q23989
      refine W.cut (γ := Int) (fun g => [(0, v23761), (1, v23764), (5, v23938), (7, (.int .i64 x23942)), (8, (.int .i64 (g)))]) (fun g w' => y24004 = (g) ∧ w23986 = w') ?_ ?_
      ·
        apply go
        apply go
        refine ev0 (rn_len rfl rfl Tryz.underlying22 r23765) ?_
        apply go
        refine sel_of (fun hc => ?_) (fun hc => ?_)
        ·
          have q24005 := cond_t q24005 hc
          apply go
          obtain ⟨x24006, q24007, q24005⟩ := bind_some q24005
          refine ev_index rfl rfl rfl Tryz.underlying22 T45 r23765 q24007 ?_
          intro p24008 c24009 d24010 a24011
          obtain rfl : c24009 = [(.int .u32 x24006)] := d24010
          refine ev (rn_load rfl rfl (run_loadVar1 T45 (a24011.2 0 _ rfl))) ?_
          refine ev0 (rn_conv rfl rfl U45 Tryz.underlying2) ?_
          obtain rfl := Option.some.inj q24005
          exact ⟨(IntKind.i64.wrap ((IntKind.i64.wrap ((IntKind.i64.wrap x23991) - x23941)) - (IntKind.i64.wrap x24006))), (.c rfl (.c rfl (.c rfl (.c rfl (.c rfl .n))))), rfl, rfl⟩
        ·
          have q24005 := cond_f q24005 hc
          apply go
          obtain rfl := Option.some.inj q24005
          exact ⟨(IntKind.i64.wrap ((IntKind.i64.wrap x23991) - x23941)), (.c rfl (.c rfl (.c rfl (.c rfl (.c rfl .n))))), rfl, rfl⟩
      ·
        rintro x24003 _ ⟨hy, rfl⟩
        replace hy := hy.symm
        subst hy
        apply go
        apply go
        obtain ⟨y24014, q24015, q23989⟩ := bind_some q23989
        refine W.cut (γ := (Int × Int)) (fun g => [(0, v23761), (1, v23764), (5, v23938), (6, (.int .i64 (g.1))), (7, (.int .i64 x23942)), (8, (.int .i64 (g.2)))]) (fun g w' => y24014 = ((g.1), (g.2)) ∧ w23986 = w') ?_ ?_
        ·
          apply go
          apply go
          apply go
          refine sel_of (fun hc => ?_) (fun hc => ?_)
          ·
            have q24015 := cond_t q24015 hc
            apply go
            apply go
            apply go
            obtain rfl := Option.some.inj q24015
            exact ⟨(1, (IntKind.i64.wrap (x24003 + 4294967296))), (.c rfl (.c rfl (.c rfl (.c rfl (.c rfl (.c rfl .n)))))), rfl, rfl⟩
          ·
            have q24015 := cond_f q24015 hc
            apply go
            obtain rfl := Option.some.inj q24015
            exact ⟨(0, x24003), (.c rfl (.c rfl (.c rfl (.c rfl (.c rfl (.c rfl .n)))))), rfl, rfl⟩
        ·
          rintro ⟨x24012, x24013⟩ _ ⟨hy, rfl⟩
          replace hy := hy.symm
          subst hy
          apply go
          refine ev0 (rn_conv rfl rfl U2 Tryz.underlying45) ?_
          refine ev_litN (d := (dI .u32)) (xs := [(IntKind.u32.wrap x24013)]) (cs := [(.int .u32 (IntKind.u32.wrap x24013))]) hp rfl rfl Tryz.underlying22 T45 (by decide) rfl rfl (Elems.cons (d := (dI .u32)) (xs := _) rfl (Elems.nil _ _ _ _)) ?_
          intro v24016 I24018 w24017 hp hs r24019
          replace r23762 := r23762.step hs
          replace r23765 := r23765.step hs
          replace o23940 := o23940.step hs
          obtain ⟨x24020, q24021, q23989⟩ := bind_some q23989
          refine ev_append hp (i := 0) rfl rfl rfl rfl Tryz.underlying22 T45 rfl rfl o23940 r24019 q24021 ?_
          rintro v24022 e24023 w24024 hp hs o24025
          replace r23762 := r23762.step hs
          replace r23765 := r23765.step hs
          apply go
          exact ⟨_, (Option.some.inj q23989).symm, (v24022, e24023, I24018), (.c rfl (.c rfl (.c rfl (.c rfl (.c rfl .n))))), ⟨hp, r23762, r23765, o24025⟩⟩
    ·
      have q23989 := cond_f q23989 hc
      apply go
      have q24026 := congrArg some (q23990 _ (Option.some.inj q23989).symm)
      obtain rfl := Option.some.inj q24026
      exact ⟨(x23937, v23938, e23939, I23943), (.c rfl .n), rfl, hp, o23940⟩
  ·
    rintro ⟨x23893, v23894, e23895, I23897⟩ w23898 ⟨hy, hp, o23896⟩
    replace hy := hy.symm
    subst hy
    apply go
    apply go
    have r24027 := o23896.frz hp (i := 0) rfl
    obtain ⟨hp, hs⟩ := freeze_hp hp (i := 0) rfl
    have hp := hp.sel [] (by decide)
    obtain ⟨x24028, q24029, h⟩ := bind_some h
    refine ev_call rfl rfl C47 (((ref01_trim_ok n) _ _  x23893 v23894 r24027 hp.imm _ q24029).mono ?_)
    rintro _ w24030 ⟨I24031, v24032, e24033, hv, hq, o24034⟩
    replace hv := hv.symm
    subst hv
    have hs := hq.st
    have hp := hp.join0 hq
    apply go
    obtain rfl := Option.some.inj h
    have r24035 := o24034.frz hp (i := 0) rfl
    obtain ⟨hp, hs⟩ := freeze_hp hp (i := 0) rfl
    have hp := hp.sel [] (by decide)
    exact ⟨(Ad I24031 e24033), v24032, rfl, hp, r24035⟩

end Go.Proofs.YthhghkcopfnbiaaGreatDoor

namespace Go.Proofs.YthhghkcopfnbiaaGreatDoor
open Go Go.Proofs.YthhghkcopfnbiaaGreatDoor.Gw Go.RowKit
set_option linter.unusedVariables false
attribute [local irreducible] Ev EvQ EvS EvH
def ref01_add_S (f : (List Int) → (List Int) → Option (List Int)) : Prop := ∀ (w0 : World) (I0 : Nat → Prop) (x24036 : (List Int)) (v24037 : Value) (r24038 : RepS (dI .u32) w0 I0 v24037 x24036) (x24039 : (List Int)) (v24040 : Value) (r24041 : RepS (dI .u32) w0 I0 v24040 x24039) (hI : ∀ g, I0 g → g < w0.heap.size) (r : (List Int)), f x24036 x24039 = some r →
    Ret Tryz.prog 54 #[v24037, v24040] w0 fun v w1 => ∃ (I1 : Nat → Prop) (u24042 : Value), v = u24042 ∧ Hp ⟨w0, I0, []⟩ I1 [] w1 ∧ RepS (dI .u32) w1 I1 u24042 r
theorem ref01_add_ok (n : Nat) : ref01_add_S (ref01_add n) := by
  intro w0 I0 x24036 v24037 r24038 x24039 v24040 r24041 hI r h
  unfold ref01_add at h
  refine enter Tryz.func54 rfl (Nat.le_of_ble_eq_true rfl) ?_
  have hp : Hp ⟨w0, I0, []⟩ I0 [] w0 := Hp.start hI
  apply go
  apply go
  apply go
  apply go
  apply go
  apply go
  obtain ⟨y24199, q24200, h⟩ := bind_some h
  refine W.cut (γ := ((List Int) × Value × Ent × (Nat → Prop))) (fun g => [(5, (g.2.1))]) (fun g w' => y24199 = (g.1) ∧ Hp ⟨w0, I0, []⟩ (g.2.2.2) [(g.2.2.1)] w' ∧ OwnS (dI .u32) 45 w' (g.2.2.2) (g.2.1) (g.2.2.1) (g.1)) ?_ ?_
  ·
    apply go
    apply go
    apply go
    have hp := hp.none_
    have o24303 := OwnS.nil (dI .u32) 45 w0 I0
    refine W.loop q24200 (γ := (Value × Ent × (Nat → Prop))) (fun s g => [(0, v24037), (1, v24040), (5, (g.1)), (6, (.int .u64 (s.2.1))), (7, (.int .i64 (s.2.2)))]) (fun s g w' => Hp ⟨w0, I0, []⟩ (g.2.2) [(g.2.1)] w' ∧ RepS (dI .u32) w' (g.2.2) v24037 x24036 ∧ RepS (dI .u32) w' (g.2.2) v24040 x24039 ∧ OwnS (dI .u32) 45 w' (g.2.2) (g.1) (g.2.1) (s.1)) ((.slice none 0 0), none, I0) (.c rfl (.c rfl (.c rfl (.c rfl (.c rfl .n))))) ⟨hp, r24038, r24041, o24303⟩ ?_
    rintro ⟨x24245, x24249, x24250⟩ ⟨v24246, e24247, I24251⟩ w24302 y24304 ⟨hp, r24038, r24041, o24248⟩ q24305 q24306
    unfold ref01_add_L1 at q24305
    apply go
    obtain ⟨y24308, q24309, q24305⟩ := bind_some q24305
    refine W.cut (γ := Bool) (fun g => [(0, v24037), (1, v24040), (5, v24246), (6, (.int .u64 x24249)), (7, (.int .i64 x24250)), (21, (.bool (g)))]) (fun g w' => y24308 = (g) ∧ w24302 = w') ?_ ?_
    ·
      apply go
      refine ev0 (rn_len rfl rfl Tryz.underlying22 r24038) ?_
      refine sel_of (fun hc => ?_) (fun hc => ?_)
      ·
        have q24309 := cond_t q24309 hc
        obtain rfl := Option.some.inj q24309
        exact ⟨true, (.c rfl (.c rfl (.c rfl (.c rfl (.c rfl (.c rfl .n)))))), rfl, rfl⟩
      ·
        have q24309 := cond_f q24309 hc
        refine ev0 (rn_len rfl rfl Tryz.underlying22 r24041) ?_
        refine sel_of (fun hc => ?_) (fun hc => ?_)
        ·
          have q24309 := cond_t q24309 hc
          obtain rfl := Option.some.inj q24309
          exact ⟨true, (.c rfl (.c rfl (.c rfl (.c rfl (.c rfl (.c rfl .n)))))), rfl, rfl⟩
        ·
          have q24309 := cond_f q24309 hc
          obtain rfl := Option.some.inj q24309
          exact ⟨(decide (x24249 > 0)), (.c rfl (.c rfl (.c rfl (.c rfl (.c rfl (.c rfl .n)))))), rfl, rfl⟩
    ·
      rintro x24307 _ ⟨hy, rfl⟩
      replace hy := hy.symm
      subst hy
      apply go
      refine sel_of (fun hc => ?_) (fun hc => ?_)
      ·
        have q24305 := cond_t q24305 hc
        apply go
        apply go
        apply go
        obtain ⟨y24317, q24318, q24305⟩ := bind_some q24305
        refine W.cut (γ := Int) (fun g => [(0, v24037), (1, v24040), (5, v24246), (6, (.int .u64 (g))), (7, (.int .i64 x24250))]) (fun g w' => y24317 = (g) ∧ w24302 = w') ?_ ?_
        ·
          apply go
          apply go
          refine ev0 (rn_len rfl rfl Tryz.underlying22 r24038) ?_
          apply go
          refine sel_of (fun hc => ?_) (fun hc => ?_)
          ·
            have q24318 := cond_t q24318 hc
            apply go
            obtain ⟨x24319, q24320, q24318⟩ := bind_some q24318
            refine ev_index rfl rfl rfl Tryz.underlying22 T45 r24038 q24320 ?_
            intro p24321 c24322 d24323 a24324
            obtain rfl : c24322 = [(.int .u32 x24319)] := d24323
            refine ev (rn_load rfl rfl (run_loadVar1 T45 (a24324.2 0 _ rfl))) ?_
            refine ev0 (rn_conv rfl rfl U45 Tryz.underlying49) ?_
            obtain rfl := Option.some.inj q24318
            exact ⟨(IntKind.u64.wrap (x24249 + (IntKind.u64.wrap x24319))), (.c rfl (.c rfl (.c rfl (.c rfl (.c rfl .n))))), rfl, rfl⟩
          ·
            have q24318 := cond_f q24318 hc
            apply go
            obtain rfl := Option.some.inj q24318
            exact ⟨x24249, (.c rfl (.c rfl (.c rfl (.c rfl (.c rfl .n))))), rfl, rfl⟩
        ·
          rintro x24316 _ ⟨hy, rfl⟩
          replace hy := hy.symm
          subst hy
          obtain ⟨y24332, q24333, q24305⟩ := bind_some q24305
          refine W.cut (γ := Int) (fun g => [(0, v24037), (1, v24040), (5, v24246), (6, (.int .u64 (g))), (7, (.int .i64 x24250))]) (fun g w' => y24332 = (g) ∧ w24302 = w') ?_ ?_
          ·
            apply go
            apply go
            refine ev0 (rn_len rfl rfl Tryz.underlying22 r24041) ?_
            apply go
            refine sel_of (fun hc => ?_) (fun hc => ?_)
            ·
              have q24333 := cond_t q24333 hc
              apply go
              obtain ⟨x24334, q24335, q24333⟩ := bind_some q24333
              refine ev_index rfl rfl rfl Tryz.underlying22 T45 r24041 q24335 ?_
              intro p24336 c24337 d24338 a24339
              obtain rfl : c24337 = [(.int .u32 x24334)] := d24338
              refine ev (rn_load rfl rfl (run_loadVar1 T45 (a24339.2 0 _ rfl))) ?_
              refine ev0 (rn_conv rfl rfl U45 Tryz.underlying49) ?_
              obtain rfl := Option.some.inj q24333
              exact ⟨(IntKind.u64.wrap (x24316 + (IntKind.u64.wrap x24334))), (.c rfl (.c rfl (.c rfl (.c rfl (.c rfl .n))))), rfl, rfl⟩
            ·
              have q24333 := cond_f q24333 hc
              apply go
              obtain rfl := Option.some.inj q24333
              exact ⟨x24316, (.c rfl (.c rfl (.c rfl (.c rfl (.c rfl .n))))), rfl, rfl⟩
          ·
            rintro x24331 _ ⟨hy, rfl⟩
            replace hy := hy.symm
            subst hy
            apply go
            apply go
            refine ev0 (rn_conv rfl rfl U49 Tryz.underlying45) ?_
            refine ev_litN (d := (dI .u32)) (xs := [(IntKind.u32.wrap x24331)]) (cs := [(.int .u32 (IntKind.u32.wrap x24331))]) hp rfl rfl Tryz.underlying22 T45 (by decide) rfl rfl (Elems.cons (d := (dI .u32)) (xs := _) rfl (Elems.nil _ _ _ _)) ?_
            intro v24340 I24342 w24341 hp hs r24343
            replace r24038 := r24038.step hs
            replace r24041 := r24041.step hs
            replace o24248 := o24248.step hs
            obtain ⟨x24344, q24345, q24305⟩ := bind_some q24305
            refine ev_append hp (i := 0) rfl rfl rfl rfl Tryz.underlying22 T45 rfl rfl o24248 r24343 q24345 ?_
            rintro v24346 e24347 w24348 hp hs o24349
            replace r24038 := r24038.step hs
            replace r24041 := r24041.step hs
            apply go
            refine ⟨by decide, ?_⟩
            apply go
            exact ⟨_, (Option.some.inj q24305).symm, (v24346, e24347, I24342), (.c rfl (.c rfl (.c rfl (.c rfl (.c rfl .n))))), ⟨hp, r24038, r24041, o24349⟩⟩
      ·
        have q24305 := cond_f q24305 hc
        apply go
        have q24350 := congrArg some (q24306 _ (Option.some.inj q24305).symm)
        obtain rfl := Option.some.inj q24350
        exact ⟨(x24245, v24246, e24247, I24251), (.c rfl .n), rfl, hp, o24248⟩
  ·
    rintro ⟨x24193, v24194, e24195, I24197⟩ w24198 ⟨hy, hp, o24196⟩
    replace hy := hy.symm
    subst hy
    apply go
    apply go
    have r24351 := o24196.frz hp (i := 0) rfl
    obtain ⟨hp, hs⟩ := freeze_hp hp (i := 0) rfl
    have hp := hp.sel [] (by decide)
    obtain ⟨x24352, q24353, h⟩ := bind_some h
    refine ev_call rfl rfl C47 (((ref01_trim_ok n) _ _  x24193 v24194 r24351 hp.imm _ q24353).mono ?_)
    rintro _ w24354 ⟨I24355, v24356, e24357, hv, hq, o24358⟩
    replace hv := hv.symm
    subst hv
    have hs := hq.st
    have hp := hp.join0 hq
    apply go
    obtain rfl := Option.some.inj h
    have r24359 := o24358.frz hp (i := 0) rfl
    obtain ⟨hp, hs⟩ := freeze_hp hp (i := 0) rfl
    have hp := hp.sel [] (by decide)
    exact ⟨(Ad I24355 e24357), v24356, rfl, hp, r24359⟩

end Go.Proofs.YthhghkcopfnbiaaGreatDoor

namespace Go.Proofs.YthhghkcopfnbiaaGreatDoor
open Go Go.Proofs.YthhghkcopfnbiaaGreatDoor.Gw Go.RowKit
set_option linter.unusedVariables false
attribute [local irreducible] Ev EvQ EvS EvH
def ref01_Gcd_S (f : Int_2 → Int_2 → Option Int_2) : Prop := ∀ (w0 : World) (I0 : Nat → Prop) (x24360 : Int_2) (v24361 : Value) (r24362 : RepS (dI .u32) w0 I0 v24361 x24360.Mag) (x24363 : Int_2) (v24364 : Value) (r24365 : RepS (dI .u32) w0 I0 v24364 x24363.Mag) (hI : ∀ g, I0 g → g < w0.heap.size) (r : Int_2), f x24360 x24363 = some r →
    Ret Tryz.prog 22 #[(.agg #[(.bool x24360.Neg), v24361]), (.agg #[(.bool x24363.Neg), v24364])] w0 fun v w1 => ∃ (I1 : Nat → Prop) (u24366 : Value), v = (.agg #[(.bool r.Neg), u24366]) ∧ Hp ⟨w0, I0, []⟩ I1 [] w1 ∧ RepS (dI .u32) w1 I1 u24366 r.Mag
theorem ref01_Gcd_ok (n : Nat) : ref01_Gcd_S (ref01_Gcd n) := by
  intro w0 I0 x24360 v24361 r24362 x24363 v24364 r24365 hI r h
  unfold ref01_Gcd at h
  refine enter Tryz.func22 rfl (Nat.le_of_ble_eq_true rfl) ?_
  have hp : Hp ⟨w0, I0, []⟩ I0 [] w0 := Hp.start hI
  apply go
  apply go
  refine ev_boxI hp rfl rfl ?_
  intro p24369 I24370 w24368 hp hs a24371
  replace r24365 := r24365.step hs
  replace r24362 := r24362.step hs
  refine ev_boxI hp rfl rfl ?_
  intro p24374 I24375 w24373 hp hs a24376
  replace a24371 := a24371.step hs
  replace r24362 := r24362.step hs
  replace r24365 := r24365.step hs
  refine ev_alloc hp rfl T24 ?_
  intro g24377 w24378 hp hs
  replace a24371 := a24371.step hs
  replace r24362 := r24362.step hs
  replace a24376 := a24376.step hs
  replace r24365 := r24365.step hs
  apply go
  apply go
  refine ev0 (rn_field rfl rfl FO24_1) ?_
  refine ev (rn_load rfl rfl (run_loadVar1 T22 (a24371.2 1 _ rfl))) ?_
  obtain ⟨x24379, q24380, h⟩ := bind_some h
  refine ev_call rfl rfl C47 (((ref01_trim_ok n) _ _  x24360.Mag v24361 r24362 hp.imm _ q24380).mono ?_)
  rintro _ w24381 ⟨I24382, v24383, e24384, hv, hq, o24385⟩
  replace hv := hv.symm
  subst hv
  have hs := hq.st
  have hp := hp.join0 hq
  replace a24371 := a24371.step hs
  replace r24362 := r24362.step hs
  replace a24376 := a24376.step hs
  replace r24365 := r24365.step hs
  apply go
  apply go
  refine ev0 (rn_field rfl rfl FO24_1) ?_
  refine ev (rn_load rfl rfl (run_loadVar1 T22 (a24376.2 1 _ rfl))) ?_
  obtain ⟨x24386, q24387, h⟩ := bind_some h
  refine ev_call rfl rfl C47 (((ref01_trim_ok n) _ _  x24363.Mag v24364 r24365 hp.imm _ q24387).mono ?_)
  rintro _ w24388 ⟨I24389, v24390, e24391, hv, hq, o24392⟩
  replace hv := hv.symm
  subst hv
  have hs := hq.st
  have hp := hp.join0 hq
  replace a24371 := a24371.step hs
  replace r24362 := r24362.step hs
  replace a24376 := a24376.step hs
  replace r24365 := r24365.step hs
  replace o24385 := o24385.step hs
  apply go
  apply go
  apply go
  refine ev0 (x_lenO rfl rfl Tryz.underlying22 o24385) ?_
  apply go
  refine sel_of (fun hc => ?_) (fun hc => ?_)
  ·
    have h := cond_t h hc
    apply go
    apply go
    refine ev (rn_load rfl rfl (run_loadVarA T24 rfl a24376)) ?_
    obtain ⟨x24393, q24394, h⟩ := bind_some h
    refine ev_call rfl rfl C42 (((ref01_Abs_ok n) _ _  (Int_2.mk x24363.Neg x24363.Mag) v24364 r24365 hp.imm _ q24394).mono ?_)
    rintro _ w24395 ⟨I24396, v24397, hv, hq, r24398⟩
    replace hv := hv.symm
    subst hv
    have hs := hq.st
    have hp := hp.join0 hq
    refine ev_storeA hp (i := 2) (off := 0) (vs := [(.bool x24393.Neg), v24397]) rfl rfl rfl rfl T24 rfl (Nat.le_of_ble_eq_true rfl) (ones_cons rfl (ones_cons r24398.one ones_nil)) ?_
    intro w24399 hp hs
    replace r24398 := r24398.step hs
    apply go
    obtain rfl := Option.some.inj h
    refine ⟨_, run_loadVarA T24 rfl (hp.at_ (i := 2) rfl), ?_⟩
    have hp := hp.sel [] (by decide)
    exact ⟨I24396, v24397, rfl, hp, r24398⟩
  ·
    have h := cond_f h hc
    apply go
    apply go
    apply go
    apply go
    refine ev0 (x_lenO rfl rfl Tryz.underlying22 o24392) ?_
    apply go
    refine sel_of (fun hc => ?_) (fun hc => ?_)
    ·
      have h := cond_t h hc
      apply go
      apply go
      refine ev (rn_load rfl rfl (run_loadVarA T24 rfl a24371)) ?_
      obtain ⟨x24400, q24401, h⟩ := bind_some h
      refine ev_call rfl rfl C42 (((ref01_Abs_ok n) _ _  (Int_2.mk x24360.Neg x24360.Mag) v24361 r24362 hp.imm _ q24401).mono ?_)
      rintro _ w24402 ⟨I24403, v24404, hv, hq, r24405⟩
      replace hv := hv.symm
      subst hv
      have hs := hq.st
      have hp := hp.join0 hq
      refine ev_storeA hp (i := 2) (off := 0) (vs := [(.bool x24400.Neg), v24404]) rfl rfl rfl rfl T24 rfl (Nat.le_of_ble_eq_true rfl) (ones_cons rfl (ones_cons r24405.one ones_nil)) ?_
      intro w24406 hp hs
      replace r24405 := r24405.step hs
      apply go
      obtain rfl := Option.some.inj h
      refine ⟨_, run_loadVarA T24 rfl (hp.at_ (i := 2) rfl), ?_⟩
      have hp := hp.sel [] (by decide)
      exact ⟨I24403, v24404, rfl, hp, r24405⟩
    ·
      have h := cond_f h hc
      apply go
      apply go
      apply go
      obtain ⟨y24566, q24567, h⟩ := bind_some h
      refine W.cut (γ := ((List Int) × (List Int) × Int × Value × Value × (Nat → Prop))) (fun g => [(4, (.pointer (some ⟨g24377, 0, none⟩))), (5, (g.2.2.2.1)), (6, (g.2.2.2.2.1)), (7, (.int .i64 (g.2.2.1)))]) (fun g w' => y24566 = ((g.1), (g.2.1), (g.2.2.1)) ∧ Hp ⟨w0, I0, []⟩ (g.2.2.2.2.2) [some (g24377, [(.bool false), (.slice none 0 0)], 24)] w' ∧ RepS (dI .u32) w' (g.2.2.2.2.2) (g.2.2.2.1) (g.1) ∧ RepS (dI .u32) w' (g.2.2.2.2.2) (g.2.2.2.2.1) (g.2.1)) ?_ ?_
      ·
        apply go
        have r24673 := o24385.frz hp (i := 1) rfl
        obtain ⟨hp, hs⟩ := freeze_hp hp (i := 1) rfl
        replace o24392 := o24392.step hs
        have hp := hp.sel [0, 2] (by decide)
        have r24674 := o24392.frz hp (i := 0) rfl
        obtain ⟨hp, hs⟩ := freeze_hp hp (i := 0) rfl
        replace r24673 := r24673.step hs
        have hp := hp.sel [1] (by decide)
        refine W.loop q24567 (γ := (Value × Value × (Nat → Prop))) (fun s g => [(4, (.pointer (some ⟨g24377, 0, none⟩))), (5, (g.1)), (6, (g.2.1)), (7, (.int .i64 (s.2.2)))]) (fun s g w' => Hp ⟨w0, I0, []⟩ (g.2.2) [some (g24377, [(.bool false), (.slice none 0 0)], 24)] w' ∧ RepS (dI .u32) w' (g.2.2) (g.1) (s.1) ∧ RepS (dI .u32) w' (g.2.2) (g.2.1) (s.2.1)) (v24383, v24390, (Ad (Ad I24389 e24384) e24391)) (.c rfl (.c rfl (.c rfl (.c rfl .n)))) ⟨hp, r24673, r24674⟩ ?_
        rintro ⟨x24617, x24620, x24623⟩ ⟨v24618, v24621, I24624⟩ w24672 y24675 ⟨hp, r24619, r24622⟩ q24676 q24677
        unfold ref01_Gcd_L1 at q24676
        apply go
        obtain ⟨y24691, q24692, q24676⟩ := bind_some q24676
        refine W.cut (γ := Bool) (fun g => [(4, (.pointer (some ⟨g24377, 0, none⟩))), (5, v24618), (6, v24621), (7, (.int .i64 x24623)), (36, (.bool (g)))]) (fun g w' => y24691 = (g) ∧ w24672 = w') ?_ ?_
        ·
          apply go
          obtain ⟨x24693, q24694, q24692⟩ := bind_some q24692
          refine ev_index rfl rfl rfl Tryz.underlying22 T45 r24619 q24694 ?_
          intro p24695 c24696 d24697 a24698
          obtain rfl : c24696 = [(.int .u32 x24693)] := d24697
          refine ev (rn_load rfl rfl (run_loadVar1 T45 (a24698.2 0 _ rfl))) ?_
          refine ⟨by decide, ?_⟩
          refine sel_of (fun hc => ?_) (fun hc => ?_)
          ·
            have q24692 := cond_t q24692 hc
            obtain ⟨x24699, q24700, q24692⟩ := bind_some q24692
            refine ev_index rfl rfl rfl Tryz.underlying22 T45 r24622 q24700 ?_
            intro p24701 c24702 d24703 a24704
            obtain rfl : c24702 = [(.int .u32 x24699)] := d24703
            refine ev (rn_load rfl rfl (run_loadVar1 T45 (a24704.2 0 _ rfl))) ?_
            refine ⟨by decide, ?_⟩
            obtain rfl := Option.some.inj q24692
            exact ⟨((x24699.tmod 2) == 0), (.c rfl (.c rfl (.c rfl (.c rfl (.c rfl .n))))), rfl, rfl⟩
          ·
            have q24692 := cond_f q24692 hc
            obtain rfl := Option.some.inj q24692
            exact ⟨false, (.c rfl (.c rfl (.c rfl (.c rfl (.c rfl .n))))), rfl, rfl⟩
        ·
          rintro x24690 _ ⟨hy, rfl⟩
          replace hy := hy.symm
          subst hy
          apply go
          refine sel_of (fun hc => ?_) (fun hc => ?_)
          ·
            have q24676 := cond_t q24676 hc
            apply go
            apply go
            apply go
            apply go
            obtain ⟨x24705, q24706, q24676⟩ := bind_some q24676
            refine ev_call rfl rfl C51 (((ref01_half_ok n) _ _  x24617 v24618 r24619 hp.imm _ q24706).mono ?_)
            rintro _ w24707 ⟨I24708, v24709, hv, hq, r24710⟩
            replace hv := hv.symm
            subst hv
            have hs := hq.st
            have hp := hp.join0 hq
            replace r24622 := r24622.step hs
            apply go
            apply go
            obtain ⟨x24711, q24712, q24676⟩ := bind_some q24676
            refine ev_call rfl rfl C51 (((ref01_half_ok n) _ _  x24620 v24621 r24622 hp.imm _ q24712).mono ?_)
            rintro _ w24713 ⟨I24714, v24715, hv, hq, r24716⟩
            replace hv := hv.symm
            subst hv
            have hs := hq.st
            have hp := hp.join0 hq
            replace r24710 := r24710.step hs
            apply go
            exact ⟨_, (Option.some.inj q24676).symm, (v24709, v24715, I24714), (.c rfl (.c rfl (.c rfl (.c rfl .n)))), ⟨hp, r24710, r24716⟩⟩
          ·
            have q24676 := cond_f q24676 hc
            apply go
            have q24717 := congrArg some (q24677 _ (Option.some.inj q24676).symm)
            obtain rfl := Option.some.inj q24717
            exact ⟨(x24617, x24620, x24623, v24618, v24621, I24624), (.c rfl (.c rfl (.c rfl (.c rfl .n)))), rfl, hp, r24619, r24622⟩
      ·
        rintro ⟨x24557, x24560, x24563, v24558, v24561, I24564⟩ w24565 ⟨hy, hp, r24559, r24562⟩
        replace hy := hy.symm
        subst hy
        obtain ⟨y24868, q24869, h⟩ := bind_some h
        refine W.cut (γ := ((List Int) × Value × (Nat → Prop))) (fun g => [(4, (.pointer (some ⟨g24377, 0, none⟩))), (5, (g.2.1)), (7, (.int .i64 x24563))]) (fun g w' => y24868 = (g.1) ∧ Hp ⟨w0, I0, []⟩ (g.2.2) [some (g24377, [(.bool false), (.slice none 0 0)], 24)] w' ∧ RepS (dI .u32) w' (g.2.2) (g.2.1) (g.1)) ?_ ?_
        ·
          apply go
          refine W.loop q24869 (γ := (Value × Value × (Nat → Prop))) (fun s g => [(4, (.pointer (some ⟨g24377, 0, none⟩))), (5, (g.1)), (6, (g.2.1)), (7, (.int .i64 x24563))]) (fun s g w' => Hp ⟨w0, I0, []⟩ (g.2.2) [some (g24377, [(.bool false), (.slice none 0 0)], 24)] w' ∧ RepS (dI .u32) w' (g.2.2) (g.1) (s.1) ∧ RepS (dI .u32) w' (g.2.2) (g.2.1) (s.2)) (v24558, v24561, I24564) (.c rfl (.c rfl (.c rfl (.c rfl .n)))) ⟨hp, r24559, r24562⟩ ?_
          rintro ⟨x24912, x24915⟩ ⟨v24913, v24916, I24918⟩ w24968 y24969 ⟨hp, r24914, r24917⟩ q24970 q24971
          unfold ref01_Gcd_L3 at q24970
          apply go
          apply go
          apply go
          obtain ⟨x24972, q24973, q24970⟩ := bind_some q24970
          refine ev_call rfl rfl C52 (((ref01_cmp_ok n) _ _  x24912 v24913 r24914 x24915 v24916 r24917 hp.imm _ q24973).mono ?_)
          rintro _ w24974 ⟨rfl, hc⟩
          have hs := hp.stp hc
          replace hp := hp.ext hc
          replace r24914 := r24914.step hs
          replace r24917 := r24917.step hs
          apply go
          refine sel_of (fun hc => ?_) (fun hc => ?_)
          ·
            have q24970 := cond_t q24970 hc
            apply go
            apply go
            apply go
            apply go
            apply go
            obtain ⟨x24975, q24976, q24970⟩ := bind_some q24970
            refine ev_index rfl rfl rfl Tryz.underlying22 T45 r24914 q24976 ?_
            intro p24977 c24978 d24979 a24980
            obtain rfl : c24978 = [(.int .u32 x24975)] := d24979
            refine ev (rn_load rfl rfl (run_loadVar1 T45 (a24980.2 0 _ rfl))) ?_
            refine ⟨by decide, ?_⟩
            apply go
            refine sel_of (fun hc => ?_) (fun hc => ?_)
            ·
              have q24970 := cond_t q24970 hc
              apply go
              obtain ⟨x24981, q24982, q24970⟩ := bind_some q24970
              refine ev_call rfl rfl C51 (((ref01_half_ok n) _ _  x24912 v24913 r24914 hp.imm _ q24982).mono ?_)
              rintro _ w24983 ⟨I24984, v24985, hv, hq, r24986⟩
              replace hv := hv.symm
              subst hv
              have hs := hq.st
              have hp := hp.join0 hq
              replace r24917 := r24917.step hs
              exact ⟨_, (Option.some.inj q24970).symm, (v24985, v24916, I24984), (.c rfl (.c rfl (.c rfl (.c rfl .n)))), ⟨hp, r24986, r24917⟩⟩
            ·
              have q24970 := cond_f q24970 hc
              apply go
              apply go
              obtain ⟨x24987, q24988, q24970⟩ := bind_some q24970
              refine ev_index rfl rfl rfl Tryz.underlying22 T45 r24917 q24988 ?_
              intro p24989 c24990 d24991 a24992
              obtain rfl : c24990 = [(.int .u32 x24987)] := d24991
              refine ev (rn_load rfl rfl (run_loadVar1 T45 (a24992.2 0 _ rfl))) ?_
              refine ⟨by decide, ?_⟩
              apply go
              refine sel_of (fun hc => ?_) (fun hc => ?_)
              ·
                have q24970 := cond_t q24970 hc
                apply go
                obtain ⟨x24993, q24994, q24970⟩ := bind_some q24970
                refine ev_call rfl rfl C51 (((ref01_half_ok n) _ _  x24915 v24916 r24917 hp.imm _ q24994).mono ?_)
                rintro _ w24995 ⟨I24996, v24997, hv, hq, r24998⟩
                replace hv := hv.symm
                subst hv
                have hs := hq.st
                have hp := hp.join0 hq
                replace r24914 := r24914.step hs
                exact ⟨_, (Option.some.inj q24970).symm, (v24913, v24997, I24996), (.c rfl (.c rfl (.c rfl (.c rfl .n)))), ⟨hp, r24914, r24998⟩⟩
              ·
                have q24970 := cond_f q24970 hc
                apply go
                apply go
                obtain ⟨x24999, q25000, q24970⟩ := bind_some q24970
                refine ev_call rfl rfl C52 (((ref01_cmp_ok n) _ _  x24912 v24913 r24914 x24915 v24916 r24917 hp.imm _ q25000).mono ?_)
                rintro _ w25001 ⟨rfl, hc⟩
                have hs := hp.stp hc
                replace hp := hp.ext hc
                replace r24914 := r24914.step hs
                replace r24917 := r24917.step hs
                apply go
                refine sel_of (fun hc => ?_) (fun hc => ?_)
                ·
                  have q24970 := cond_t q24970 hc
                  apply go
                  obtain ⟨x25002, q25003, q24970⟩ := bind_some q24970
                  refine ev_call rfl rfl C53 (((ref01_sub_ok n) _ _  x24912 v24913 r24914 x24915 v24916 r24917 hp.imm _ q25003).mono ?_)
                  rintro _ w25004 ⟨I25005, v25006, hv, hq, r25007⟩
                  replace hv := hv.symm
                  subst hv
                  have hs := hq.st
                  have hp := hp.join0 hq
                  replace r24917 := r24917.step hs
                  exact ⟨_, (Option.some.inj q24970).symm, (v25006, v24916, I25005), (.c rfl (.c rfl (.c rfl (.c rfl .n)))), ⟨hp, r25007, r24917⟩⟩
                ·
                  have q24970 := cond_f q24970 hc
                  apply go
                  obtain ⟨x25008, q25009, q24970⟩ := bind_some q24970
                  refine ev_call rfl rfl C53 (((ref01_sub_ok n) _ _  x24915 v24916 r24917 x24912 v24913 r24914 hp.imm _ q25009).mono ?_)
                  rintro _ w25010 ⟨I25011, v25012, hv, hq, r25013⟩
                  replace hv := hv.symm
                  subst hv
                  have hs := hq.st
                  have hp := hp.join0 hq
                  replace r24914 := r24914.step hs
                  exact ⟨_, (Option.some.inj q24970).symm, (v24913, v25012, I25011), (.c rfl (.c rfl (.c rfl (.c rfl .n)))), ⟨hp, r24914, r25013⟩⟩
          ·
            have q24970 := cond_f q24970 hc
            apply go
            have q25014 := congrArg some (q24971 _ (Option.some.inj q24970).symm)
            obtain rfl := Option.some.inj q25014
            exact ⟨(x24912, v24913, I24918), (.c rfl (.c rfl (.c rfl .n))), rfl, hp, r24914⟩
        ·
          rintro ⟨x24863, v24864, I24866⟩ w24867 ⟨hy, hp, r24865⟩
          replace hy := hy.symm
          subst hy
          obtain ⟨y25053, q25054, h⟩ := bind_some h
          refine W.cut (γ := ((List Int) × Value × (Nat → Prop))) (fun g => [(4, (.pointer (some ⟨g24377, 0, none⟩))), (5, (g.2.1))]) (fun g w' => y25053 = (g.1) ∧ Hp ⟨w0, I0, []⟩ (g.2.2) [some (g24377, [(.bool false), (.slice none 0 0)], 24)] w' ∧ RepS (dI .u32) w' (g.2.2) (g.2.1) (g.1)) ?_ ?_
          ·
            apply go
            apply go
            apply go
            refine W.loop q25054 (γ := (Value × (Nat → Prop))) (fun s g => [(4, (.pointer (some ⟨g24377, 0, none⟩))), (5, (g.1)), (7, (.int .i64 x24563)), (8, (.int .i64 (s.2)))]) (fun s g w' => Hp ⟨w0, I0, []⟩ (g.2) [some (g24377, [(.bool false), (.slice none 0 0)], 24)] w' ∧ RepS (dI .u32) w' (g.2) (g.1) (s.1)) (v24864, I24866) (.c rfl (.c rfl (.c rfl (.c rfl .n)))) ⟨hp, r24865⟩ ?_
            rintro ⟨x25061, x25064⟩ ⟨v25062, I25065⟩ w25077 y25078 ⟨hp, r25063⟩ q25079 q25080
            unfold ref01_Gcd_L5 at q25079
            apply go
            apply go
            apply go
            apply go
            refine sel_of (fun hc => ?_) (fun hc => ?_)
            ·
              have q25079 := cond_t q25079 hc
              apply go
              apply go
              apply go
              apply go
              obtain ⟨x25081, q25082, q25079⟩ := bind_some q25079
              refine ev_call rfl rfl C54 (((ref01_add_ok n) _ _  x25061 v25062 r25063 x25061 v25062 r25063 hp.imm _ q25082).mono ?_)
              rintro _ w25083 ⟨I25084, v25085, hv, hq, r25086⟩
              replace hv := hv.symm
              subst hv
              have hs := hq.st
              have hp := hp.join0 hq
              apply go
              exact ⟨_, (Option.some.inj q25079).symm, (v25085, I25084), (.c rfl (.c rfl (.c rfl (.c rfl .n)))), ⟨hp, r25086⟩⟩
            ·
              have q25079 := cond_f q25079 hc
              apply go
              have q25087 := congrArg some (q25080 _ (Option.some.inj q25079).symm)
              obtain rfl := Option.some.inj q25087
              exact ⟨(x25061, v25062, I25065), (.c rfl (.c rfl .n)), rfl, hp, r25063⟩
          ·
            rintro ⟨x25048, v25049, I25051⟩ w25052 ⟨hy, hp, r25050⟩
            replace hy := hy.symm
            subst hy
            apply go
            apply go
            obtain ⟨A25088, m25089, m25090, rfl⟩ := r25050.isSl
            refine ev0 (fun w => rn_build (cs := [(.bool false), (.slice A25088 m25089 m25090)]) rfl rfl T24 PL24 rfl) ?_
            refine ev_storeA hp (i := 0) (off := 0) (vs := [(.bool false), (.slice A25088 m25089 m25090)]) rfl rfl rfl rfl T24 rfl (Nat.le_of_ble_eq_true rfl) (ones_cons rfl (ones_cons r25050.one ones_nil)) ?_
            intro w25092 hp hs
            replace r25050 := r25050.step hs
            apply go
            obtain rfl := Option.some.inj h
            refine ⟨_, run_loadVarA T24 rfl (hp.at_ (i := 0) rfl), ?_⟩
            have hp := hp.sel [] (by decide)
            exact ⟨I25051, (.slice A25088 m25089 m25090), rfl, hp, r25050⟩

end Go.Proofs.YthhghkcopfnbiaaGreatDoor

namespace Go.Proofs.YthhghkcopfnbiaaGreatDoor
open Go Go.Proofs.YthhghkcopfnbiaaGreatDoor.Gw Go.RowKit
set_option linter.unusedVariables false
attribute [local irreducible] Ev EvQ EvS EvH vch
def law01_IntegerGcds_S (f : Int_2 → Int_2 → Option Bool) : Prop := ∀ (w0 : World) (I0 : Nat → Prop) (tb : Tb w0 I0 1 .u64 pow10) (x25093 : Int_2) (v25094 : Value) (r25095 : RepS (dI .u32) w0 I0 v25094 x25093.Mag) (x25096 : Int_2) (v25097 : Value) (r25098 : RepS (dI .u32) w0 I0 v25097 x25096.Mag) (hI : ∀ g, I0 g → g < w0.heap.size) (r : Bool), f x25093 x25096 = some r →
    Ret Tryz.prog 4 #[(.agg #[(.bool x25093.Neg), v25094]), (.agg #[(.bool x25096.Neg), v25097])] w0 fun v w1 => v = (.bool r) ∧ Ch [] w0 w1
theorem law01_IntegerGcds_ok (n : Nat) : law01_IntegerGcds_S (law01_IntegerGcds n) := by
  intro w0 I0 tb x25093 v25094 r25095 x25096 v25097 r25098 hI r h
  unfold law01_IntegerGcds at h
  refine enter Tryz.func4 rfl (Nat.le_of_ble_eq_true rfl) ?_
  have hp : Hp ⟨w0, I0, []⟩ I0 [] w0 := Hp.start hI
  apply go
  apply go
  refine ev_boxI hp rfl rfl ?_
  intro p25101 I25102 w25100 hp hs a25103
  replace r25098 := r25098.step hs
  replace r25095 := r25095.step hs
  replace tb := tb.step hs
  refine ev_boxI hp rfl rfl ?_
  intro p25106 I25107 w25105 hp hs a25108
  replace a25103 := a25103.step hs
  replace r25095 := r25095.step hs
  replace r25098 := r25098.step hs
  replace tb := tb.step hs
  apply go
  obtain ⟨y25114, q25115, h⟩ := bind_some h
  refine W.cut (γ := Bool) (fun g => [(2, (.pointer (some (p25101)))), (3, (.pointer (some (p25106)))), (26, (.bool (g)))]) (fun g w' => y25114 = (g) ∧ Hp ⟨w0, I0, []⟩ I25107 [] w' ∧ RepS (dI .u32) w' I25107 v25094 x25093.Mag ∧ At w' I25107 p25101 [(.bool x25093.Neg), v25094] ∧ RepS (dI .u32) w' I25107 v25097 x25096.Mag ∧ At w' I25107 p25106 [(.bool x25096.Neg), v25097] ∧ Tb w' I25107 1 .u64 pow10) ?_ ?_
  ·
    apply go
    obtain ⟨x25116, q25117, q25115⟩ := bind_some q25115
    refine ev_call rfl rfl C13 (((law01_awake_ok n) _ _ tb  hp.imm _ q25117).mono ?_)
    rintro _ w25118 ⟨rfl, hc⟩
    have hs := hp.stp hc
    replace hp := hp.ext hc
    replace a25103 := a25103.step hs
    replace r25095 := r25095.step hs
    replace a25108 := a25108.step hs
    replace r25098 := r25098.step hs
    replace tb := tb.step hs
    refine sel_of (fun hc => ?_) (fun hc => ?_)
    ·
      have q25115 := cond_t q25115 hc
      obtain rfl := Option.some.inj q25115
      exact ⟨true, (.c rfl (.c rfl (.c rfl .n))), rfl, hp, r25095, a25103, r25098, a25108, tb⟩
    ·
      have q25115 := cond_f q25115 hc
      refine ev0 (rn_field rfl rfl FO24_1) ?_
      refine ev (rn_load rfl rfl (run_loadVar1 T22 (a25103.2 1 _ rfl))) ?_
      refine ev0 (rn_len rfl rfl Tryz.underlying22 r25095) ?_
      refine sel_of (fun hc => ?_) (fun hc => ?_)
      ·
        have q25115 := cond_t q25115 hc
        obtain rfl := Option.some.inj q25115
        exact ⟨true, (.c rfl (.c rfl (.c rfl .n))), rfl, hp, r25095, a25103, r25098, a25108, tb⟩
      ·
        have q25115 := cond_f q25115 hc
        refine ev0 (rn_field rfl rfl FO24_1) ?_
        refine ev (rn_load rfl rfl (run_loadVar1 T22 (a25108.2 1 _ rfl))) ?_
        refine ev0 (rn_len rfl rfl Tryz.underlying22 r25098) ?_
        obtain rfl := Option.some.inj q25115
        exact ⟨(decide ((x25096.Mag.length : Int) > 6)), (.c rfl (.c rfl (.c rfl .n))), rfl, hp, r25095, a25103, r25098, a25108, tb⟩
  ·
    rintro x25112 w25113 ⟨hy, hp, r25095, a25103, r25098, a25108, tb⟩
    replace hy := hy.symm
    subst hy
    apply go
    refine sel_of (fun hc => ?_) (fun hc => ?_)
    ·
      have h := cond_t h hc
      apply go
      apply go
      obtain ⟨x25119, q25120, h⟩ := bind_some h
      refine ev_call rfl rfl C13 (((law01_awake_ok n) _ _ tb  hp.imm _ q25120).mono ?_)
      rintro _ w25121 ⟨rfl, hc⟩
      have hs := hp.stp hc
      replace hp := hp.ext hc
      replace tb := tb.step hs
      apply go
      obtain rfl := Option.some.inj h
      exact ⟨rfl, hp.ch⟩
    ·
      have h := cond_f h hc
      apply go
      apply go
      apply go
      refine ev (rn_load rfl rfl (run_loadVarA T24 rfl a25103)) ?_
      refine ev (rn_load rfl rfl (run_loadVarA T24 rfl a25108)) ?_
      obtain ⟨x25122, q25123, h⟩ := bind_some h
      refine ev_call rfl rfl C20 (((integer_Gcd_ok n) _ _  (Int_2.mk x25093.Neg x25093.Mag) v25094 r25095 (Int_2.mk x25096.Neg x25096.Mag) v25097 r25098 hp.imm _ q25123).mono ?_)
      rintro _ w25124 ⟨I25125, v25126, hv, hq, r25127⟩
      replace hv := hv.symm
      subst hv
      have hs := hq.st
      have hp := hp.join0 hq
      replace a25103 := a25103.step hs
      replace r25095 := r25095.step hs
      replace a25108 := a25108.step hs
      replace r25098 := r25098.step hs
      replace tb := tb.step hs
      refine ev_alloc hp rfl T24 ?_
      intro g25128 w25129 hp hs
      replace a25103 := a25103.step hs
      replace r25095 := r25095.step hs
      replace a25108 := a25108.step hs
      replace r25098 := r25098.step hs
      replace r25127 := r25127.step hs
      replace tb := tb.step hs
      refine ev_storeA hp (i := 0) (off := 0) (vs := [(.bool x25122.Neg), v25126]) rfl rfl rfl rfl T24 rfl (Nat.le_of_ble_eq_true rfl) (ones_cons rfl (ones_cons r25127.one ones_nil)) ?_
      intro w25130 hp hs
      replace a25103 := a25103.step hs
      replace r25095 := r25095.step hs
      replace a25108 := a25108.step hs
      replace r25098 := r25098.step hs
      replace r25127 := r25127.step hs
      replace tb := tb.step hs
      apply go
      obtain ⟨y25170, q25171, h⟩ := bind_some h
      refine W.cut (γ := (Bool × (Nat → Prop))) (fun g => [(2, (.pointer (some (p25101)))), (3, (.pointer (some (p25106)))), (5, (.pointer (some ⟨g25128, 0, none⟩))), (44, (.bool (g.1)))]) (fun g w' => y25170 = (g.1) ∧ Hp ⟨w0, I0, []⟩ (g.2) [some (g25128, [(.bool x25122.Neg), v25126], 24)] w' ∧ RepS (dI .u32) w' (g.2) v25094 x25093.Mag ∧ At w' (g.2) p25101 [(.bool x25093.Neg), v25094] ∧ RepS (dI .u32) w' (g.2) v25097 x25096.Mag ∧ At w' (g.2) p25106 [(.bool x25096.Neg), v25097] ∧ RepS (dI .u32) w' (g.2) v25126 x25122.Mag ∧ Tb w' (g.2) 1 .u64 pow10) ?_ ?_
      ·
        have hs := hp.stp (Ch.drew [] w25130)
        have hp := hp.drew
        replace a25103 := a25103.step hs
        replace r25095 := r25095.step hs
        replace a25108 := a25108.step hs
        replace r25098 := r25098.step hs
        replace r25127 := r25127.step hs
        replace tb := tb.step hs
        refine W.heldT [(0, true), (1, true), (2, true), (3, false), (4, false), (5, true), (6, true), (7, true), (8, true), (9, true), (10, false), (11, false), (12, true), (13, true)] (fun x => Stp I25125 w25130.drew I25125 x ∧ OwnK [(g25128, [(.bool x25122.Neg), v25126], 24)] x) MX (by kernel_rfl) ⟨Stp.refl _ _, (OwnK.cons (hp.own 0 _ _ _ rfl).1 OwnK.nil)⟩ ?_
        have hz := Stp.refl I25125 w25130.drew
        intro ops hops
        have e0 : nthO ops 0 = some _ := (hops 0).trans rfl
        have e1 : nthO ops 1 = some _ := (hops 1).trans rfl
        have e2 : nthO ops 2 = some _ := (hops 2).trans rfl
        have e3 : nthO ops 3 = some _ := (hops 3).trans rfl
        have e4 : nthO ops 4 = some _ := (hops 4).trans rfl
        have e5 : nthO ops 5 = some _ := (hops 5).trans rfl
        have e6 : nthO ops 6 = some _ := (hops 6).trans rfl
        have e7 : nthO ops 7 = some _ := (hops 7).trans rfl
        have e8 : nthO ops 8 = some _ := (hops 8).trans rfl
        have e9 : nthO ops 9 = some _ := (hops 9).trans rfl
        have e10 : nthO ops 10 = some _ := (hops 10).trans rfl
        have e11 : nthO ops 11 = some _ := (hops 11).trans rfl
        have e12 : nthO ops 12 = some _ := (hops 12).trans rfl
        have e13 : nthO ops 13 = some _ := (hops 13).trans rfl
        clear hops
        refine vch_q e0 rfl ?_
        refine evh (fun w' hw => rn_load rfl rfl (run_loadVarA T24 rfl (hw.2.at_ (i := 0) rfl))) ?_
        refine vch_q e1 rfl ?_
        refine evh (fun w' hw => rn_load rfl rfl (run_loadVarA T24 rfl (a25103.step hw.1))) ?_
        refine vch_q e2 rfl ?_
        refine evh (fun w' hw => rn_load rfl rfl (run_loadVarA T24 rfl (a25108.step hw.1))) ?_
        refine vch_l e3 rfl ?_
        obtain ⟨x25190, q25191, q25171⟩ := bind_some q25171
        refine ev_call rfl rfl C22 (((ref01_Gcd_ok n) _ _  (Int_2.mk x25093.Neg x25093.Mag) v25094 r25095 (Int_2.mk x25096.Neg x25096.Mag) v25097 r25098 hp.imm _ q25191).mono ?_)
        rintro _ w25192 ⟨I25193, v25194, hv, hq, r25195⟩
        replace hv := hv.symm
        subst hv
        have hs := hq.st
        have hp := hp.join0 hq
        replace hz := hz.trans hs
        replace a25103 := a25103.step hs
        replace r25095 := r25095.step hs
        replace a25108 := a25108.step hs
        replace r25098 := r25098.step hs
        replace r25127 := r25127.step hs
        replace tb := tb.step hs
        refine ⟨fun x => Stp I25193 w25192 I25193 x ∧ OwnK [(g25128, [(.bool x25122.Neg), v25126], 24)] x, ⟨Stp.refl _ _, (OwnK.cons (hp.own 0 _ _ _ rfl).1 OwnK.nil)⟩, fun x hx => ⟨hz.held hx.1, hx.2⟩, ?_⟩
        have hz := Stp.refl I25193 w25192
        refine vch_l e4 rfl ?_
        obtain ⟨x25196, q25197, q25171⟩ := bind_some q25171
        refine ev_call rfl rfl C21 (((ref01_Same_ok n) _ _  (Int_2.mk x25122.Neg x25122.Mag) v25126 r25127 x25190 v25194 r25195 hp.imm _ q25197).mono ?_)
        rintro _ w25198 ⟨rfl, hc⟩
        have hs := hp.stp hc
        replace hp := hp.ext hc
        replace hz := hz.trans hs
        replace a25103 := a25103.step hs
        replace r25095 := r25095.step hs
        replace a25108 := a25108.step hs
        replace r25098 := r25098.step hs
        replace r25127 := r25127.step hs
        replace tb := tb.step hs
        refine ⟨fun x => Stp I25193 w25198 I25193 x ∧ OwnK [(g25128, [(.bool x25122.Neg), v25126], 24)] x, ⟨Stp.refl _ _, (OwnK.cons (hp.own 0 _ _ _ rfl).1 OwnK.nil)⟩, fun x hx => ⟨hz.held hx.1, hx.2⟩, ?_⟩
        have hz := Stp.refl I25193 w25198
        refine vch_q e5 rfl ?_
        refine vch_q e6 rfl ?_
        rcases Bool.eq_false_or_eq_true (!x25196) with hc | hc
        ·
          have q25171 := cond_t q25171 hc
          refine vch_qf e7 rfl e6 rfl rfl hc ?_
          refine vch_qf e8 rfl e6 rfl rfl rfl ?_
          refine vch_qf e9 rfl e6 rfl rfl rfl ?_
          refine vch_lf e10 rfl e6 rfl rfl rfl ?_
          refine ⟨fun x => Stp I25193 w25198 I25193 x ∧ OwnK [(g25128, [(.bool x25122.Neg), v25126], 24)] x, ⟨Stp.refl _ _, (OwnK.cons (hp.own 0 _ _ _ rfl).1 OwnK.nil)⟩, fun x hx => ⟨hz.held hx.1, hx.2⟩, ?_⟩
          have hz := Stp.refl I25193 w25198
          refine vch_lf e11 rfl e6 rfl rfl rfl ?_
          refine ⟨fun x => Stp I25193 w25198 I25193 x ∧ OwnK [(g25128, [(.bool x25122.Neg), v25126], 24)] x, ⟨Stp.refl _ _, (OwnK.cons (hp.own 0 _ _ _ rfl).1 OwnK.nil)⟩, fun x hx => ⟨hz.held hx.1, hx.2⟩, ?_⟩
          have hz := Stp.refl I25193 w25198
          refine vch_qf e12 rfl e6 rfl rfl rfl ?_
          refine vch_q e13 rfl ?_
          refine vch_end ?_
          obtain rfl := Option.some.inj q25171
          exact ⟨(true, I25193), (.c rfl (.c rfl (.c rfl (.c rfl .n)))), rfl, hp, r25095, a25103, r25098, a25108, r25127, tb⟩
        ·
          have q25171 := cond_f q25171 hc
          refine vch_qt e7 rfl e6 rfl rfl hc ?_
          refine evh (fun w' hw => rn_load rfl rfl (run_loadVarA T24 rfl (hw.2.at_ (i := 0) rfl))) ?_
          refine vch_qt e8 rfl e6 rfl rfl rfl ?_
          refine evh (fun w' hw => rn_load rfl rfl (run_loadVarA T24 rfl (a25108.step hw.1))) ?_
          refine vch_qt e9 rfl e6 rfl rfl rfl ?_
          refine evh (fun w' hw => rn_load rfl rfl (run_loadVarA T24 rfl (a25103.step hw.1))) ?_
          refine vch_lt e10 rfl e6 rfl rfl rfl ?_
          obtain ⟨x25199, q25200, q25171⟩ := bind_some q25171
          refine ev_call rfl rfl C20 (((integer_Gcd_ok n) _ _  (Int_2.mk x25096.Neg x25096.Mag) v25097 r25098 (Int_2.mk x25093.Neg x25093.Mag) v25094 r25095 hp.imm _ q25200).mono ?_)
          rintro _ w25201 ⟨I25202, v25203, hv, hq, r25204⟩
          replace hv := hv.symm
          subst hv
          have hs := hq.st
          have hp := hp.join0 hq
          replace hz := hz.trans hs
          replace a25103 := a25103.step hs
          replace r25095 := r25095.step hs
          replace a25108 := a25108.step hs
          replace r25098 := r25098.step hs
          replace r25127 := r25127.step hs
          replace tb := tb.step hs
          refine ⟨fun x => Stp I25202 w25201 I25202 x ∧ OwnK [(g25128, [(.bool x25122.Neg), v25126], 24)] x, ⟨Stp.refl _ _, (OwnK.cons (hp.own 0 _ _ _ rfl).1 OwnK.nil)⟩, fun x hx => ⟨hz.held hx.1, hx.2⟩, ?_⟩
          have hz := Stp.refl I25202 w25201
          refine vch_lt e11 rfl e6 rfl rfl rfl ?_
          obtain ⟨x25205, q25206, q25171⟩ := bind_some q25171
          refine ev_call rfl rfl C21 (((ref01_Same_ok n) _ _  (Int_2.mk x25122.Neg x25122.Mag) v25126 r25127 x25199 v25203 r25204 hp.imm _ q25206).mono ?_)
          rintro _ w25207 ⟨rfl, hc⟩
          have hs := hp.stp hc
          replace hp := hp.ext hc
          replace hz := hz.trans hs
          replace a25103 := a25103.step hs
          replace r25095 := r25095.step hs
          replace a25108 := a25108.step hs
          replace r25098 := r25098.step hs
          replace r25127 := r25127.step hs
          replace tb := tb.step hs
          refine ⟨fun x => Stp I25202 w25207 I25202 x ∧ OwnK [(g25128, [(.bool x25122.Neg), v25126], 24)] x, ⟨Stp.refl _ _, (OwnK.cons (hp.own 0 _ _ _ rfl).1 OwnK.nil)⟩, fun x hx => ⟨hz.held hx.1, hx.2⟩, ?_⟩
          have hz := Stp.refl I25202 w25207
          refine vch_qt e12 rfl e6 rfl rfl rfl ?_
          refine vch_q e13 rfl ?_
          refine vch_end ?_
          obtain rfl := Option.some.inj q25171
          exact ⟨((!x25205), I25202), (.c rfl (.c rfl (.c rfl (.c rfl .n)))), rfl, hp, r25095, a25103, r25098, a25108, r25127, tb⟩
      ·
        rintro ⟨x25167, I25168⟩ w25169 ⟨hy, hp, r25095, a25103, r25098, a25108, r25127, tb⟩
        replace hy := hy.symm
        subst hy
        apply go
        refine sel_of (fun hc => ?_) (fun hc => ?_)
        ·
          have h := cond_t h hc
          apply go
          apply go
          apply go
          obtain rfl := Option.some.inj h
          exact ⟨rfl, hp.ch⟩
        ·
          have h := cond_f h hc
          apply go
          apply go
          apply go
          apply go
          refine ev (rn_load rfl rfl (run_loadVarA T24 rfl (hp.at_ (i := 0) rfl))) ?_
          obtain ⟨x25208, q25209, h⟩ := bind_some h
          refine ev_call rfl rfl C23 (((integer_Sign_ok n) _ _  (Int_2.mk x25122.Neg x25122.Mag) v25126 r25127 hp.imm _ q25209).mono ?_)
          rintro _ w25210 ⟨rfl, hc⟩
          have hs := hp.stp hc
          replace hp := hp.ext hc
          replace a25103 := a25103.step hs
          replace r25095 := r25095.step hs
          replace a25108 := a25108.step hs
          replace r25098 := r25098.step hs
          replace r25127 := r25127.step hs
          replace tb := tb.step hs
          apply go
          refine sel_of (fun hc => ?_) (fun hc => ?_)
          ·
            have h := cond_t h hc
            obtain ⟨y25219, q25220, h⟩ := bind_some h
            refine W.cut (γ := Bool) (fun g => [(4, (.bool (g)))]) (fun g w' => y25219 = (g) ∧ Hp ⟨w0, I0, []⟩ I25168 [] w' ∧ Tb w' I25168 1 .u64 pow10) ?_ ?_
            ·
              apply go
              refine ev (rn_load rfl rfl (run_loadVarA T24 rfl a25103)) ?_
              obtain ⟨x25221, q25222, q25220⟩ := bind_some q25220
              refine ev_call rfl rfl C23 (((integer_Sign_ok n) _ _  (Int_2.mk x25093.Neg x25093.Mag) v25094 r25095 hp.imm _ q25222).mono ?_)
              rintro _ w25223 ⟨rfl, hc⟩
              have hs := hp.stp hc
              replace hp := hp.ext hc
              replace a25108 := a25108.step hs
              replace r25098 := r25098.step hs
              replace r25127 := r25127.step hs
              replace tb := tb.step hs
              refine sel_of (fun hc => ?_) (fun hc => ?_)
              ·
                have q25220 := cond_t q25220 hc
                refine ev (rn_load rfl rfl (run_loadVarA T24 rfl a25108)) ?_
                obtain ⟨x25224, q25225, q25220⟩ := bind_some q25220
                refine ev_call rfl rfl C23 (((integer_Sign_ok n) _ _  (Int_2.mk x25096.Neg x25096.Mag) v25097 r25098 hp.imm _ q25225).mono ?_)
                rintro _ w25226 ⟨rfl, hc⟩
                have hs := hp.stp hc
                replace hp := hp.ext hc
                replace r25127 := r25127.step hs
                replace tb := tb.step hs
                obtain rfl := Option.some.inj q25220
                have hp := hp.sel [] (by decide)
                exact ⟨(x25224 == 0), (.c rfl .n), rfl, hp, tb⟩
              ·
                have q25220 := cond_f q25220 hc
                obtain rfl := Option.some.inj q25220
                have hp := hp.sel [] (by decide)
                exact ⟨false, (.c rfl .n), rfl, hp, tb⟩
            ·
              rintro x25217 w25218 ⟨hy, hp, tb⟩
              replace hy := hy.symm
              subst hy
              apply go
              obtain rfl := Option.some.inj h
              exact ⟨rfl, hp.ch⟩
          ·
            have h := cond_f h hc
            apply go
            apply go
            apply go
            refine ev (rn_load rfl rfl (run_loadVarA T24 rfl a25103)) ?_
            refine ev (rn_load rfl rfl (run_loadVarA T24 rfl (hp.at_ (i := 0) rfl))) ?_
            obtain ⟨⟨x25227, x25228, x25229⟩, q25230, h⟩ := bind_some h
            refine ev_call rfl rfl C24 (((integer_DivMod_ok n) _ _  (Int_2.mk x25093.Neg x25093.Mag) v25094 r25095 (Int_2.mk x25122.Neg x25122.Mag) v25126 r25127 hp.imm _ q25230).mono ?_)
            rintro _ w25231 ⟨I25232, v25233, v25235, hv, hq, r25234, r25236⟩
            replace hv := hv.symm
            subst hv
            have hs := hq.st
            have hp := hp.join0 hq
            replace a25108 := a25108.step hs
            replace r25098 := r25098.step hs
            replace r25127 := r25127.step hs
            replace tb := tb.step hs
            refine ev_alloc hp rfl T24 ?_
            intro g25237 w25238 hp hs
            replace a25108 := a25108.step hs
            replace r25098 := r25098.step hs
            replace r25234 := r25234.step hs
            replace r25236 := r25236.step hs
            replace r25127 := r25127.step hs
            replace tb := tb.step hs
            refine ev_alloc hp rfl T24 ?_
            intro g25239 w25240 hp hs
            replace a25108 := a25108.step hs
            replace r25098 := r25098.step hs
            replace r25234 := r25234.step hs
            replace r25236 := r25236.step hs
            replace r25127 := r25127.step hs
            replace tb := tb.step hs
            refine ev_storeA hp (i := 1) (off := 0) (vs := [(.bool x25227.Neg), v25233]) rfl rfl rfl rfl T24 rfl (Nat.le_of_ble_eq_true rfl) (ones_cons rfl (ones_cons r25234.one ones_nil)) ?_
            intro w25241 hp hs
            replace a25108 := a25108.step hs
            replace r25098 := r25098.step hs
            replace r25236 := r25236.step hs
            replace r25234 := r25234.step hs
            replace r25127 := r25127.step hs
            replace tb := tb.step hs
            refine ev_storeA hp (i := 0) (off := 0) (vs := [(.bool x25228.Neg), v25235]) rfl rfl rfl rfl T24 rfl (Nat.le_of_ble_eq_true rfl) (ones_cons rfl (ones_cons r25236.one ones_nil)) ?_
            intro w25242 hp hs
            replace a25108 := a25108.step hs
            replace r25098 := r25098.step hs
            replace r25236 := r25236.step hs
            replace r25234 := r25234.step hs
            replace r25127 := r25127.step hs
            replace tb := tb.step hs
            apply go
            apply go
            refine ev (rn_load rfl rfl (run_loadVarA T24 rfl a25108)) ?_
            refine ev (rn_load rfl rfl (run_loadVarA T24 rfl (hp.at_ (i := 2) rfl))) ?_
            obtain ⟨⟨x25243, x25244, x25245⟩, q25246, h⟩ := bind_some h
            refine ev_call rfl rfl C24 (((integer_DivMod_ok n) _ _  (Int_2.mk x25096.Neg x25096.Mag) v25097 r25098 (Int_2.mk x25122.Neg x25122.Mag) v25126 r25127 hp.imm _ q25246).mono ?_)
            rintro _ w25247 ⟨I25248, v25249, v25251, hv, hq, r25250, r25252⟩
            replace hv := hv.symm
            subst hv
            have hs := hq.st
            have hp := hp.join0 hq
            replace r25236 := r25236.step hs
            replace r25234 := r25234.step hs
            replace r25127 := r25127.step hs
            replace tb := tb.step hs
            refine ev_alloc hp rfl T24 ?_
            intro g25253 w25254 hp hs
            replace r25250 := r25250.step hs
            replace r25252 := r25252.step hs
            replace r25236 := r25236.step hs
            replace r25234 := r25234.step hs
            replace r25127 := r25127.step hs
            replace tb := tb.step hs
            refine ev_alloc hp rfl T24 ?_
            intro g25255 w25256 hp hs
            replace r25250 := r25250.step hs
            replace r25252 := r25252.step hs
            replace r25236 := r25236.step hs
            replace r25234 := r25234.step hs
            replace r25127 := r25127.step hs
            replace tb := tb.step hs
            refine ev_storeA hp (i := 1) (off := 0) (vs := [(.bool x25243.Neg), v25249]) rfl rfl rfl rfl T24 rfl (Nat.le_of_ble_eq_true rfl) (ones_cons rfl (ones_cons r25250.one ones_nil)) ?_
            intro w25257 hp hs
            replace r25252 := r25252.step hs
            replace r25250 := r25250.step hs
            replace r25236 := r25236.step hs
            replace r25234 := r25234.step hs
            replace r25127 := r25127.step hs
            replace tb := tb.step hs
            refine ev_storeA hp (i := 0) (off := 0) (vs := [(.bool x25244.Neg), v25251]) rfl rfl rfl rfl T24 rfl (Nat.le_of_ble_eq_true rfl) (ones_cons rfl (ones_cons r25252.one ones_nil)) ?_
            intro w25258 hp hs
            replace r25252 := r25252.step hs
            replace r25250 := r25250.step hs
            replace r25236 := r25236.step hs
            replace r25234 := r25234.step hs
            replace r25127 := r25127.step hs
            replace tb := tb.step hs
            apply go
            apply go
            obtain ⟨x25259, q25260, h⟩ := bind_some h
            refine ev_call rfl rfl C18 (((integer_Of_ok n) _ _  1 hp.imm _ q25260).mono ?_)
            rintro _ w25261 ⟨I25262, v25263, hv, hq, r25264⟩
            replace hv := hv.symm
            subst hv
            have hs := hq.st
            have hp := hp.join0 hq
            replace r25252 := r25252.step hs
            replace r25250 := r25250.step hs
            replace r25236 := r25236.step hs
            replace r25234 := r25234.step hs
            replace r25127 := r25127.step hs
            replace tb := tb.step hs
            refine ev_alloc hp rfl T24 ?_
            intro g25265 w25266 hp hs
            replace r25264 := r25264.step hs
            replace r25252 := r25252.step hs
            replace r25250 := r25250.step hs
            replace r25236 := r25236.step hs
            replace r25234 := r25234.step hs
            replace r25127 := r25127.step hs
            replace tb := tb.step hs
            refine ev_storeA hp (i := 0) (off := 0) (vs := [(.bool x25259.Neg), v25263]) rfl rfl rfl rfl T24 rfl (Nat.le_of_ble_eq_true rfl) (ones_cons rfl (ones_cons r25264.one ones_nil)) ?_
            intro w25267 hp hs
            replace r25264 := r25264.step hs
            replace r25252 := r25252.step hs
            replace r25250 := r25250.step hs
            replace r25236 := r25236.step hs
            replace r25234 := r25234.step hs
            replace r25127 := r25127.step hs
            replace tb := tb.step hs
            obtain ⟨y25307, q25308, h⟩ := bind_some h
            refine W.cut (γ := (Bool × (Nat → Prop))) (fun g => [(4, (.bool (g.1)))]) (fun g w' => y25307 = (g.1) ∧ Hp ⟨w0, I0, []⟩ (g.2) [] w' ∧ Tb w' (g.2) 1 .u64 pow10) ?_ ?_
            ·
              have hs := hp.stp (Ch.drew [] w25267)
              have hp := hp.drew
              replace r25264 := r25264.step hs
              replace r25252 := r25252.step hs
              replace r25250 := r25250.step hs
              replace r25236 := r25236.step hs
              replace r25234 := r25234.step hs
              replace r25127 := r25127.step hs
              replace tb := tb.step hs
              refine W.heldT [(0, true), (1, false), (2, true), (3, true), (4, true), (5, false), (6, true), (7, true), (8, true), (9, true), (10, false), (11, true), (12, true), (13, true), (14, true), (15, true), (17, true), (16, false), (18, false), (19, true), (20, true)] (fun x => Stp I25262 w25267.drew I25262 x ∧ OwnK [(g25128, [(.bool x25122.Neg), v25126], 24), (g25239, [(.bool x25228.Neg), v25235], 24), (g25255, [(.bool x25244.Neg), v25251], 24), (g25237, [(.bool x25227.Neg), v25233], 24), (g25253, [(.bool x25243.Neg), v25249], 24), (g25265, [(.bool x25259.Neg), v25263], 24)] x) MX (by kernel_rfl) ⟨Stp.refl _ _, (OwnK.cons (hp.own 5 _ _ _ rfl).1 (OwnK.cons (hp.own 3 _ _ _ rfl).1 (OwnK.cons (hp.own 1 _ _ _ rfl).1 (OwnK.cons (hp.own 4 _ _ _ rfl).1 (OwnK.cons (hp.own 2 _ _ _ rfl).1 (OwnK.cons (hp.own 0 _ _ _ rfl).1 OwnK.nil))))))⟩ ?_
              have hz := Stp.refl I25262 w25267.drew
              intro ops hops
              have e0 : nthO ops 0 = some _ := (hops 0).trans rfl
              have e1 : nthO ops 1 = some _ := (hops 1).trans rfl
              have e2 : nthO ops 2 = some _ := (hops 2).trans rfl
              have e3 : nthO ops 3 = some _ := (hops 3).trans rfl
              have e4 : nthO ops 4 = some _ := (hops 4).trans rfl
              have e5 : nthO ops 5 = some _ := (hops 5).trans rfl
              have e6 : nthO ops 6 = some _ := (hops 6).trans rfl
              have e7 : nthO ops 7 = some _ := (hops 7).trans rfl
              have e8 : nthO ops 8 = some _ := (hops 8).trans rfl
              have e9 : nthO ops 9 = some _ := (hops 9).trans rfl
              have e10 : nthO ops 10 = some _ := (hops 10).trans rfl
              have e11 : nthO ops 11 = some _ := (hops 11).trans rfl
              have e12 : nthO ops 12 = some _ := (hops 12).trans rfl
              have e13 : nthO ops 13 = some _ := (hops 13).trans rfl
              have e14 : nthO ops 14 = some _ := (hops 14).trans rfl
              have e15 : nthO ops 15 = some _ := (hops 15).trans rfl
              have e16 : nthO ops 16 = some _ := (hops 16).trans rfl
              have e17 : nthO ops 17 = some _ := (hops 17).trans rfl
              have e18 : nthO ops 18 = some _ := (hops 18).trans rfl
              have e19 : nthO ops 19 = some _ := (hops 19).trans rfl
              have e20 : nthO ops 20 = some _ := (hops 20).trans rfl
              clear hops
              refine vch_q e0 rfl ?_
              refine evh (fun w' hw => rn_load rfl rfl (run_loadVarA T24 rfl (hw.2.at_ (i := 0) rfl))) ?_
              refine vch_l e1 rfl ?_
              obtain ⟨x25327, q25328, q25308⟩ := bind_some q25308
              refine ev_call rfl rfl C23 (((integer_Sign_ok n) _ _  (Int_2.mk x25122.Neg x25122.Mag) v25126 r25127 hp.imm _ q25328).mono ?_)
              rintro _ w25329 ⟨rfl, hc⟩
              have hs := hp.stp hc
              replace hp := hp.ext hc
              replace hz := hz.trans hs
              replace r25264 := r25264.step hs
              replace r25252 := r25252.step hs
              replace r25250 := r25250.step hs
              replace r25236 := r25236.step hs
              replace r25234 := r25234.step hs
              replace r25127 := r25127.step hs
              replace tb := tb.step hs
              refine ⟨fun x => Stp I25262 w25329 I25262 x ∧ OwnK [(g25128, [(.bool x25122.Neg), v25126], 24), (g25239, [(.bool x25228.Neg), v25235], 24), (g25255, [(.bool x25244.Neg), v25251], 24), (g25237, [(.bool x25227.Neg), v25233], 24), (g25253, [(.bool x25243.Neg), v25249], 24), (g25265, [(.bool x25259.Neg), v25263], 24)] x, ⟨Stp.refl _ _, (OwnK.cons (hp.own 5 _ _ _ rfl).1 (OwnK.cons (hp.own 3 _ _ _ rfl).1 (OwnK.cons (hp.own 1 _ _ _ rfl).1 (OwnK.cons (hp.own 4 _ _ _ rfl).1 (OwnK.cons (hp.own 2 _ _ _ rfl).1 (OwnK.cons (hp.own 0 _ _ _ rfl).1 OwnK.nil))))))⟩, fun x hx => ⟨hz.held hx.1, hx.2⟩, ?_⟩
              have hz := Stp.refl I25262 w25329
              refine vch_q e2 rfl ?_
              refine vch_q e3 rfl ?_
              rcases Bool.eq_false_or_eq_true (decide (x25327 > 0)) with hc | hc
              ·
                have q25308 := cond_t q25308 hc
                refine vch_qt e4 rfl e3 rfl rfl hc ?_
                refine evh (fun w' hw => rn_load rfl rfl (run_loadVarA T24 rfl (hw.2.at_ (i := 1) rfl))) ?_
                refine vch_lt e5 rfl e3 rfl rfl rfl ?_
                obtain ⟨x25330, q25331, q25308⟩ := bind_some q25308
                refine ev_call rfl rfl C23 (((integer_Sign_ok n) _ _  (Int_2.mk x25228.Neg x25228.Mag) v25235 r25236 hp.imm _ q25331).mono ?_)
                rintro _ w25332 ⟨rfl, hc⟩
                have hs := hp.stp hc
                replace hp := hp.ext hc
                replace hz := hz.trans hs
                replace r25264 := r25264.step hs
                replace r25252 := r25252.step hs
                replace r25250 := r25250.step hs
                replace r25236 := r25236.step hs
                replace r25234 := r25234.step hs
                replace r25127 := r25127.step hs
                replace tb := tb.step hs
                refine ⟨fun x => Stp I25262 w25332 I25262 x ∧ OwnK [(g25128, [(.bool x25122.Neg), v25126], 24), (g25239, [(.bool x25228.Neg), v25235], 24), (g25255, [(.bool x25244.Neg), v25251], 24), (g25237, [(.bool x25227.Neg), v25233], 24), (g25253, [(.bool x25243.Neg), v25249], 24), (g25265, [(.bool x25259.Neg), v25263], 24)] x, ⟨Stp.refl _ _, (OwnK.cons (hp.own 5 _ _ _ rfl).1 (OwnK.cons (hp.own 3 _ _ _ rfl).1 (OwnK.cons (hp.own 1 _ _ _ rfl).1 (OwnK.cons (hp.own 4 _ _ _ rfl).1 (OwnK.cons (hp.own 2 _ _ _ rfl).1 (OwnK.cons (hp.own 0 _ _ _ rfl).1 OwnK.nil))))))⟩, fun x hx => ⟨hz.held hx.1, hx.2⟩, ?_⟩
                have hz := Stp.refl I25262 w25332
                refine vch_qt e6 rfl e3 rfl rfl rfl ?_
                refine vch_q e7 rfl ?_
                refine vch_q e8 rfl ?_
                rcases Bool.eq_false_or_eq_true (x25330 == 0) with hc | hc
                ·
                  have q25308 := cond_t q25308 hc
                  refine vch_qt e9 rfl e8 rfl rfl hc ?_
                  refine evh (fun w' hw => rn_load rfl rfl (run_loadVarA T24 rfl (hw.2.at_ (i := 2) rfl))) ?_
                  refine vch_lt e10 rfl e8 rfl rfl rfl ?_
                  obtain ⟨x25333, q25334, q25308⟩ := bind_some q25308
                  refine ev_call rfl rfl C23 (((integer_Sign_ok n) _ _  (Int_2.mk x25244.Neg x25244.Mag) v25251 r25252 hp.imm _ q25334).mono ?_)
                  rintro _ w25335 ⟨rfl, hc⟩
                  have hs := hp.stp hc
                  replace hp := hp.ext hc
                  replace hz := hz.trans hs
                  replace r25264 := r25264.step hs
                  replace r25252 := r25252.step hs
                  replace r25250 := r25250.step hs
                  replace r25236 := r25236.step hs
                  replace r25234 := r25234.step hs
                  replace r25127 := r25127.step hs
                  replace tb := tb.step hs
                  refine ⟨fun x => Stp I25262 w25335 I25262 x ∧ OwnK [(g25128, [(.bool x25122.Neg), v25126], 24), (g25239, [(.bool x25228.Neg), v25235], 24), (g25255, [(.bool x25244.Neg), v25251], 24), (g25237, [(.bool x25227.Neg), v25233], 24), (g25253, [(.bool x25243.Neg), v25249], 24), (g25265, [(.bool x25259.Neg), v25263], 24)] x, ⟨Stp.refl _ _, (OwnK.cons (hp.own 5 _ _ _ rfl).1 (OwnK.cons (hp.own 3 _ _ _ rfl).1 (OwnK.cons (hp.own 1 _ _ _ rfl).1 (OwnK.cons (hp.own 4 _ _ _ rfl).1 (OwnK.cons (hp.own 2 _ _ _ rfl).1 (OwnK.cons (hp.own 0 _ _ _ rfl).1 OwnK.nil))))))⟩, fun x hx => ⟨hz.held hx.1, hx.2⟩, ?_⟩
                  have hz := Stp.refl I25262 w25335
                  refine vch_qt e11 rfl e8 rfl rfl rfl ?_
                  refine vch_q e12 rfl ?_
                  refine vch_q e13 rfl ?_
                  rcases Bool.eq_false_or_eq_true (x25333 == 0) with hc | hc
                  ·
                    have q25308 := cond_t q25308 hc
                    refine vch_qt e14 rfl e13 rfl rfl hc ?_
                    refine evh (fun w' hw => rn_load rfl rfl (run_loadVarA T24 rfl (hw.2.at_ (i := 3) rfl))) ?_
                    refine vch_qt e15 rfl e13 rfl rfl rfl ?_
                    refine evh (fun w' hw => rn_load rfl rfl (run_loadVarA T24 rfl (hw.2.at_ (i := 4) rfl))) ?_
                    refine vch_qt e17 rfl e13 rfl rfl rfl ?_
                    refine evh (fun w' hw => rn_load rfl rfl (run_loadVarA T24 rfl (hw.2.at_ (i := 5) rfl))) ?_
                    refine vch_lt e16 rfl e13 rfl rfl rfl ?_
                    obtain ⟨x25336, q25337, q25308⟩ := bind_some q25308
                    refine ev_call rfl rfl C20 (((integer_Gcd_ok n) _ _  (Int_2.mk x25227.Neg x25227.Mag) v25233 r25234 (Int_2.mk x25243.Neg x25243.Mag) v25249 r25250 hp.imm _ q25337).mono ?_)
                    rintro _ w25338 ⟨I25339, v25340, hv, hq, r25341⟩
                    replace hv := hv.symm
                    subst hv
                    have hs := hq.st
                    have hp := hp.join0 hq
                    replace hz := hz.trans hs
                    replace r25264 := r25264.step hs
                    replace r25252 := r25252.step hs
                    replace r25250 := r25250.step hs
                    replace r25236 := r25236.step hs
                    replace r25234 := r25234.step hs
                    replace r25127 := r25127.step hs
                    replace tb := tb.step hs
                    refine ⟨fun x => Stp I25339 w25338 I25339 x ∧ OwnK [(g25128, [(.bool x25122.Neg), v25126], 24), (g25239, [(.bool x25228.Neg), v25235], 24), (g25255, [(.bool x25244.Neg), v25251], 24), (g25237, [(.bool x25227.Neg), v25233], 24), (g25253, [(.bool x25243.Neg), v25249], 24), (g25265, [(.bool x25259.Neg), v25263], 24)] x, ⟨Stp.refl _ _, (OwnK.cons (hp.own 5 _ _ _ rfl).1 (OwnK.cons (hp.own 3 _ _ _ rfl).1 (OwnK.cons (hp.own 1 _ _ _ rfl).1 (OwnK.cons (hp.own 4 _ _ _ rfl).1 (OwnK.cons (hp.own 2 _ _ _ rfl).1 (OwnK.cons (hp.own 0 _ _ _ rfl).1 OwnK.nil))))))⟩, fun x hx => ⟨hz.held hx.1, hx.2⟩, ?_⟩
                    have hz := Stp.refl I25339 w25338
                    refine vch_lt e18 rfl e13 rfl rfl rfl ?_
                    obtain ⟨x25342, q25343, q25308⟩ := bind_some q25308
                    refine ev_call rfl rfl C21 (((ref01_Same_ok n) _ _  x25336 v25340 r25341 (Int_2.mk x25259.Neg x25259.Mag) v25263 r25264 hp.imm _ q25343).mono ?_)
                    rintro _ w25344 ⟨rfl, hc⟩
                    have hs := hp.stp hc
                    replace hp := hp.ext hc
                    replace hz := hz.trans hs
                    replace r25264 := r25264.step hs
                    replace r25252 := r25252.step hs
                    replace r25250 := r25250.step hs
                    replace r25236 := r25236.step hs
                    replace r25234 := r25234.step hs
                    replace r25127 := r25127.step hs
                    replace tb := tb.step hs
                    refine ⟨fun x => Stp I25339 w25344 I25339 x ∧ OwnK [(g25128, [(.bool x25122.Neg), v25126], 24), (g25239, [(.bool x25228.Neg), v25235], 24), (g25255, [(.bool x25244.Neg), v25251], 24), (g25237, [(.bool x25227.Neg), v25233], 24), (g25253, [(.bool x25243.Neg), v25249], 24), (g25265, [(.bool x25259.Neg), v25263], 24)] x, ⟨Stp.refl _ _, (OwnK.cons (hp.own 5 _ _ _ rfl).1 (OwnK.cons (hp.own 3 _ _ _ rfl).1 (OwnK.cons (hp.own 1 _ _ _ rfl).1 (OwnK.cons (hp.own 4 _ _ _ rfl).1 (OwnK.cons (hp.own 2 _ _ _ rfl).1 (OwnK.cons (hp.own 0 _ _ _ rfl).1 OwnK.nil))))))⟩, fun x hx => ⟨hz.held hx.1, hx.2⟩, ?_⟩
                    have hz := Stp.refl I25339 w25344
                    refine vch_q e19 rfl ?_
                    refine vch_q e20 rfl ?_
                    refine vch_end ?_
                    obtain rfl := Option.some.inj q25308
                    have hp := hp.sel [] (by decide)
                    exact ⟨(x25342, I25339), (.c rfl .n), rfl, hp, tb⟩
                  ·
                    have q25308 := cond_f q25308 hc
                    refine vch_qf e14 rfl e13 rfl rfl hc ?_
                    refine vch_qf e15 rfl e13 rfl rfl rfl ?_
                    refine vch_qf e17 rfl e13 rfl rfl rfl ?_
                    refine vch_lf e16 rfl e13 rfl rfl rfl ?_
                    refine ⟨fun x => Stp I25262 w25335 I25262 x ∧ OwnK [(g25128, [(.bool x25122.Neg), v25126], 24), (g25239, [(.bool x25228.Neg), v25235], 24), (g25255, [(.bool x25244.Neg), v25251], 24), (g25237, [(.bool x25227.Neg), v25233], 24), (g25253, [(.bool x25243.Neg), v25249], 24), (g25265, [(.bool x25259.Neg), v25263], 24)] x, ⟨Stp.refl _ _, (OwnK.cons (hp.own 5 _ _ _ rfl).1 (OwnK.cons (hp.own 3 _ _ _ rfl).1 (OwnK.cons (hp.own 1 _ _ _ rfl).1 (OwnK.cons (hp.own 4 _ _ _ rfl).1 (OwnK.cons (hp.own 2 _ _ _ rfl).1 (OwnK.cons (hp.own 0 _ _ _ rfl).1 OwnK.nil))))))⟩, fun x hx => ⟨hz.held hx.1, hx.2⟩, ?_⟩
                    have hz := Stp.refl I25262 w25335
                    refine vch_lf e18 rfl e13 rfl rfl rfl ?_
                    refine ⟨fun x => Stp I25262 w25335 I25262 x ∧ OwnK [(g25128, [(.bool x25122.Neg), v25126], 24), (g25239, [(.bool x25228.Neg), v25235], 24), (g25255, [(.bool x25244.Neg), v25251], 24), (g25237, [(.bool x25227.Neg), v25233], 24), (g25253, [(.bool x25243.Neg), v25249], 24), (g25265, [(.bool x25259.Neg), v25263], 24)] x, ⟨Stp.refl _ _, (OwnK.cons (hp.own 5 _ _ _ rfl).1 (OwnK.cons (hp.own 3 _ _ _ rfl).1 (OwnK.cons (hp.own 1 _ _ _ rfl).1 (OwnK.cons (hp.own 4 _ _ _ rfl).1 (OwnK.cons (hp.own 2 _ _ _ rfl).1 (OwnK.cons (hp.own 0 _ _ _ rfl).1 OwnK.nil))))))⟩, fun x hx => ⟨hz.held hx.1, hx.2⟩, ?_⟩
                    have hz := Stp.refl I25262 w25335
                    refine vch_q e19 rfl ?_
                    refine vch_q e20 rfl ?_
                    refine vch_end ?_
                    obtain rfl := Option.some.inj q25308
                    have hp := hp.sel [] (by decide)
                    exact ⟨(false, I25262), (.c rfl .n), rfl, hp, tb⟩
                ·
                  have q25308 := cond_f q25308 hc
                  refine vch_qf e9 rfl e8 rfl rfl hc ?_
                  refine vch_lf e10 rfl e8 rfl rfl rfl ?_
                  refine ⟨fun x => Stp I25262 w25332 I25262 x ∧ OwnK [(g25128, [(.bool x25122.Neg), v25126], 24), (g25239, [(.bool x25228.Neg), v25235], 24), (g25255, [(.bool x25244.Neg), v25251], 24), (g25237, [(.bool x25227.Neg), v25233], 24), (g25253, [(.bool x25243.Neg), v25249], 24), (g25265, [(.bool x25259.Neg), v25263], 24)] x, ⟨Stp.refl _ _, (OwnK.cons (hp.own 5 _ _ _ rfl).1 (OwnK.cons (hp.own 3 _ _ _ rfl).1 (OwnK.cons (hp.own 1 _ _ _ rfl).1 (OwnK.cons (hp.own 4 _ _ _ rfl).1 (OwnK.cons (hp.own 2 _ _ _ rfl).1 (OwnK.cons (hp.own 0 _ _ _ rfl).1 OwnK.nil))))))⟩, fun x hx => ⟨hz.held hx.1, hx.2⟩, ?_⟩
                  have hz := Stp.refl I25262 w25332
                  refine vch_qf e11 rfl e8 rfl rfl rfl ?_
                  refine vch_q e12 rfl ?_
                  refine vch_q e13 rfl ?_
                  refine vch_qf e14 rfl e13 rfl rfl rfl ?_
                  refine vch_qf e15 rfl e13 rfl rfl rfl ?_
                  refine vch_qf e17 rfl e13 rfl rfl rfl ?_
                  refine vch_lf e16 rfl e13 rfl rfl rfl ?_
                  refine ⟨fun x => Stp I25262 w25332 I25262 x ∧ OwnK [(g25128, [(.bool x25122.Neg), v25126], 24), (g25239, [(.bool x25228.Neg), v25235], 24), (g25255, [(.bool x25244.Neg), v25251], 24), (g25237, [(.bool x25227.Neg), v25233], 24), (g25253, [(.bool x25243.Neg), v25249], 24), (g25265, [(.bool x25259.Neg), v25263], 24)] x, ⟨Stp.refl _ _, (OwnK.cons (hp.own 5 _ _ _ rfl).1 (OwnK.cons (hp.own 3 _ _ _ rfl).1 (OwnK.cons (hp.own 1 _ _ _ rfl).1 (OwnK.cons (hp.own 4 _ _ _ rfl).1 (OwnK.cons (hp.own 2 _ _ _ rfl).1 (OwnK.cons (hp.own 0 _ _ _ rfl).1 OwnK.nil))))))⟩, fun x hx => ⟨hz.held hx.1, hx.2⟩, ?_⟩
                  have hz := Stp.refl I25262 w25332
                  refine vch_lf e18 rfl e13 rfl rfl rfl ?_
                  refine ⟨fun x => Stp I25262 w25332 I25262 x ∧ OwnK [(g25128, [(.bool x25122.Neg), v25126], 24), (g25239, [(.bool x25228.Neg), v25235], 24), (g25255, [(.bool x25244.Neg), v25251], 24), (g25237, [(.bool x25227.Neg), v25233], 24), (g25253, [(.bool x25243.Neg), v25249], 24), (g25265, [(.bool x25259.Neg), v25263], 24)] x, ⟨Stp.refl _ _, (OwnK.cons (hp.own 5 _ _ _ rfl).1 (OwnK.cons (hp.own 3 _ _ _ rfl).1 (OwnK.cons (hp.own 1 _ _ _ rfl).1 (OwnK.cons (hp.own 4 _ _ _ rfl).1 (OwnK.cons (hp.own 2 _ _ _ rfl).1 (OwnK.cons (hp.own 0 _ _ _ rfl).1 OwnK.nil))))))⟩, fun x hx => ⟨hz.held hx.1, hx.2⟩, ?_⟩
                  have hz := Stp.refl I25262 w25332
                  refine vch_q e19 rfl ?_
                  refine vch_q e20 rfl ?_
                  refine vch_end ?_
                  obtain rfl := Option.some.inj q25308
                  have hp := hp.sel [] (by decide)
                  exact ⟨(false, I25262), (.c rfl .n), rfl, hp, tb⟩
              ·
                have q25308 := cond_f q25308 hc
                refine vch_qf e4 rfl e3 rfl rfl hc ?_
                refine vch_lf e5 rfl e3 rfl rfl rfl ?_
                refine ⟨fun x => Stp I25262 w25329 I25262 x ∧ OwnK [(g25128, [(.bool x25122.Neg), v25126], 24), (g25239, [(.bool x25228.Neg), v25235], 24), (g25255, [(.bool x25244.Neg), v25251], 24), (g25237, [(.bool x25227.Neg), v25233], 24), (g25253, [(.bool x25243.Neg), v25249], 24), (g25265, [(.bool x25259.Neg), v25263], 24)] x, ⟨Stp.refl _ _, (OwnK.cons (hp.own 5 _ _ _ rfl).1 (OwnK.cons (hp.own 3 _ _ _ rfl).1 (OwnK.cons (hp.own 1 _ _ _ rfl).1 (OwnK.cons (hp.own 4 _ _ _ rfl).1 (OwnK.cons (hp.own 2 _ _ _ rfl).1 (OwnK.cons (hp.own 0 _ _ _ rfl).1 OwnK.nil))))))⟩, fun x hx => ⟨hz.held hx.1, hx.2⟩, ?_⟩
                have hz := Stp.refl I25262 w25329
                refine vch_qf e6 rfl e3 rfl rfl rfl ?_
                refine vch_q e7 rfl ?_
                refine vch_q e8 rfl ?_
                refine vch_qf e9 rfl e8 rfl rfl rfl ?_
                refine vch_lf e10 rfl e8 rfl rfl rfl ?_
                refine ⟨fun x => Stp I25262 w25329 I25262 x ∧ OwnK [(g25128, [(.bool x25122.Neg), v25126], 24), (g25239, [(.bool x25228.Neg), v25235], 24), (g25255, [(.bool x25244.Neg), v25251], 24), (g25237, [(.bool x25227.Neg), v25233], 24), (g25253, [(.bool x25243.Neg), v25249], 24), (g25265, [(.bool x25259.Neg), v25263], 24)] x, ⟨Stp.refl _ _, (OwnK.cons (hp.own 5 _ _ _ rfl).1 (OwnK.cons (hp.own 3 _ _ _ rfl).1 (OwnK.cons (hp.own 1 _ _ _ rfl).1 (OwnK.cons (hp.own 4 _ _ _ rfl).1 (OwnK.cons (hp.own 2 _ _ _ rfl).1 (OwnK.cons (hp.own 0 _ _ _ rfl).1 OwnK.nil))))))⟩, fun x hx => ⟨hz.held hx.1, hx.2⟩, ?_⟩
                have hz := Stp.refl I25262 w25329
                refine vch_qf e11 rfl e8 rfl rfl rfl ?_
                refine vch_q e12 rfl ?_
                refine vch_q e13 rfl ?_
                refine vch_qf e14 rfl e13 rfl rfl rfl ?_
                refine vch_qf e15 rfl e13 rfl rfl rfl ?_
                refine vch_qf e17 rfl e13 rfl rfl rfl ?_
                refine vch_lf e16 rfl e13 rfl rfl rfl ?_
                refine ⟨fun x => Stp I25262 w25329 I25262 x ∧ OwnK [(g25128, [(.bool x25122.Neg), v25126], 24), (g25239, [(.bool x25228.Neg), v25235], 24), (g25255, [(.bool x25244.Neg), v25251], 24), (g25237, [(.bool x25227.Neg), v25233], 24), (g25253, [(.bool x25243.Neg), v25249], 24), (g25265, [(.bool x25259.Neg), v25263], 24)] x, ⟨Stp.refl _ _, (OwnK.cons (hp.own 5 _ _ _ rfl).1 (OwnK.cons (hp.own 3 _ _ _ rfl).1 (OwnK.cons (hp.own 1 _ _ _ rfl).1 (OwnK.cons (hp.own 4 _ _ _ rfl).1 (OwnK.cons (hp.own 2 _ _ _ rfl).1 (OwnK.cons (hp.own 0 _ _ _ rfl).1 OwnK.nil))))))⟩, fun x hx => ⟨hz.held hx.1, hx.2⟩, ?_⟩
                have hz := Stp.refl I25262 w25329
                refine vch_lf e18 rfl e13 rfl rfl rfl ?_
                refine ⟨fun x => Stp I25262 w25329 I25262 x ∧ OwnK [(g25128, [(.bool x25122.Neg), v25126], 24), (g25239, [(.bool x25228.Neg), v25235], 24), (g25255, [(.bool x25244.Neg), v25251], 24), (g25237, [(.bool x25227.Neg), v25233], 24), (g25253, [(.bool x25243.Neg), v25249], 24), (g25265, [(.bool x25259.Neg), v25263], 24)] x, ⟨Stp.refl _ _, (OwnK.cons (hp.own 5 _ _ _ rfl).1 (OwnK.cons (hp.own 3 _ _ _ rfl).1 (OwnK.cons (hp.own 1 _ _ _ rfl).1 (OwnK.cons (hp.own 4 _ _ _ rfl).1 (OwnK.cons (hp.own 2 _ _ _ rfl).1 (OwnK.cons (hp.own 0 _ _ _ rfl).1 OwnK.nil))))))⟩, fun x hx => ⟨hz.held hx.1, hx.2⟩, ?_⟩
                have hz := Stp.refl I25262 w25329
                refine vch_q e19 rfl ?_
                refine vch_q e20 rfl ?_
                refine vch_end ?_
                obtain rfl := Option.some.inj q25308
                have hp := hp.sel [] (by decide)
                exact ⟨(false, I25262), (.c rfl .n), rfl, hp, tb⟩
            ·
              rintro ⟨x25304, I25305⟩ w25306 ⟨hy, hp, tb⟩
              replace hy := hy.symm
              subst hy
              apply go
              obtain rfl := Option.some.inj h
              exact ⟨rfl, hp.ch⟩

end Go.Proofs.YthhghkcopfnbiaaGreatDoor
