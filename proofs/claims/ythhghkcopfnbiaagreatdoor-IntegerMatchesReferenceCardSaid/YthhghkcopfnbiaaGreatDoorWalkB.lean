/-
  Each function of the program computes the plain function of its name.
-/
import Derived.Test.YthhghkcopfnbiaaGreatDoorFactsA
import Derived.Test.YthhghkcopfnbiaaGreatDoorWalkA
import Derived.Test.YthhghkcopfnbiaaGreatDoorCoreA
namespace Go.Proofs.YthhghkcopfnbiaaGreatDoor
open Go Go.Proofs.YthhghkcopfnbiaaGreatDoor.Gw Go.RowKit
set_option linter.unusedVariables false
attribute [local irreducible] Ev EvQ EvS EvH
def integer_Parse_S (f : ByteArray → Option (Int_2 × Int)) : Prop := ∀ (w0 : World) (I0 : Nat → Prop) (tb : Tb w0 I0 1 .u64 pow10) (x19209 : ByteArray) (hI : ∀ g, I0 g → g < w0.heap.size) (r : (Int_2 × Int)), f x19209 = some r →
    Ret Tryz.prog 26 #[(.string x19209)] w0 fun v w1 => ∃ (I1 : Nat → Prop) (u19210 : Value), v = (.tuple #[(.agg #[(.bool r.1.Neg), u19210]), (.int .i64 r.2)]) ∧ Hp ⟨w0, I0, []⟩ I1 [] w1 ∧ RepS (dI .u32) w1 I1 u19210 r.1.Mag
theorem integer_Parse_ok (n : Nat) : integer_Parse_S (integer_Parse n) := by
  intro w0 I0 tb x19209 hI r h
  unfold integer_Parse at h
  refine enter Tryz.func26 rfl (Nat.le_of_ble_eq_true rfl) ?_
  have hp : Hp ⟨w0, I0, []⟩ I0 [] w0 := Hp.start hI
  apply go
  apply go
  refine ev_alloc hp rfl T24 ?_
  intro g19211 w19212 hp hs
  replace tb := tb.step hs
  apply go
  apply go
  apply go
  refine ev0 (rn_lenS rfl rfl Tryz.underlying9) ?_
  apply go
  refine sel_of (fun hc => ?_) (fun hc => ?_)
  ·
    have h := cond_t h hc
    apply go
    apply go
    refine ev0 (fun w => rn_build (cs := [(.bool false), (.slice none 0 0)]) rfl rfl T24 PL24 rfl) ?_
    refine ev_storeA hp (i := 0) (off := 0) (vs := [(.bool false), (.slice none 0 0)]) rfl rfl rfl rfl T24 rfl (Nat.le_of_ble_eq_true rfl) (ones_of rfl) ?_
    intro w19213 hp hs
    replace tb := tb.step hs
    apply go
    obtain rfl := Option.some.inj h
    refine ⟨_, run_loadVarA T24 rfl (hp.at_ (i := 0) rfl), ?_⟩
    have hp := hp.sel [] (by decide)
    exact ⟨I0, .slice none 0 0, rfl, hp, RepS.nil _ _ _⟩
  ·
    have h := cond_f h hc
    apply go
    apply go
    apply go
    obtain ⟨⟨x19214, x19215⟩, q19216, h⟩ := bind_some h
    refine ev_call rfl rfl C62 (((strings_CutPrefix_ok n) _ _  x19209 (ByteArray.mk #[45]) hp.imm _ q19216).mono ?_)
    rintro _ w19217 ⟨rfl, hc⟩
    have hs := hp.stp hc
    replace hp := hp.ext hc
    replace tb := tb.step hs
    apply go
    obtain ⟨y19220, q19221, h⟩ := bind_some h
    refine W.cut (γ := Unit) (fun _ => [(2, (.pointer (some ⟨g19211, 0, none⟩))), (4, (.string x19214)), (5, (.bool x19215)), (34, (.bool true))]) (fun _ w' => y19220 = () ∧ w19217 = w') ?_ ?_
    ·
      apply go
      refine sel_of (fun hc => ?_) (fun hc => ?_)
      ·
        have q19221 := cond_t q19221 hc
        obtain rfl := Option.some.inj q19221
        exact ⟨(), (.c rfl (.c rfl (.c rfl (.c rfl .n)))), rfl, rfl⟩
      ·
        have q19221 := cond_f q19221 hc
        obtain ⟨x19222, q19223, q19221⟩ := bind_some q19221
        refine ev0 (rn_indexS rfl rfl rfl Tryz.underlying9 q19223) ?_
        refine sel_of (fun hc => ?_) (fun hc => ?_)
        ·
          have q19221 := cond_t q19221 hc
          refine sel_of (fun hc => ?_) (fun hc => ?_)
          ·
            have q19221 := cond_t q19221 hc
            obtain rfl := Option.some.inj q19221
            exact ⟨(), (.c rfl (.c rfl (.c rfl (.c rfl .n)))), rfl, rfl⟩
          ·
            have q19221 := cond_f q19221 hc
            cases q19221
        ·
          have q19221 := cond_f q19221 hc
          cases q19221
    ·
      rintro ⟨⟩ _ ⟨hy, rfl⟩
      replace hy := hy.symm
      subst hy
      apply go
      apply go
      apply go
      refine ev0 (fun w => rn_build (cs := [(.bool false), (.slice none 0 0)]) rfl rfl T24 PL24 rfl) ?_
      refine ev_storeA hp (i := 0) (off := 0) (vs := [(.bool false), (.slice none 0 0)]) rfl rfl rfl rfl T24 rfl (Nat.le_of_ble_eq_true rfl) (ones_of rfl) ?_
      intro w19224 hp hs
      replace tb := tb.step hs
      apply go
      obtain rfl := Option.some.inj h
      refine ⟨_, run_loadVarA T24 rfl (hp.at_ (i := 0) rfl), ?_⟩
      have hp := hp.sel [] (by decide)
      exact ⟨I0, .slice none 0 0, rfl, hp, RepS.nil _ _ _⟩

end Go.Proofs.YthhghkcopfnbiaaGreatDoor

namespace Go.Proofs.YthhghkcopfnbiaaGreatDoor
open Go Go.Proofs.YthhghkcopfnbiaaGreatDoor.Gw Go.RowKit
set_option linter.unusedVariables false
attribute [local irreducible] Ev EvQ EvS EvH
def integer_Sign_S (f : Int_2 → Option Int) : Prop := ∀ (w0 : World) (I0 : Nat → Prop) (x16104 : Int_2) (v16105 : Value) (r16106 : RepS (dI .u32) w0 I0 v16105 x16104.Mag) (hI : ∀ g, I0 g → g < w0.heap.size) (r : Int), f x16104 = some r →
    Ret Tryz.prog 23 #[(.agg #[(.bool x16104.Neg), v16105])] w0 fun v w1 => v = (.int .i64 r) ∧ Ch [] w0 w1
theorem integer_Sign_ok (n : Nat) : integer_Sign_S (integer_Sign n) := by
  intro w0 I0 x16104 v16105 r16106 hI r h
  unfold integer_Sign at h
  refine enter Tryz.func23 rfl (Nat.le_of_ble_eq_true rfl) ?_
  have hp : Hp ⟨w0, I0, []⟩ I0 [] w0 := Hp.start hI
  apply go
  apply go
  refine ev_boxI hp rfl rfl ?_
  intro p16109 I16110 w16108 hp hs a16111
  replace r16106 := r16106.step hs
  apply go
  apply go
  apply go
  apply go
  refine ev0 (rn_field rfl rfl FO24_1) ?_
  refine ev (rn_load rfl rfl (run_loadVar1 T22 (a16111.2 1 _ rfl))) ?_
  obtain ⟨x16112, q16113, h⟩ := bind_some h
  refine ev_call rfl rfl C46 (((integer_trim_ok n) _ _  x16104.Mag v16105 r16106 hp.imm _ q16113).mono ?_)
  rintro _ w16114 ⟨I16115, v16116, hv, hq, r16117⟩
  replace hv := hv.symm
  subst hv
  have hs := hq.st
  have hp := hp.join0 hq
  replace a16111 := a16111.step hs
  replace r16106 := r16106.step hs
  refine ev0 (rn_len rfl rfl Tryz.underlying22 r16117) ?_
  apply go
  refine sel_of (fun hc => ?_) (fun hc => ?_)
  ·
    have h := cond_t h hc
    apply go
    apply go
    apply go
    obtain rfl := Option.some.inj h
    exact ⟨rfl, hp.ch⟩
  ·
    have h := cond_f h hc
    apply go
    apply go
    refine ev0 (rn_field rfl rfl FO24_0) ?_
    refine ev (rn_load rfl rfl (run_loadVar1 T4 (a16111.2 0 _ rfl))) ?_
    apply go
    refine sel_of (fun hc => ?_) (fun hc => ?_)
    ·
      have h := cond_t h hc
      apply go
      apply go
      apply go
      obtain rfl := Option.some.inj h
      exact ⟨rfl, hp.ch⟩
    ·
      have h := cond_f h hc
      apply go
      apply go
      apply go
      apply go
      obtain rfl := Option.some.inj h
      exact ⟨rfl, hp.ch⟩

end Go.Proofs.YthhghkcopfnbiaaGreatDoor

namespace Go.Proofs.YthhghkcopfnbiaaGreatDoor
open Go Go.Proofs.YthhghkcopfnbiaaGreatDoor.Gw Go.RowKit
set_option linter.unusedVariables false
attribute [local irreducible] Ev EvQ EvS EvH
def integer_Cmp_S (f : Int_2 → Int_2 → Option Int) : Prop := ∀ (w0 : World) (I0 : Nat → Prop) (x16141 : Int_2) (v16142 : Value) (r16143 : RepS (dI .u32) w0 I0 v16142 x16141.Mag) (x16144 : Int_2) (v16145 : Value) (r16146 : RepS (dI .u32) w0 I0 v16145 x16144.Mag) (hI : ∀ g, I0 g → g < w0.heap.size) (r : Int), f x16141 x16144 = some r →
    Ret Tryz.prog 17 #[(.agg #[(.bool x16141.Neg), v16142]), (.agg #[(.bool x16144.Neg), v16145])] w0 fun v w1 => v = (.int .i64 r) ∧ Ch [] w0 w1
theorem integer_Cmp_ok (n : Nat) : integer_Cmp_S (integer_Cmp n) := by
  intro w0 I0 x16141 v16142 r16143 x16144 v16145 r16146 hI r h
  unfold integer_Cmp at h
  refine enter Tryz.func17 rfl (Nat.le_of_ble_eq_true rfl) ?_
  have hp : Hp ⟨w0, I0, []⟩ I0 [] w0 := Hp.start hI
  apply go
  apply go
  refine ev_boxI hp rfl rfl ?_
  intro p16149 I16150 w16148 hp hs a16151
  replace r16146 := r16146.step hs
  replace r16143 := r16143.step hs
  refine ev_boxI hp rfl rfl ?_
  intro p16154 I16155 w16153 hp hs a16156
  replace a16151 := a16151.step hs
  replace r16143 := r16143.step hs
  replace r16146 := r16146.step hs
  apply go
  refine W.quiet (fun w' => Ch [] w16153 w') MX (by kernel_rfl) (Ch.drew [] w16153) ?_
  refine evq (fun w' hw => rn_load rfl rfl (run_loadVarA T24 rfl (a16151.step (hp.stp hw)))) ?_
  obtain ⟨x16157, q16158, h⟩ := bind_some h
  refine evq_call rfl rfl C23 (fun w' hw => ((integer_Sign_ok n) _ _  (Int_2.mk x16141.Neg x16141.Mag) v16142 (r16143.step (hp.stp hw)) (hp.ext hw).imm _ q16158).mono fun _ _ ⟨e, hc⟩ => ⟨e, hw.trans hc⟩) ?_
  refine evq (fun w' hw => rn_load rfl rfl (run_loadVarA T24 rfl (a16156.step (hp.stp hw)))) ?_
  obtain ⟨x16159, q16160, h⟩ := bind_some h
  refine evq_call rfl rfl C23 (fun w' hw => ((integer_Sign_ok n) _ _  (Int_2.mk x16144.Neg x16144.Mag) v16145 (r16146.step (hp.stp hw)) (hp.ext hw).imm _ q16160).mono fun _ _ ⟨e, hc⟩ => ⟨e, hw.trans hc⟩) ?_
  intro w16161 hc
  have hs := hp.stp hc
  replace hp := hp.ext hc
  replace a16151 := a16151.step hs
  replace r16143 := r16143.step hs
  replace a16156 := a16156.step hs
  replace r16146 := r16146.step hs
  apply go
  apply go
  apply go
  apply go
  apply go
  refine sel_of (fun hc => ?_) (fun hc => ?_)
  ·
    have h := cond_t h hc
    apply go
    apply go
    apply go
    obtain rfl := Option.some.inj h
    exact ⟨rfl, hp.ch⟩
  ·
    have h := cond_f h hc
    apply go
    apply go
    apply go
    refine sel_of (fun hc => ?_) (fun hc => ?_)
    ·
      have h := cond_t h hc
      apply go
      apply go
      apply go
      obtain rfl := Option.some.inj h
      exact ⟨rfl, hp.ch⟩
    ·
      have h := cond_f h hc
      apply go
      apply go
      have hs := hp.stp (Ch.drew [] w16161)
      have hp := hp.drew
      replace a16151 := a16151.step hs
      replace r16143 := r16143.step hs
      replace a16156 := a16156.step hs
      replace r16146 := r16146.step hs
      refine W.held [(0, true), (1, true), (2, true), (4, true), (5, true), (3, false), (6, false), (7, false), (8, true), (9, true)] (Stp I16155 w16161.drew I16155) MX (by kernel_rfl) (Stp.refl _ _) ?_
      have hz := Stp.refl I16155 w16161.drew
      refine evh0 (rn_field rfl rfl FO24_1) ?_
      refine evh (fun w' hw => rn_load rfl rfl (run_loadVar1 T22 ((a16151.step hw).2 1 _ rfl))) ?_
      refine evh0 (rn_field rfl rfl FO24_1) ?_
      refine evh (fun w' hw => rn_load rfl rfl (run_loadVar1 T22 ((a16156.step hw).2 1 _ rfl))) ?_
      obtain ⟨x16177, q16178, h⟩ := bind_some h
      refine ev_call rfl rfl C46 (((integer_trim_ok n) _ _  x16141.Mag v16142 r16143 hp.imm _ q16178).mono ?_)
      rintro _ w16179 ⟨I16180, v16181, hv, hq, r16182⟩
      replace hv := hv.symm
      subst hv
      have hs := hq.st
      have hp := hp.join0 hq
      replace hz := hz.trans hs
      replace r16146 := r16146.step hs
      refine ⟨Stp I16180 w16179 I16180, Stp.refl _ _, fun x hx => hz.held hx, ?_⟩
      have hz := Stp.refl I16180 w16179
      obtain ⟨x16183, q16184, h⟩ := bind_some h
      refine ev_call rfl rfl C46 (((integer_trim_ok n) _ _  x16144.Mag v16145 r16146 hp.imm _ q16184).mono ?_)
      rintro _ w16185 ⟨I16186, v16187, hv, hq, r16188⟩
      replace hv := hv.symm
      subst hv
      have hs := hq.st
      have hp := hp.join0 hq
      replace hz := hz.trans hs
      replace r16182 := r16182.step hs
      refine ⟨Stp I16186 w16185 I16186, Stp.refl _ _, fun x hx => hz.held hx, ?_⟩
      have hz := Stp.refl I16186 w16185
      obtain ⟨x16189, q16190, h⟩ := bind_some h
      refine ev_call rfl rfl C48 (((integer_compare_ok n) _ _  x16177 v16181 r16182 x16183 v16187 r16188 hp.imm _ q16190).mono ?_)
      rintro _ w16191 ⟨rfl, hc⟩
      have hs := hp.stp hc
      replace hp := hp.ext hc
      replace hz := hz.trans hs
      refine ⟨Stp I16186 w16191 I16186, Stp.refl _ _, fun x hx => hz.held hx, ?_⟩
      have hz := Stp.refl I16186 w16191
      apply go
      obtain rfl := Option.some.inj h
      exact ⟨rfl, hp.ch⟩

end Go.Proofs.YthhghkcopfnbiaaGreatDoor

namespace Go.Proofs.YthhghkcopfnbiaaGreatDoor
open Go Go.Proofs.YthhghkcopfnbiaaGreatDoor.Gw Go.RowKit
set_option linter.unusedVariables false
attribute [local irreducible] Ev EvQ EvS EvH
def integer_Sqrt_S (f : Int_2 → Option (Int_2 × Int)) : Prop := ∀ (w0 : World) (I0 : Nat → Prop) (x16192 : Int_2) (v16193 : Value) (r16194 : RepS (dI .u32) w0 I0 v16193 x16192.Mag) (hI : ∀ g, I0 g → g < w0.heap.size) (r : (Int_2 × Int)), f x16192 = some r →
    Ret Tryz.prog 33 #[(.agg #[(.bool x16192.Neg), v16193])] w0 fun v w1 => ∃ (I1 : Nat → Prop) (u16195 : Value), v = (.tuple #[(.agg #[(.bool r.1.Neg), u16195]), (.int .i64 r.2)]) ∧ Hp ⟨w0, I0, []⟩ I1 [] w1 ∧ RepS (dI .u32) w1 I1 u16195 r.1.Mag
theorem integer_Sqrt_ok (n : Nat) : integer_Sqrt_S (integer_Sqrt n) := by
  intro w0 I0 x16192 v16193 r16194 hI r h
  unfold integer_Sqrt at h
  refine enter Tryz.func33 rfl (Nat.le_of_ble_eq_true rfl) ?_
  have hp : Hp ⟨w0, I0, []⟩ I0 [] w0 := Hp.start hI
  apply go
  apply go
  refine ev_boxI hp rfl rfl ?_
  intro p16198 I16199 w16197 hp hs a16200
  replace r16194 := r16194.step hs
  refine ev_alloc hp rfl T24 ?_
  intro g16201 w16202 hp hs
  replace a16200 := a16200.step hs
  replace r16194 := r16194.step hs
  apply go
  apply go
  apply go
  refine ev (rn_load rfl rfl (run_loadVarA T24 rfl a16200)) ?_
  obtain ⟨x16203, q16204, h⟩ := bind_some h
  refine ev_call rfl rfl C23 (((integer_Sign_ok n) _ _  (Int_2.mk x16192.Neg x16192.Mag) v16193 r16194 hp.imm _ q16204).mono ?_)
  rintro _ w16205 ⟨rfl, hc⟩
  have hs := hp.stp hc
  replace hp := hp.ext hc
  replace a16200 := a16200.step hs
  replace r16194 := r16194.step hs
  apply go
  apply go
  apply go
  apply go
  refine sel_of (fun hc => ?_) (fun hc => ?_)
  ·
    have h := cond_t h hc
    apply go
    apply go
    refine ev0 (fun w => rn_build (cs := [(.bool false), (.slice none 0 0)]) rfl rfl T24 PL24 rfl) ?_
    refine ev_storeA hp (i := 0) (off := 0) (vs := [(.bool false), (.slice none 0 0)]) rfl rfl rfl rfl T24 rfl (Nat.le_of_ble_eq_true rfl) (ones_of rfl) ?_
    intro w16206 hp hs
    apply go
    obtain rfl := Option.some.inj h
    refine ⟨_, run_loadVarA T24 rfl (hp.at_ (i := 0) rfl), ?_⟩
    have hp := hp.sel [] (by decide)
    exact ⟨I16199, .slice none 0 0, rfl, hp, RepS.nil _ _ _⟩
  ·
    have h := cond_f h hc
    apply go
    apply go
    apply go
    refine sel_of (fun hc => ?_) (fun hc => ?_)
    ·
      have h := cond_t h hc
      apply go
      apply go
      refine ev0 (fun w => rn_build (cs := [(.bool false), (.slice none 0 0)]) rfl rfl T24 PL24 rfl) ?_
      refine ev_storeA hp (i := 0) (off := 0) (vs := [(.bool false), (.slice none 0 0)]) rfl rfl rfl rfl T24 rfl (Nat.le_of_ble_eq_true rfl) (ones_of rfl) ?_
      intro w16207 hp hs
      apply go
      obtain rfl := Option.some.inj h
      refine ⟨_, run_loadVarA T24 rfl (hp.at_ (i := 0) rfl), ?_⟩
      have hp := hp.sel [] (by decide)
      exact ⟨I16199, .slice none 0 0, rfl, hp, RepS.nil _ _ _⟩
    ·
      have h := cond_f h hc
      apply go
      apply go
      apply go
      refine ev (rn_load rfl rfl (run_loadVarA T24 rfl a16200)) ?_
      obtain ⟨x16208, q16209, h⟩ := bind_some h
      refine ev_call rfl rfl C19 (((integer_Bits_ok n) _ _  (Int_2.mk x16192.Neg x16192.Mag) v16193 r16194 hp.imm _ q16209).mono ?_)
      rintro _ w16210 ⟨rfl, hc⟩
      have hs := hp.stp hc
      replace hp := hp.ext hc
      replace a16200 := a16200.step hs
      replace r16194 := r16194.step hs
      refine ⟨by decide, ?_⟩
      apply go
      apply go
      refine ⟨by decide, ?_⟩
      obtain ⟨x16211, q16212, h⟩ := bind_some h
      refine ev_make (d := (dI .u32)) (x0 := 0) hp rfl rfl rfl Tryz.underlying22 T45 (fun _ _ => rfl) (Nat.le_of_ble_eq_true rfl) q16212 ?_
      intro v16213 e16214 w16215 hp hs o16216
      replace a16200 := a16200.step hs
      replace r16194 := r16194.step hs
      apply go
      apply go
      refine ⟨by decide, ?_⟩
      refine ⟨by decide, ?_⟩
      obtain ⟨q16217, _, h⟩ := need_some h
      refine ⟨q16217, ?_⟩
      obtain ⟨x16218, q16219, h⟩ := bind_some h
      refine ev_indexO rfl rfl rfl Tryz.underlying22 T45 o16216 q16219 ?_
      intro g16220 c16221 h16224 d16222 l16223
      refine ev_storeE hp (i := 0) rfl h16224 rfl rfl rfl T45 o16216 q16219 (x0 := (IntKind.u32.wrap ((1 : Int) * 2 ^ min ((IntKind.i64.wrap ((IntKind.i64.wrap (x16208 + 1)).tdiv 2)).tmod 32).toNat (IntKind.u32).bits))) rfl ?_
      intro e16227 w16226 hp hs o16228
      replace a16200 := a16200.step hs
      replace r16194 := r16194.step hs
      apply go
      apply go
      have r16231 := o16228.frz hp (i := 0) rfl
      obtain ⟨hp, hs⟩ := freeze_hp hp (i := 0) rfl
      replace a16200 := a16200.step hs
      replace r16194 := r16194.step hs
      have hp := hp.sel [1] (by decide)
      obtain ⟨x16232, q16233, h⟩ := bind_some h
      refine ev_call rfl rfl C49 (((integer_made_ok n) _ _  false (upd x16211 (IntKind.i64.wrap ((IntKind.i64.wrap ((IntKind.i64.wrap (x16208 + 1)).tdiv 2)).tdiv 32)) (IntKind.u32.wrap ((1 : Int) * 2 ^ min ((IntKind.i64.wrap ((IntKind.i64.wrap (x16208 + 1)).tdiv 2)).tmod 32).toNat (IntKind.u32).bits))) v16213 r16231 hp.imm _ q16233).mono ?_)
      rintro _ w16234 ⟨I16235, v16236, hv, hq, r16237⟩
      replace hv := hv.symm
      subst hv
      have hs := hq.st
      have hp := hp.join0 hq
      replace a16200 := a16200.step hs
      replace r16194 := r16194.step hs
      refine ev_alloc hp rfl T24 ?_
      intro g16238 w16239 hp hs
      replace a16200 := a16200.step hs
      replace r16194 := r16194.step hs
      replace r16237 := r16237.step hs
      refine ev_storeA hp (i := 0) (off := 0) (vs := [(.bool x16232.Neg), v16236]) rfl rfl rfl rfl T24 rfl (Nat.le_of_ble_eq_true rfl) (ones_cons rfl (ones_cons r16237.one ones_nil)) ?_
      intro w16240 hp hs
      replace a16200 := a16200.step hs
      replace r16194 := r16194.step hs
      replace r16237 := r16237.step hs
      apply go
      have hp := hp.perm [1, 0] (by decide)
      refine W.loop h (γ := (Value × (Nat → Prop))) (fun s g => [(1, (.pointer (some (p16198)))), (2, (.pointer (some ⟨g16201, 0, none⟩))), (6, (.pointer (some ⟨g16238, 0, none⟩)))]) (fun s g w' => Hp ⟨w0, I0, []⟩ (g.2) [some (g16201, [(.bool false), (.slice none 0 0)], 24), some (g16238, [(.bool (s.1)), (g.1)], 24)] w' ∧ RepS (dI .u32) w' (g.2) v16193 x16192.Mag ∧ At w' (g.2) p16198 [(.bool x16192.Neg), v16193] ∧ RepS (dI .u32) w' (g.2) (g.1) (s.2)) (v16236, I16235) (.c rfl (.c rfl (.c rfl .n))) ⟨hp, r16194, a16200, r16237⟩ ?_
      rintro ⟨x16290, x16291⟩ ⟨v16292, I16294⟩ w16349 y16350 ⟨hp, r16194, a16200, r16293⟩ q16351 q16352
      unfold integer_Sqrt_L0 at q16351
      apply go
      apply go
      apply go
      refine ev (rn_load rfl rfl (run_loadVarA T24 rfl a16200)) ?_
      refine ev (rn_load rfl rfl (run_loadVarA T24 rfl (hp.at_ (i := 1) rfl))) ?_
      obtain ⟨⟨x16353, x16354, x16355⟩, q16356, q16351⟩ := bind_some q16351
      refine ev_call rfl rfl C24 (((integer_DivMod_ok n) _ _  (Int_2.mk x16192.Neg x16192.Mag) v16193 r16194 (Int_2.mk x16290 x16291) v16292 r16293 hp.imm _ q16356).mono ?_)
      rintro _ w16357 ⟨I16358, v16359, v16361, hv, hq, r16360, r16362⟩
      replace hv := hv.symm
      subst hv
      have hs := hq.st
      have hp := hp.join0 hq
      replace a16200 := a16200.step hs
      replace r16194 := r16194.step hs
      replace r16293 := r16293.step hs
      refine ev_alloc hp rfl T24 ?_
      intro g16363 w16364 hp hs
      replace a16200 := a16200.step hs
      replace r16194 := r16194.step hs
      replace r16360 := r16360.step hs
      replace r16362 := r16362.step hs
      replace r16293 := r16293.step hs
      refine ev_alloc hp rfl T24 ?_
      intro g16365 w16366 hp hs
      replace a16200 := a16200.step hs
      replace r16194 := r16194.step hs
      replace r16360 := r16360.step hs
      replace r16362 := r16362.step hs
      replace r16293 := r16293.step hs
      refine ev_storeA hp (i := 1) (off := 0) (vs := [(.bool x16353.Neg), v16359]) rfl rfl rfl rfl T24 rfl (Nat.le_of_ble_eq_true rfl) (ones_cons rfl (ones_cons r16360.one ones_nil)) ?_
      intro w16367 hp hs
      replace a16200 := a16200.step hs
      replace r16194 := r16194.step hs
      replace r16362 := r16362.step hs
      replace r16360 := r16360.step hs
      replace r16293 := r16293.step hs
      refine ev_storeA hp (i := 0) (off := 0) (vs := [(.bool x16354.Neg), v16361]) rfl rfl rfl rfl T24 rfl (Nat.le_of_ble_eq_true rfl) (ones_cons rfl (ones_cons r16362.one ones_nil)) ?_
      intro w16368 hp hs
      replace a16200 := a16200.step hs
      replace r16194 := r16194.step hs
      replace r16362 := r16362.step hs
      replace r16360 := r16360.step hs
      replace r16293 := r16293.step hs
      apply go
      apply go
      refine ev (rn_load rfl rfl (run_loadVarA T24 rfl (hp.at_ (i := 3) rfl))) ?_
      refine ev (rn_load rfl rfl (run_loadVarA T24 rfl (hp.at_ (i := 1) rfl))) ?_
      obtain ⟨x16369, q16370, q16351⟩ := bind_some q16351
      refine ev_call rfl rfl C30 (((integer_Add_ok n) _ _  (Int_2.mk x16290 x16291) v16292 r16293 (Int_2.mk x16353.Neg x16353.Mag) v16359 r16360 hp.imm _ q16370).mono ?_)
      rintro _ w16371 ⟨I16372, v16373, hv, hq, r16374⟩
      replace hv := hv.symm
      subst hv
      have hs := hq.st
      have hp := hp.join0 hq
      replace a16200 := a16200.step hs
      replace r16194 := r16194.step hs
      replace r16362 := r16362.step hs
      replace r16360 := r16360.step hs
      replace r16293 := r16293.step hs
      obtain ⟨x16375, q16376, q16351⟩ := bind_some q16351
      refine ev_call rfl rfl C18 (((integer_Of_ok n) _ _  2 hp.imm _ q16376).mono ?_)
      rintro _ w16377 ⟨I16378, v16379, hv, hq, r16380⟩
      replace hv := hv.symm
      subst hv
      have hs := hq.st
      have hp := hp.join0 hq
      replace a16200 := a16200.step hs
      replace r16194 := r16194.step hs
      replace r16374 := r16374.step hs
      replace r16362 := r16362.step hs
      replace r16360 := r16360.step hs
      replace r16293 := r16293.step hs
      obtain ⟨⟨x16381, x16382, x16383⟩, q16384, q16351⟩ := bind_some q16351
      refine ev_call rfl rfl C24 (((integer_DivMod_ok n) _ _  x16369 v16373 r16374 x16375 v16379 r16380 hp.imm _ q16384).mono ?_)
      rintro _ w16385 ⟨I16386, v16387, v16389, hv, hq, r16388, r16390⟩
      replace hv := hv.symm
      subst hv
      have hs := hq.st
      have hp := hp.join0 hq
      replace a16200 := a16200.step hs
      replace r16194 := r16194.step hs
      replace r16362 := r16362.step hs
      replace r16360 := r16360.step hs
      replace r16293 := r16293.step hs
      refine ev_alloc hp rfl T24 ?_
      intro g16391 w16392 hp hs
      replace a16200 := a16200.step hs
      replace r16194 := r16194.step hs
      replace r16388 := r16388.step hs
      replace r16390 := r16390.step hs
      replace r16362 := r16362.step hs
      replace r16360 := r16360.step hs
      replace r16293 := r16293.step hs
      refine ev_alloc hp rfl T24 ?_
      intro g16393 w16394 hp hs
      replace a16200 := a16200.step hs
      replace r16194 := r16194.step hs
      replace r16388 := r16388.step hs
      replace r16390 := r16390.step hs
      replace r16362 := r16362.step hs
      replace r16360 := r16360.step hs
      replace r16293 := r16293.step hs
      refine ev_storeA hp (i := 1) (off := 0) (vs := [(.bool x16381.Neg), v16387]) rfl rfl rfl rfl T24 rfl (Nat.le_of_ble_eq_true rfl) (ones_cons rfl (ones_cons r16388.one ones_nil)) ?_
      intro w16395 hp hs
      replace a16200 := a16200.step hs
      replace r16194 := r16194.step hs
      replace r16390 := r16390.step hs
      replace r16388 := r16388.step hs
      replace r16362 := r16362.step hs
      replace r16360 := r16360.step hs
      replace r16293 := r16293.step hs
      refine ev_storeA hp (i := 0) (off := 0) (vs := [(.bool x16382.Neg), v16389]) rfl rfl rfl rfl T24 rfl (Nat.le_of_ble_eq_true rfl) (ones_cons rfl (ones_cons r16390.one ones_nil)) ?_
      intro w16396 hp hs
      replace a16200 := a16200.step hs
      replace r16194 := r16194.step hs
      replace r16390 := r16390.step hs
      replace r16388 := r16388.step hs
      replace r16362 := r16362.step hs
      replace r16360 := r16360.step hs
      replace r16293 := r16293.step hs
      apply go
      apply go
      apply go
      refine ev (rn_load rfl rfl (run_loadVarA T24 rfl (hp.at_ (i := 1) rfl))) ?_
      refine ev (rn_load rfl rfl (run_loadVarA T24 rfl (hp.at_ (i := 5) rfl))) ?_
      obtain ⟨x16397, q16398, q16351⟩ := bind_some q16351
      refine ev_call rfl rfl C17 (((integer_Cmp_ok n) _ _  (Int_2.mk x16381.Neg x16381.Mag) v16387 r16388 (Int_2.mk x16290 x16291) v16292 r16293 hp.imm _ q16398).mono ?_)
      rintro _ w16399 ⟨rfl, hc⟩
      have hs := hp.stp hc
      replace hp := hp.ext hc
      replace a16200 := a16200.step hs
      replace r16194 := r16194.step hs
      replace r16390 := r16390.step hs
      replace r16388 := r16388.step hs
      replace r16362 := r16362.step hs
      replace r16360 := r16360.step hs
      replace r16293 := r16293.step hs
      apply go
      refine sel_of (fun hc => ?_) (fun hc => ?_)
      ·
        have q16351 := cond_t q16351 hc
        apply go
        apply go
        refine ev (rn_load rfl rfl (run_loadVarA T24 rfl (hp.at_ (i := 5) rfl))) ?_
        refine ev_storeA hp (i := 4) (off := 0) (vs := [(.bool x16290), v16292]) rfl rfl rfl rfl T24 rfl (Nat.le_of_ble_eq_true rfl) (ones_cons rfl (ones_cons r16293.one ones_nil)) ?_
        intro w16400 hp hs
        replace r16390 := r16390.step hs
        replace r16388 := r16388.step hs
        replace r16362 := r16362.step hs
        replace r16360 := r16360.step hs
        replace r16293 := r16293.step hs
        apply go
        have q16401 := congrArg some (q16352 _ (Option.some.inj q16351).symm)
        obtain rfl := Option.some.inj q16401
        refine ⟨_, run_loadVarA T24 rfl (hp.at_ (i := 4) rfl), ?_⟩
        have hp := hp.sel [] (by decide)
        exact ⟨I16386, v16292, rfl, hp, r16293⟩
      ·
        have q16351 := cond_f q16351 hc
        apply go
        apply go
        refine ev (rn_load rfl rfl (run_loadVarA T24 rfl (hp.at_ (i := 1) rfl))) ?_
        refine ev_storeA hp (i := 5) (off := 0) (vs := [(.bool x16381.Neg), v16387]) rfl rfl rfl rfl T24 rfl (Nat.le_of_ble_eq_true rfl) (ones_cons rfl (ones_cons r16388.one ones_nil)) ?_
        intro w16402 hp hs
        replace a16200 := a16200.step hs
        replace r16194 := r16194.step hs
        replace r16390 := r16390.step hs
        replace r16388 := r16388.step hs
        replace r16362 := r16362.step hs
        replace r16360 := r16360.step hs
        have hp := hp.sel [4, 5] (by decide)
        exact ⟨_, (Option.some.inj q16351).symm, (v16387, I16386), (.c rfl (.c rfl (.c rfl .n))), ⟨hp, r16194, a16200, r16388⟩⟩

end Go.Proofs.YthhghkcopfnbiaaGreatDoor

namespace Go.Proofs.YthhghkcopfnbiaaGreatDoor
open Go Go.Proofs.YthhghkcopfnbiaaGreatDoor.Gw Go.RowKit
set_option linter.unusedVariables false
attribute [local irreducible] Ev EvQ EvS EvH
def ref01_trim_S (f : (List Int) → Option (List Int)) : Prop := ∀ (w0 : World) (I0 : Nat → Prop) (x19225 : (List Int)) (v19226 : Value) (r19227 : RepS (dI .u32) w0 I0 v19226 x19225) (hI : ∀ g, I0 g → g < w0.heap.size) (r : (List Int)), f x19225 = some r →
    Ret Tryz.prog 47 #[v19226] w0 fun v w1 => ∃ (I1 : Nat → Prop) (u19228 : Value) (u19229 : Ent), v = u19228 ∧ Hp ⟨w0, I0, []⟩ I1 [u19229] w1 ∧ OwnS (dI .u32) 45 w1 I1 u19228 u19229 r
theorem ref01_trim_ok (n : Nat) : ref01_trim_S (ref01_trim n) := by
  intro w0 I0 x19225 v19226 r19227 hI r h
  unfold ref01_trim at h
  refine enter Tryz.func47 rfl (Nat.le_of_ble_eq_true rfl) ?_
  have hp : Hp ⟨w0, I0, []⟩ I0 [] w0 := Hp.start hI
  apply go
  apply go
  obtain ⟨y19300, q19301, h⟩ := bind_some h
  refine W.cut (γ := ((List Int) × Value)) (fun g => [(0, (g.2))]) (fun g w' => y19300 = (g.1) ∧ w0 = w' ∧ RepS (dI .u32) w' I0 (g.2) (g.1)) ?_ ?_
  ·
    apply go
    refine W.loop q19301 (γ := Value) (fun s g => [(0, (g))]) (fun s g w' => w0 = w' ∧ RepS (dI .u32) w' I0 (g) (s)) v19226 (.c rfl .n) ⟨rfl, r19227⟩ ?_
    rintro x19321 v19322 _ y19346 ⟨rfl, r19323⟩ q19347 q19348
    unfold ref01_trim_L1 at q19347
    apply go
    obtain ⟨y19356, q19357, q19347⟩ := bind_some q19347
    refine W.cut (γ := Bool) (fun g => [(0, v19322), (14, (.bool (g)))]) (fun g w' => y19356 = (g) ∧ w0 = w') ?_ ?_
    ·
      apply go
      refine ev0 (rn_len rfl rfl Tryz.underlying22 r19323) ?_
      refine sel_of (fun hc => ?_) (fun hc => ?_)
      ·
        have q19357 := cond_t q19357 hc
        refine ev0 (rn_len rfl rfl Tryz.underlying22 r19323) ?_
        obtain ⟨x19358, q19359, q19357⟩ := bind_some q19357
        refine ev_index rfl rfl rfl Tryz.underlying22 T45 r19323 q19359 ?_
        intro p19360 c19361 d19362 a19363
        obtain rfl : c19361 = [(.int .u32 x19358)] := d19362
        refine ev (rn_load rfl rfl (run_loadVar1 T45 (a19363.2 0 _ rfl))) ?_
        obtain rfl := Option.some.inj q19357
        exact ⟨(x19358 == 0), (.c rfl (.c rfl .n)), rfl, rfl⟩
      ·
        have q19357 := cond_f q19357 hc
        obtain rfl := Option.some.inj q19357
        exact ⟨false, (.c rfl (.c rfl .n)), rfl, rfl⟩
    ·
      rintro x19355 _ ⟨hy, rfl⟩
      replace hy := hy.symm
      subst hy
      apply go
      refine sel_of (fun hc => ?_) (fun hc => ?_)
      ·
        have q19347 := cond_t q19347 hc
        apply go
        apply go
        apply go
        refine ev0 (rn_len rfl rfl Tryz.underlying22 r19323) ?_
        obtain ⟨x19364, q19365, q19347⟩ := bind_some q19347
        refine ev_slice (kl := .i64) (kh := .i64) rfl rfl rfl rfl Tryz.underlying22 T45 r19323 q19365 ?_
        intro v19366 r19367
        exact ⟨_, (Option.some.inj q19347).symm, v19366, (.c rfl .n), ⟨rfl, r19367⟩⟩
      ·
        have q19347 := cond_f q19347 hc
        apply go
        have q19368 := congrArg some (q19348 _ (Option.some.inj q19347).symm)
        obtain rfl := Option.some.inj q19368
        exact ⟨(x19321, v19322), (.c rfl .n), rfl, rfl, r19323⟩
  ·
    rintro ⟨x19297, v19298⟩ _ ⟨hy, rfl, r19299⟩
    replace hy := hy.symm
    subst hy
    apply go
    apply go
    refine ev_litON (d := (dI .u32)) (xs := ([] : List Int)) (cs := []) hp rfl rfl Tryz.underlying22 T45 (by decide) (by decide) rfl rfl (Elems.nil _ _ _ _) ?_
    intro v19369 e19371 w19370 hp hs o19372
    replace r19299 := r19299.step hs
    obtain ⟨x19373, q19374, h⟩ := bind_some h
    refine ev_append hp (i := 0) rfl rfl rfl rfl Tryz.underlying22 T45 rfl rfl o19372 r19299 q19374 ?_
    rintro v19375 e19376 w19377 hp hs o19378
    apply go
    obtain rfl := Option.some.inj h
    exact ⟨I0, v19375, e19376, rfl, hp, o19378⟩

end Go.Proofs.YthhghkcopfnbiaaGreatDoor

namespace Go.Proofs.YthhghkcopfnbiaaGreatDoor
open Go Go.Proofs.YthhghkcopfnbiaaGreatDoor.Gw Go.RowKit
set_option linter.unusedVariables false
attribute [local irreducible] Ev EvQ EvS EvH
def ref01_Norm_S (f : Int_2 → Option Int_2) : Prop := ∀ (w0 : World) (I0 : Nat → Prop) (x19379 : Int_2) (v19380 : Value) (r19381 : RepS (dI .u32) w0 I0 v19380 x19379.Mag) (hI : ∀ g, I0 g → g < w0.heap.size) (r : Int_2), f x19379 = some r →
    Ret Tryz.prog 28 #[(.agg #[(.bool x19379.Neg), v19380])] w0 fun v w1 => ∃ (I1 : Nat → Prop) (u19382 : Value), v = (.agg #[(.bool r.Neg), u19382]) ∧ Hp ⟨w0, I0, []⟩ I1 [] w1 ∧ RepS (dI .u32) w1 I1 u19382 r.Mag
theorem ref01_Norm_ok (n : Nat) : ref01_Norm_S (ref01_Norm n) := by
  intro w0 I0 x19379 v19380 r19381 hI r h
  unfold ref01_Norm at h
  refine enter Tryz.func28 rfl (Nat.le_of_ble_eq_true rfl) ?_
  have hp : Hp ⟨w0, I0, []⟩ I0 [] w0 := Hp.start hI
  apply go
  apply go
  refine ev_boxI hp rfl rfl ?_
  intro p19385 I19386 w19384 hp hs a19387
  replace r19381 := r19381.step hs
  refine ev_alloc hp rfl T24 ?_
  intro g19388 w19389 hp hs
  replace a19387 := a19387.step hs
  replace r19381 := r19381.step hs
  apply go
  apply go
  refine ev0 (rn_field rfl rfl FO24_1) ?_
  refine ev (rn_load rfl rfl (run_loadVar1 T22 (a19387.2 1 _ rfl))) ?_
  obtain ⟨x19390, q19391, h⟩ := bind_some h
  refine ev_call rfl rfl C47 (((ref01_trim_ok n) _ _  x19379.Mag v19380 r19381 hp.imm _ q19391).mono ?_)
  rintro _ w19392 ⟨I19393, v19394, e19395, hv, hq, o19396⟩
  replace hv := hv.symm
  subst hv
  have hs := hq.st
  have hp := hp.join0 hq
  replace a19387 := a19387.step hs
  replace r19381 := r19381.step hs
  obtain ⟨y19413, q19414, h⟩ := bind_some h
  refine W.cut (γ := (Bool × (List Int) × Value × Ent)) (fun g => [(2, (.pointer (some ⟨g19388, 0, none⟩)))]) (fun g w' => y19413 = ((g.1), (g.2.1)) ∧ Hp ⟨w0, I0, []⟩ I19393 [(g.2.2.2), some (g19388, [(.bool (g.1)), (g.2.2.1)], 24)] w' ∧ OwnS (dI .u32) 45 w' I19393 (g.2.2.1) (g.2.2.2) (g.2.1)) ?_ ?_
  ·
    apply go
    refine ev0 (rn_field rfl rfl FO24_0) ?_
    refine ev (rn_load rfl rfl (run_loadVar1 T4 (a19387.2 0 _ rfl))) ?_
    refine sel_of (fun hc => ?_) (fun hc => ?_)
    ·
      have q19414 := cond_t q19414 hc
      refine ev0 (x_lenO rfl rfl Tryz.underlying22 o19396) ?_
      obtain ⟨A19415, m19416, m19417, rfl⟩ := o19396.isSl
      refine ev0 (fun w => rn_build (cs := [(.bool (decide ((x19390.length : Int) > 0))), (.slice A19415 m19416 m19417)]) rfl rfl T24 PL24 rfl) ?_
      refine ev_storeA hp (i := 1) (off := 0) (vs := [(.bool (decide ((x19390.length : Int) > 0))), (.slice A19415 m19416 m19417)]) rfl rfl rfl rfl T24 rfl (Nat.le_of_ble_eq_true rfl) (ones_cons rfl (ones_cons o19396.one ones_nil)) ?_
      intro w19419 hp hs
      replace o19396 := o19396.step hs
      obtain rfl := Option.some.inj q19414
      exact ⟨((decide ((x19390.length : Int) > 0)), x19390, (.slice A19415 m19416 m19417), e19395), (.c rfl .n), rfl, hp, o19396⟩
    ·
      have q19414 := cond_f q19414 hc
      obtain ⟨A19420, m19421, m19422, rfl⟩ := o19396.isSl
      refine ev0 (fun w => rn_build (cs := [(.bool false), (.slice A19420 m19421 m19422)]) rfl rfl T24 PL24 rfl) ?_
      refine ev_storeA hp (i := 1) (off := 0) (vs := [(.bool false), (.slice A19420 m19421 m19422)]) rfl rfl rfl rfl T24 rfl (Nat.le_of_ble_eq_true rfl) (ones_cons rfl (ones_cons o19396.one ones_nil)) ?_
      intro w19424 hp hs
      replace o19396 := o19396.step hs
      obtain rfl := Option.some.inj q19414
      exact ⟨(false, x19390, (.slice A19420 m19421 m19422), e19395), (.c rfl .n), rfl, hp, o19396⟩
  ·
    rintro ⟨x19407, x19408, v19409, e19410⟩ w19412 ⟨hy, hp, o19411⟩
    replace hy := hy.symm
    subst hy
    apply go
    obtain rfl := Option.some.inj h
    have r19425 := o19411.frz hp (i := 0) rfl
    obtain ⟨hp, hs⟩ := freeze_hp hp (i := 0) rfl
    have hp := hp.sel [1] (by decide)
    refine ⟨_, run_loadVarA T24 rfl (hp.at_ (i := 0) rfl), ?_⟩
    have hp := hp.sel [] (by decide)
    exact ⟨(Ad I19393 e19410), v19409, rfl, hp, r19425⟩

end Go.Proofs.YthhghkcopfnbiaaGreatDoor

namespace Go.Proofs.YthhghkcopfnbiaaGreatDoor
open Go Go.Proofs.YthhghkcopfnbiaaGreatDoor.Gw Go.RowKit
set_option linter.unusedVariables false
attribute [local irreducible] Ev EvQ EvS EvH
def ref01_Of_S (f : Int → Option Int_2) : Prop := ∀ (w0 : World) (I0 : Nat → Prop) (x19426 : Int) (hI : ∀ g, I0 g → g < w0.heap.size) (r : Int_2), f x19426 = some r →
    Ret Tryz.prog 45 #[(.int .i64 x19426)] w0 fun v w1 => ∃ (I1 : Nat → Prop) (u19427 : Value), v = (.agg #[(.bool r.Neg), u19427]) ∧ Hp ⟨w0, I0, []⟩ I1 [] w1 ∧ RepS (dI .u32) w1 I1 u19427 r.Mag
theorem ref01_Of_ok (n : Nat) : ref01_Of_S (ref01_Of n) := by
  intro w0 I0 x19426 hI r h
  unfold ref01_Of at h
  refine enter Tryz.func45 rfl (Nat.le_of_ble_eq_true rfl) ?_
  have hp : Hp ⟨w0, I0, []⟩ I0 [] w0 := Hp.start hI
  apply go
  apply go
  refine ev_alloc hp rfl T24 ?_
  intro g19428 w19429 hp hs
  apply go
  apply go
  refine ev0 (rn_conv rfl rfl U3 Tryz.underlying49) ?_
  obtain ⟨y19431, q19432, h⟩ := bind_some h
  refine W.cut (γ := Int) (fun g => [(0, (.int .i64 x19426)), (2, (.pointer (some ⟨g19428, 0, none⟩))), (3, (.int .u64 (g)))]) (fun g w' => y19431 = (g) ∧ w19429 = w') ?_ ?_
  ·
    apply go
    apply go
    apply go
    refine sel_of (fun hc => ?_) (fun hc => ?_)
    ·
      have q19432 := cond_t q19432 hc
      apply go
      obtain rfl := Option.some.inj q19432
      exact ⟨(IntKind.u64.wrap (0 - (IntKind.u64.wrap x19426))), (.c rfl (.c rfl (.c rfl .n))), rfl, rfl⟩
    ·
      have q19432 := cond_f q19432 hc
      apply go
      obtain rfl := Option.some.inj q19432
      exact ⟨(IntKind.u64.wrap x19426), (.c rfl (.c rfl (.c rfl .n))), rfl, rfl⟩
  ·
    rintro x19430 _ ⟨hy, rfl⟩
    replace hy := hy.symm
    subst hy
    apply go
    apply go
    refine ev0 (rn_conv rfl rfl U49 Tryz.underlying45) ?_
    refine ⟨by decide, ?_⟩
    refine ev0 (rn_conv rfl rfl U49 Tryz.underlying45) ?_
    refine ev_litN (d := (dI .u32)) (xs := [(IntKind.u32.wrap x19430), (IntKind.u32.wrap (x19430.fdiv (2 ^ min (32 : Int).toNat (IntKind.u64).bits)))]) (cs := [(.int .u32 (IntKind.u32.wrap x19430)), (.int .u32 (IntKind.u32.wrap (x19430.fdiv (2 ^ min (32 : Int).toNat (IntKind.u64).bits))))]) hp rfl rfl Tryz.underlying22 T45 (by decide) rfl rfl (Elems.cons (d := (dI .u32)) (xs := _) rfl (Elems.cons (d := (dI .u32)) (xs := _) rfl (Elems.nil _ _ _ _))) ?_
    intro v19433 I19435 w19434 hp hs r19436
    obtain ⟨A19437, m19438, m19439, rfl⟩ := r19436.isSl
    refine ev0 (fun w => rn_build (cs := [(.bool (decide (x19426 < 0))), (.slice A19437 m19438 m19439)]) rfl rfl T24 PL24 rfl) ?_
    obtain ⟨x19441, q19442, h⟩ := bind_some h
    refine ev_call rfl rfl C28 (((ref01_Norm_ok n) _ _  (Int_2.mk (decide (x19426 < 0)) [(IntKind.u32.wrap x19430), (IntKind.u32.wrap (x19430.fdiv (2 ^ min (32 : Int).toNat (IntKind.u64).bits)))]) (.slice A19437 m19438 m19439) r19436 hp.imm _ q19442).mono ?_)
    rintro _ w19443 ⟨I19444, v19445, hv, hq, r19446⟩
    replace hv := hv.symm
    subst hv
    have hs := hq.st
    have hp := hp.join0 hq
    refine ev_storeA hp (i := 0) (off := 0) (vs := [(.bool x19441.Neg), v19445]) rfl rfl rfl rfl T24 rfl (Nat.le_of_ble_eq_true rfl) (ones_cons rfl (ones_cons r19446.one ones_nil)) ?_
    intro w19447 hp hs
    replace r19446 := r19446.step hs
    apply go
    obtain rfl := Option.some.inj h
    refine ⟨_, run_loadVarA T24 rfl (hp.at_ (i := 0) rfl), ?_⟩
    have hp := hp.sel [] (by decide)
    exact ⟨I19444, v19445, rfl, hp, r19446⟩

end Go.Proofs.YthhghkcopfnbiaaGreatDoor

namespace Go.Proofs.YthhghkcopfnbiaaGreatDoor
open Go Go.Proofs.YthhghkcopfnbiaaGreatDoor.Gw Go.RowKit
set_option linter.unusedVariables false
attribute [local irreducible] Ev EvQ EvS EvH vch
def law01_awake_S (f : Option Bool) : Prop := ∀ (w0 : World) (I0 : Nat → Prop) (tb : Tb w0 I0 1 .u64 pow10)  (hI : ∀ g, I0 g → g < w0.heap.size) (r : Bool), f  = some r →
    Ret Tryz.prog 13 #[] w0 fun v w1 => v = (.bool r) ∧ Ch [] w0 w1
theorem law01_awake_ok (n : Nat) : law01_awake_S (law01_awake n) := by
  intro w0 I0 tb hI r h
  unfold law01_awake at h
  refine enter Tryz.func13 rfl (Nat.le_of_ble_eq_true rfl) ?_
  have hp : Hp ⟨w0, I0, []⟩ I0 [] w0 := Hp.start hI
  apply go
  apply go
  apply go
  apply go
  obtain ⟨x22008, q22009, h⟩ := bind_some h
  refine ev_call rfl rfl C18 (((integer_Of_ok n) _ _  (-7) hp.imm _ q22009).mono ?_)
  rintro _ w22010 ⟨I22011, v22012, hv, hq, r22013⟩
  replace hv := hv.symm
  subst hv
  have hs := hq.st
  have hp := hp.join0 hq
  replace tb := tb.step hs
  obtain ⟨x22014, q22015, h⟩ := bind_some h
  refine ev_call rfl rfl C18 (((integer_Of_ok n) _ _  2 hp.imm _ q22015).mono ?_)
  rintro _ w22016 ⟨I22017, v22018, hv, hq, r22019⟩
  replace hv := hv.symm
  subst hv
  have hs := hq.st
  have hp := hp.join0 hq
  replace r22013 := r22013.step hs
  replace tb := tb.step hs
  obtain ⟨⟨x22020, x22021, x22022⟩, q22023, h⟩ := bind_some h
  refine ev_call rfl rfl C24 (((integer_DivMod_ok n) _ _  x22008 v22012 r22013 x22014 v22018 r22019 hp.imm _ q22023).mono ?_)
  rintro _ w22024 ⟨I22025, v22026, v22028, hv, hq, r22027, r22029⟩
  replace hv := hv.symm
  subst hv
  have hs := hq.st
  have hp := hp.join0 hq
  replace tb := tb.step hs
  refine ev_alloc hp rfl T24 ?_
  intro g22030 w22031 hp hs
  replace r22027 := r22027.step hs
  replace r22029 := r22029.step hs
  replace tb := tb.step hs
  refine ev_alloc hp rfl T24 ?_
  intro g22032 w22033 hp hs
  replace r22027 := r22027.step hs
  replace r22029 := r22029.step hs
  replace tb := tb.step hs
  refine ev_storeA hp (i := 1) (off := 0) (vs := [(.bool x22020.Neg), v22026]) rfl rfl rfl rfl T24 rfl (Nat.le_of_ble_eq_true rfl) (ones_cons rfl (ones_cons r22027.one ones_nil)) ?_
  intro w22034 hp hs
  replace r22029 := r22029.step hs
  replace r22027 := r22027.step hs
  replace tb := tb.step hs
  refine ev_storeA hp (i := 0) (off := 0) (vs := [(.bool x22021.Neg), v22028]) rfl rfl rfl rfl T24 rfl (Nat.le_of_ble_eq_true rfl) (ones_cons rfl (ones_cons r22029.one ones_nil)) ?_
  intro w22035 hp hs
  replace r22029 := r22029.step hs
  replace r22027 := r22027.step hs
  replace tb := tb.step hs
  apply go
  apply go
  refine ev (rn_load rfl rfl (run_loadVarA T24 rfl (hp.at_ (i := 1) rfl))) ?_
  refine ev_litN (d := (dI .u32)) (xs := [0]) (cs := [(.int .u32 0)]) hp rfl rfl Tryz.underlying22 T45 (by decide) rfl rfl (Elems.cons (d := (dI .u32)) (xs := _) rfl (Elems.nil _ _ _ _)) ?_
  intro v22036 I22038 w22037 hp hs r22039
  replace r22027 := r22027.step hs
  replace r22029 := r22029.step hs
  replace tb := tb.step hs
  obtain ⟨A22040, m22041, m22042, rfl⟩ := r22039.isSl
  refine ev0 (fun w => rn_build (cs := [(.bool true), (.slice A22040 m22041 m22042)]) rfl rfl T24 PL24 rfl) ?_
  obtain ⟨⟨x22044, x22045, x22046⟩, q22047, h⟩ := bind_some h
  refine ev_call rfl rfl C24 (((integer_DivMod_ok n) _ _  (Int_2.mk x22020.Neg x22020.Mag) v22026 r22027 (Int_2.mk true [0]) (.slice A22040 m22041 m22042) r22039 hp.imm _ q22047).mono ?_)
  rintro _ w22048 ⟨I22049, v22050, v22052, hv, hq, r22051, r22053⟩
  replace hv := hv.symm
  subst hv
  have hs := hq.st
  have hp := hp.join0 hq
  replace r22029 := r22029.step hs
  replace r22027 := r22027.step hs
  replace tb := tb.step hs
  refine ev_alloc hp rfl T24 ?_
  intro g22054 w22055 hp hs
  replace r22051 := r22051.step hs
  replace r22053 := r22053.step hs
  replace r22029 := r22029.step hs
  replace r22027 := r22027.step hs
  replace tb := tb.step hs
  refine ev_alloc hp rfl T24 ?_
  intro g22056 w22057 hp hs
  replace r22051 := r22051.step hs
  replace r22053 := r22053.step hs
  replace r22029 := r22029.step hs
  replace r22027 := r22027.step hs
  replace tb := tb.step hs
  refine ev_storeA hp (i := 1) (off := 0) (vs := [(.bool x22044.Neg), v22050]) rfl rfl rfl rfl T24 rfl (Nat.le_of_ble_eq_true rfl) (ones_cons rfl (ones_cons r22051.one ones_nil)) ?_
  intro w22058 hp hs
  replace r22053 := r22053.step hs
  replace r22051 := r22051.step hs
  replace r22029 := r22029.step hs
  replace r22027 := r22027.step hs
  replace tb := tb.step hs
  refine ev_storeA hp (i := 0) (off := 0) (vs := [(.bool x22045.Neg), v22052]) rfl rfl rfl rfl T24 rfl (Nat.le_of_ble_eq_true rfl) (ones_cons rfl (ones_cons r22053.one ones_nil)) ?_
  intro w22059 hp hs
  replace r22053 := r22053.step hs
  replace r22051 := r22051.step hs
  replace r22029 := r22029.step hs
  replace r22027 := r22027.step hs
  replace tb := tb.step hs
  apply go
  apply go
  refine ev_litN (d := (dI .u32)) (xs := [7, 0]) (cs := [(.int .u32 7), (.int .u32 0)]) hp rfl rfl Tryz.underlying22 T45 (by decide) rfl rfl (Elems.cons (d := (dI .u32)) (xs := _) rfl (Elems.cons (d := (dI .u32)) (xs := _) rfl (Elems.nil _ _ _ _))) ?_
  intro v22060 I22062 w22061 hp hs r22063
  replace r22053 := r22053.step hs
  replace r22051 := r22051.step hs
  replace r22029 := r22029.step hs
  replace r22027 := r22027.step hs
  replace tb := tb.step hs
  obtain ⟨A22064, m22065, m22066, rfl⟩ := r22063.isSl
  refine ev0 (fun w => rn_build (cs := [(.bool true), (.slice A22064 m22065 m22066)]) rfl rfl T24 PL24 rfl) ?_
  obtain ⟨⟨x22068, x22069⟩, q22070, h⟩ := bind_some h
  refine ev_call rfl rfl C15 (((integer_Small_ok n) _ _  (Int_2.mk true [7, 0]) (.slice A22064 m22065 m22066) r22063 hp.imm _ q22070).mono ?_)
  rintro _ w22071 ⟨rfl, hc⟩
  have hs := hp.stp hc
  replace hp := hp.ext hc
  replace r22053 := r22053.step hs
  replace r22051 := r22051.step hs
  replace r22029 := r22029.step hs
  replace r22027 := r22027.step hs
  replace tb := tb.step hs
  apply go
  apply go
  obtain ⟨x22072, q22073, h⟩ := bind_some h
  refine ev_call rfl rfl C18 (((integer_Of_ok n) _ _  24 hp.imm _ q22073).mono ?_)
  rintro _ w22074 ⟨I22075, v22076, hv, hq, r22077⟩
  replace hv := hv.symm
  subst hv
  have hs := hq.st
  have hp := hp.join0 hq
  replace r22053 := r22053.step hs
  replace r22051 := r22051.step hs
  replace r22029 := r22029.step hs
  replace r22027 := r22027.step hs
  replace tb := tb.step hs
  obtain ⟨⟨x22078, x22079⟩, q22080, h⟩ := bind_some h
  refine ev_call rfl rfl C33 (((integer_Sqrt_ok n) _ _  x22072 v22076 r22077 hp.imm _ q22080).mono ?_)
  rintro _ w22081 ⟨I22082, v22083, hv, hq, r22084⟩
  replace hv := hv.symm
  subst hv
  have hs := hq.st
  have hp := hp.join0 hq
  replace r22053 := r22053.step hs
  replace r22051 := r22051.step hs
  replace r22029 := r22029.step hs
  replace r22027 := r22027.step hs
  replace tb := tb.step hs
  refine ev_alloc hp rfl T24 ?_
  intro g22085 w22086 hp hs
  replace r22084 := r22084.step hs
  replace r22053 := r22053.step hs
  replace r22051 := r22051.step hs
  replace r22029 := r22029.step hs
  replace r22027 := r22027.step hs
  replace tb := tb.step hs
  refine ev_storeA hp (i := 0) (off := 0) (vs := [(.bool x22078.Neg), v22083]) rfl rfl rfl rfl T24 rfl (Nat.le_of_ble_eq_true rfl) (ones_cons rfl (ones_cons r22084.one ones_nil)) ?_
  intro w22087 hp hs
  replace r22084 := r22084.step hs
  replace r22053 := r22053.step hs
  replace r22051 := r22051.step hs
  replace r22029 := r22029.step hs
  replace r22027 := r22027.step hs
  replace tb := tb.step hs
  apply go
  apply go
  obtain ⟨⟨x22088, x22089⟩, q22090, h⟩ := bind_some h
  refine ev_call rfl rfl C26 (((integer_Parse_ok n) _ _ tb (ByteArray.mk #[45, 48]) hp.imm _ q22090).mono ?_)
  rintro _ w22091 ⟨I22092, v22093, hv, hq, r22094⟩
  replace hv := hv.symm
  subst hv
  have hs := hq.st
  have hp := hp.join0 hq
  replace r22084 := r22084.step hs
  replace r22053 := r22053.step hs
  replace r22051 := r22051.step hs
  replace r22029 := r22029.step hs
  replace r22027 := r22027.step hs
  replace tb := tb.step hs
  refine ev_alloc hp rfl T24 ?_
  intro g22095 w22096 hp hs
  replace r22094 := r22094.step hs
  replace r22084 := r22084.step hs
  replace r22053 := r22053.step hs
  replace r22051 := r22051.step hs
  replace r22029 := r22029.step hs
  replace r22027 := r22027.step hs
  replace tb := tb.step hs
  refine ev_storeA hp (i := 0) (off := 0) (vs := [(.bool x22088.Neg), v22093]) rfl rfl rfl rfl T24 rfl (Nat.le_of_ble_eq_true rfl) (ones_cons rfl (ones_cons r22094.one ones_nil)) ?_
  intro w22097 hp hs
  replace r22094 := r22094.step hs
  replace r22084 := r22084.step hs
  replace r22053 := r22053.step hs
  replace r22051 := r22051.step hs
  replace r22029 := r22029.step hs
  replace r22027 := r22027.step hs
  replace tb := tb.step hs
  obtain ⟨y22273, q22274, h⟩ := bind_some h
  refine W.cut (γ := (Bool × (Nat → Prop))) (fun g => [(0, (.bool (g.1)))]) (fun g w' => y22273 = (g.1) ∧ Hp ⟨w0, I0, []⟩ (g.2) [] w' ∧ Tb w' (g.2) 1 .u64 pow10) ?_ ?_
  ·
    have hs := hp.stp (Ch.drew [] w22097)
    have hp := hp.drew
    replace r22094 := r22094.step hs
    replace r22084 := r22084.step hs
    replace r22053 := r22053.step hs
    replace r22051 := r22051.step hs
    replace r22029 := r22029.step hs
    replace r22027 := r22027.step hs
    replace tb := tb.step hs
    refine W.heldT [(0, true), (1, false), (2, false), (3, true), (4, true), (5, false), (6, false), (7, true), (8, true), (9, true), (10, true), (11, true), (12, true), (13, true), (14, true), (15, true), (16, true), (17, true), (18, true), (19, true), (20, true), (21, true), (22, true), (23, true), (24, true), (25, false), (26, false), (27, true), (28, true), (29, true), (30, true), (31, true), (32, true), (33, true), (34, true), (35, true), (36, true), (37, true), (38, true), (39, true), (40, true), (41, true), (42, true), (43, false), (44, true), (45, false), (46, true), (47, true), (48, true), (49, false), (50, false), (51, false), (52, false), (53, false), (54, true), (55, true), (56, false), (57, false), (58, true), (59, true), (60, true)] (fun x => Stp I22092 w22097.drew I22092 x ∧ OwnK [(g22030, [(.bool x22020.Neg), v22026], 24), (g22032, [(.bool x22021.Neg), v22028], 24), (g22085, [(.bool x22078.Neg), v22083], 24), (g22095, [(.bool x22088.Neg), v22093], 24)] x) MX (by kernel_rfl) ⟨Stp.refl _ _, (OwnK.cons (hp.own 5 _ _ _ rfl).1 (OwnK.cons (hp.own 4 _ _ _ rfl).1 (OwnK.cons (hp.own 1 _ _ _ rfl).1 (OwnK.cons (hp.own 0 _ _ _ rfl).1 OwnK.nil))))⟩ ?_
    have hz := Stp.refl I22092 w22097.drew
    intro ops hops
    have e0 : nthO ops 0 = some _ := (hops 0).trans rfl
    have e1 : nthO ops 1 = some _ := (hops 1).trans rfl
    have e2 : nthO ops 2 = some _ := (hops 2).trans rfl
    have e3 : nthO ops 3 = some _ := (hops 3).trans rfl
    have e4 : nthO ops 4 = some _ := (hops 4).trans rfl
    have e5 : nthO ops 5 = some _ := (hops 5).trans rfl
    have e6 : nthO ops 6 = some _ := (hops 6).trans rfl
    have e7 : nthO ops 7 = some _ := (hops 7).trans rfl
    have e8 : nthO ops 8 = some _ := (hops 8).trans rfl
    have e9 : nthO ops 9 = some _ := (hops 9).trans rfl
    have e10 : nthO ops 10 = some _ := (hops 10).trans rfl
    have e11 : nthO ops 11 = some _ := (hops 11).trans rfl
    have e12 : nthO ops 12 = some _ := (hops 12).trans rfl
    have e13 : nthO ops 13 = some _ := (hops 13).trans rfl
    have e14 : nthO ops 14 = some _ := (hops 14).trans rfl
    have e15 : nthO ops 15 = some _ := (hops 15).trans rfl
    have e16 : nthO ops 16 = some _ := (hops 16).trans rfl
    have e17 : nthO ops 17 = some _ := (hops 17).trans rfl
    have e18 : nthO ops 18 = some _ := (hops 18).trans rfl
    have e19 : nthO ops 19 = some _ := (hops 19).trans rfl
    have e20 : nthO ops 20 = some _ := (hops 20).trans rfl
    have e21 : nthO ops 21 = some _ := (hops 21).trans rfl
    have e22 : nthO ops 22 = some _ := (hops 22).trans rfl
    have e23 : nthO ops 23 = some _ := (hops 23).trans rfl
    have e24 : nthO ops 24 = some _ := (hops 24).trans rfl
    have e25 : nthO ops 25 = some _ := (hops 25).trans rfl
    have e26 : nthO ops 26 = some _ := (hops 26).trans rfl
    have e27 : nthO ops 27 = some _ := (hops 27).trans rfl
    have e28 : nthO ops 28 = some _ := (hops 28).trans rfl
    have e29 : nthO ops 29 = some _ := (hops 29).trans rfl
    have e30 : nthO ops 30 = some _ := (hops 30).trans rfl
    have e31 : nthO ops 31 = some _ := (hops 31).trans rfl
    have e32 : nthO ops 32 = some _ := (hops 32).trans rfl
    have e33 : nthO ops 33 = some _ := (hops 33).trans rfl
    have e34 : nthO ops 34 = some _ := (hops 34).trans rfl
    have e35 : nthO ops 35 = some _ := (hops 35).trans rfl
    have e36 : nthO ops 36 = some _ := (hops 36).trans rfl
    have e37 : nthO ops 37 = some _ := (hops 37).trans rfl
    have e38 : nthO ops 38 = some _ := (hops 38).trans rfl
    have e39 : nthO ops 39 = some _ := (hops 39).trans rfl
    have e40 : nthO ops 40 = some _ := (hops 40).trans rfl
    have e41 : nthO ops 41 = some _ := (hops 41).trans rfl
    have e42 : nthO ops 42 = some _ := (hops 42).trans rfl
    have e43 : nthO ops 43 = some _ := (hops 43).trans rfl
    have e44 : nthO ops 44 = some _ := (hops 44).trans rfl
    have e45 : nthO ops 45 = some _ := (hops 45).trans rfl
    have e46 : nthO ops 46 = some _ := (hops 46).trans rfl
    have e47 : nthO ops 47 = some _ := (hops 47).trans rfl
    have e48 : nthO ops 48 = some _ := (hops 48).trans rfl
    have e49 : nthO ops 49 = some _ := (hops 49).trans rfl
    have e50 : nthO ops 50 = some _ := (hops 50).trans rfl
    have e51 : nthO ops 51 = some _ := (hops 51).trans rfl
    have e52 : nthO ops 52 = some _ := (hops 52).trans rfl
    have e53 : nthO ops 53 = some _ := (hops 53).trans rfl
    have e54 : nthO ops 54 = some _ := (hops 54).trans rfl
    have e55 : nthO ops 55 = some _ := (hops 55).trans rfl
    have e56 : nthO ops 56 = some _ := (hops 56).trans rfl
    have e57 : nthO ops 57 = some _ := (hops 57).trans rfl
    have e58 : nthO ops 58 = some _ := (hops 58).trans rfl
    have e59 : nthO ops 59 = some _ := (hops 59).trans rfl
    have e60 : nthO ops 60 = some _ := (hops 60).trans rfl
    clear hops
    refine vch_q e0 rfl ?_
    refine evh (fun w' hw => rn_load rfl rfl (run_loadVarA T24 rfl (hw.2.at_ (i := 0) rfl))) ?_
    refine vch_l e1 rfl ?_
    obtain ⟨x22361, q22362, q22274⟩ := bind_some q22274
    refine ev_call rfl rfl C45 (((ref01_Of_ok n) _ _  (-4) hp.imm _ q22362).mono ?_)
    rintro _ w22363 ⟨I22364, v22365, hv, hq, r22366⟩
    replace hv := hv.symm
    subst hv
    have hs := hq.st
    have hp := hp.join0 hq
    replace hz := hz.trans hs
    replace r22027 := r22027.step hs
    replace r22094 := r22094.step hs
    replace r22084 := r22084.step hs
    replace r22053 := r22053.step hs
    replace r22051 := r22051.step hs
    replace r22029 := r22029.step hs
    replace tb := tb.step hs
    refine ⟨fun x => Stp I22364 w22363 I22364 x ∧ OwnK [(g22030, [(.bool x22020.Neg), v22026], 24), (g22032, [(.bool x22021.Neg), v22028], 24), (g22085, [(.bool x22078.Neg), v22083], 24), (g22095, [(.bool x22088.Neg), v22093], 24)] x, ⟨Stp.refl _ _, (OwnK.cons (hp.own 5 _ _ _ rfl).1 (OwnK.cons (hp.own 4 _ _ _ rfl).1 (OwnK.cons (hp.own 1 _ _ _ rfl).1 (OwnK.cons (hp.own 0 _ _ _ rfl).1 OwnK.nil))))⟩, fun x hx => ⟨hz.held hx.1, hx.2⟩, ?_⟩
    have hz := Stp.refl I22364 w22363
    refine vch_l e2 rfl ?_
    obtain ⟨x22367, q22368, q22274⟩ := bind_some q22274
    refine ev_call rfl rfl C21 (((ref01_Same_ok n) _ _  (Int_2.mk x22020.Neg x22020.Mag) v22026 r22027 x22361 v22365 r22366 hp.imm _ q22368).mono ?_)
    rintro _ w22369 ⟨rfl, hc⟩
    have hs := hp.stp hc
    replace hp := hp.ext hc
    replace hz := hz.trans hs
    replace r22094 := r22094.step hs
    replace r22084 := r22084.step hs
    replace r22053 := r22053.step hs
    replace r22051 := r22051.step hs
    replace r22029 := r22029.step hs
    replace r22027 := r22027.step hs
    replace tb := tb.step hs
    refine ⟨fun x => Stp I22364 w22369 I22364 x ∧ OwnK [(g22030, [(.bool x22020.Neg), v22026], 24), (g22032, [(.bool x22021.Neg), v22028], 24), (g22085, [(.bool x22078.Neg), v22083], 24), (g22095, [(.bool x22088.Neg), v22093], 24)] x, ⟨Stp.refl _ _, (OwnK.cons (hp.own 5 _ _ _ rfl).1 (OwnK.cons (hp.own 4 _ _ _ rfl).1 (OwnK.cons (hp.own 1 _ _ _ rfl).1 (OwnK.cons (hp.own 0 _ _ _ rfl).1 OwnK.nil))))⟩, fun x hx => ⟨hz.held hx.1, hx.2⟩, ?_⟩
    have hz := Stp.refl I22364 w22369
    refine vch_q e3 rfl ?_
    obtain ⟨q22370, _, q22274⟩ := need_some q22274
    refine vch_qt e4 rfl e3 rfl rfl q22370 ?_
    refine evh (fun w' hw => rn_load rfl rfl (run_loadVarA T24 rfl (hw.2.at_ (i := 1) rfl))) ?_
    refine vch_lt e5 rfl e3 rfl rfl rfl ?_
    obtain ⟨x22371, q22372, q22274⟩ := bind_some q22274
    refine ev_call rfl rfl C45 (((ref01_Of_ok n) _ _  1 hp.imm _ q22372).mono ?_)
    rintro _ w22373 ⟨I22374, v22375, hv, hq, r22376⟩
    replace hv := hv.symm
    subst hv
    have hs := hq.st
    have hp := hp.join0 hq
    replace hz := hz.trans hs
    replace r22029 := r22029.step hs
    replace r22094 := r22094.step hs
    replace r22084 := r22084.step hs
    replace r22053 := r22053.step hs
    replace r22051 := r22051.step hs
    replace r22027 := r22027.step hs
    replace tb := tb.step hs
    refine ⟨fun x => Stp I22374 w22373 I22374 x ∧ OwnK [(g22030, [(.bool x22020.Neg), v22026], 24), (g22032, [(.bool x22021.Neg), v22028], 24), (g22085, [(.bool x22078.Neg), v22083], 24), (g22095, [(.bool x22088.Neg), v22093], 24)] x, ⟨Stp.refl _ _, (OwnK.cons (hp.own 5 _ _ _ rfl).1 (OwnK.cons (hp.own 4 _ _ _ rfl).1 (OwnK.cons (hp.own 1 _ _ _ rfl).1 (OwnK.cons (hp.own 0 _ _ _ rfl).1 OwnK.nil))))⟩, fun x hx => ⟨hz.held hx.1, hx.2⟩, ?_⟩
    have hz := Stp.refl I22374 w22373
    refine vch_lt e6 rfl e3 rfl rfl rfl ?_
    obtain ⟨x22377, q22378, q22274⟩ := bind_some q22274
    refine ev_call rfl rfl C21 (((ref01_Same_ok n) _ _  (Int_2.mk x22021.Neg x22021.Mag) v22028 r22029 x22371 v22375 r22376 hp.imm _ q22378).mono ?_)
    rintro _ w22379 ⟨rfl, hc⟩
    have hs := hp.stp hc
    replace hp := hp.ext hc
    replace hz := hz.trans hs
    replace r22094 := r22094.step hs
    replace r22084 := r22084.step hs
    replace r22053 := r22053.step hs
    replace r22051 := r22051.step hs
    replace r22029 := r22029.step hs
    replace r22027 := r22027.step hs
    replace tb := tb.step hs
    refine ⟨fun x => Stp I22374 w22379 I22374 x ∧ OwnK [(g22030, [(.bool x22020.Neg), v22026], 24), (g22032, [(.bool x22021.Neg), v22028], 24), (g22085, [(.bool x22078.Neg), v22083], 24), (g22095, [(.bool x22088.Neg), v22093], 24)] x, ⟨Stp.refl _ _, (OwnK.cons (hp.own 5 _ _ _ rfl).1 (OwnK.cons (hp.own 4 _ _ _ rfl).1 (OwnK.cons (hp.own 1 _ _ _ rfl).1 (OwnK.cons (hp.own 0 _ _ _ rfl).1 OwnK.nil))))⟩, fun x hx => ⟨hz.held hx.1, hx.2⟩, ?_⟩
    have hz := Stp.refl I22374 w22379
    refine vch_q e7 rfl ?_
    refine vch_q e8 rfl ?_
    obtain ⟨q22380, _, q22274⟩ := need_some q22274
    refine vch_qt e9 rfl e8 rfl rfl q22380 ?_
    refine vch_qt e10 rfl e8 rfl rfl rfl ?_
    refine vch_q e11 rfl ?_
    refine vch_q e12 rfl ?_
    obtain ⟨q22381, _, q22274⟩ := need_some q22274
    refine vch_qt e13 rfl e12 rfl rfl q22381 ?_
    refine vch_qt e14 rfl e12 rfl rfl rfl ?_
    refine vch_q e15 rfl ?_
    refine vch_q e16 rfl ?_
    obtain ⟨q22382, _, q22274⟩ := need_some q22274
    refine vch_qt e17 rfl e16 rfl rfl q22382 ?_
    refine vch_qt e18 rfl e16 rfl rfl rfl ?_
    refine vch_q e19 rfl ?_
    refine vch_q e20 rfl ?_
    obtain ⟨q22383, _, q22274⟩ := need_some q22274
    refine vch_qt e21 rfl e20 rfl rfl q22383 ?_
    refine vch_q e22 rfl ?_
    refine vch_q e23 rfl ?_
    obtain ⟨q22384, _, q22274⟩ := need_some q22274
    refine vch_qt e24 rfl e23 rfl rfl q22384 ?_
    refine evh (fun w' hw => rn_load rfl rfl (run_loadVarA T24 rfl (hw.2.at_ (i := 2) rfl))) ?_
    refine vch_lt e25 rfl e23 rfl rfl rfl ?_
    obtain ⟨x22385, q22386, q22274⟩ := bind_some q22274
    refine ev_call rfl rfl C45 (((ref01_Of_ok n) _ _  4 hp.imm _ q22386).mono ?_)
    rintro _ w22387 ⟨I22388, v22389, hv, hq, r22390⟩
    replace hv := hv.symm
    subst hv
    have hs := hq.st
    have hp := hp.join0 hq
    replace hz := hz.trans hs
    replace r22084 := r22084.step hs
    replace r22094 := r22094.step hs
    replace r22053 := r22053.step hs
    replace r22051 := r22051.step hs
    replace r22029 := r22029.step hs
    replace r22027 := r22027.step hs
    replace tb := tb.step hs
    refine ⟨fun x => Stp I22388 w22387 I22388 x ∧ OwnK [(g22030, [(.bool x22020.Neg), v22026], 24), (g22032, [(.bool x22021.Neg), v22028], 24), (g22085, [(.bool x22078.Neg), v22083], 24), (g22095, [(.bool x22088.Neg), v22093], 24)] x, ⟨Stp.refl _ _, (OwnK.cons (hp.own 5 _ _ _ rfl).1 (OwnK.cons (hp.own 4 _ _ _ rfl).1 (OwnK.cons (hp.own 1 _ _ _ rfl).1 (OwnK.cons (hp.own 0 _ _ _ rfl).1 OwnK.nil))))⟩, fun x hx => ⟨hz.held hx.1, hx.2⟩, ?_⟩
    have hz := Stp.refl I22388 w22387
    refine vch_lt e26 rfl e23 rfl rfl rfl ?_
    obtain ⟨x22391, q22392, q22274⟩ := bind_some q22274
    refine ev_call rfl rfl C21 (((ref01_Same_ok n) _ _  (Int_2.mk x22078.Neg x22078.Mag) v22083 r22084 x22385 v22389 r22390 hp.imm _ q22392).mono ?_)
    rintro _ w22393 ⟨rfl, hc⟩
    have hs := hp.stp hc
    replace hp := hp.ext hc
    replace hz := hz.trans hs
    replace r22094 := r22094.step hs
    replace r22084 := r22084.step hs
    replace r22053 := r22053.step hs
    replace r22051 := r22051.step hs
    replace r22029 := r22029.step hs
    replace r22027 := r22027.step hs
    replace tb := tb.step hs
    refine ⟨fun x => Stp I22388 w22393 I22388 x ∧ OwnK [(g22030, [(.bool x22020.Neg), v22026], 24), (g22032, [(.bool x22021.Neg), v22028], 24), (g22085, [(.bool x22078.Neg), v22083], 24), (g22095, [(.bool x22088.Neg), v22093], 24)] x, ⟨Stp.refl _ _, (OwnK.cons (hp.own 5 _ _ _ rfl).1 (OwnK.cons (hp.own 4 _ _ _ rfl).1 (OwnK.cons (hp.own 1 _ _ _ rfl).1 (OwnK.cons (hp.own 0 _ _ _ rfl).1 OwnK.nil))))⟩, fun x hx => ⟨hz.held hx.1, hx.2⟩, ?_⟩
    have hz := Stp.refl I22388 w22393
    refine vch_q e27 rfl ?_
    refine vch_q e28 rfl ?_
    obtain ⟨q22394, _, q22274⟩ := need_some q22274
    refine vch_qt e29 rfl e28 rfl rfl q22394 ?_
    refine vch_qt e30 rfl e28 rfl rfl rfl ?_
    refine vch_q e31 rfl ?_
    refine vch_q e32 rfl ?_
    obtain ⟨q22395, _, q22274⟩ := need_some q22274
    refine vch_qt e33 rfl e32 rfl rfl q22395 ?_
    refine vch_qt e34 rfl e32 rfl rfl rfl ?_
    refine vch_q e35 rfl ?_
    refine vch_q e36 rfl ?_
    obtain ⟨q22396, _, q22274⟩ := need_some q22274
    refine vch_qt e37 rfl e36 rfl rfl q22396 ?_
    refine evh0 (rn_field rfl rfl FO24_1) ?_
    refine vch_qt e38 rfl e36 rfl rfl rfl ?_
    refine evh (fun w' hw => rn_load rfl rfl (run_loadVar1 T22 (hw.2.cell (i := 3) (off := 1) rfl rfl))) ?_
    refine vch_qt e39 rfl e36 rfl rfl rfl ?_
    refine evh0 (rn_len rfl rfl Tryz.underlying22 r22094) ?_
    refine vch_qt e40 rfl e36 rfl rfl rfl ?_
    refine vch_q e41 rfl ?_
    refine vch_q e42 rfl ?_
    obtain ⟨q22397, _, q22274⟩ := need_some q22274
    refine vch_lt e43 rfl e42 rfl rfl q22397 ?_
    refine ev_litN (d := (dI .u32)) (xs := [0, 1]) (cs := [(.int .u32 0), (.int .u32 1)]) hp rfl rfl Tryz.underlying22 T45 (by decide) rfl rfl (Elems.cons (d := (dI .u32)) (xs := _) rfl (Elems.cons (d := (dI .u32)) (xs := _) rfl (Elems.nil _ _ _ _))) ?_
    intro v22398 I22400 w22399 hp hs r22401
    replace hz := hz.trans hs
    replace r22094 := r22094.step hs
    replace r22084 := r22084.step hs
    replace r22053 := r22053.step hs
    replace r22051 := r22051.step hs
    replace r22029 := r22029.step hs
    replace r22027 := r22027.step hs
    replace tb := tb.step hs
    refine ⟨fun x => Stp I22400 w22399 I22400 x ∧ OwnK [(g22030, [(.bool x22020.Neg), v22026], 24), (g22032, [(.bool x22021.Neg), v22028], 24), (g22085, [(.bool x22078.Neg), v22083], 24), (g22095, [(.bool x22088.Neg), v22093], 24)] x, ⟨Stp.refl _ _, (OwnK.cons (hp.own 5 _ _ _ rfl).1 (OwnK.cons (hp.own 4 _ _ _ rfl).1 (OwnK.cons (hp.own 1 _ _ _ rfl).1 (OwnK.cons (hp.own 0 _ _ _ rfl).1 OwnK.nil))))⟩, fun x hx => ⟨hz.held hx.1, hx.2⟩, ?_⟩
    have hz := Stp.refl I22400 w22399
    refine vch_qt e44 rfl e42 rfl rfl rfl ?_
    obtain ⟨A22402, m22403, m22404, rfl⟩ := r22401.isSl
    refine evh0 (fun w => rn_build (cs := [(.bool true), (.slice A22402 m22403 m22404)]) rfl rfl T24 PL24 rfl) ?_
    refine vch_lt e45 rfl e42 rfl rfl rfl ?_
    obtain ⟨x22406, q22407, q22274⟩ := bind_some q22274
    refine ev_call rfl rfl C25 (((integer_Text_ok n) _ _ tb (Int_2.mk true [0, 1]) (.slice A22402 m22403 m22404) r22401 hp.imm _ q22407).mono ?_)
    rintro _ w22408 ⟨rfl, hc⟩
    have hs := hp.stp hc
    replace hp := hp.ext hc
    replace hz := hz.trans hs
    replace r22094 := r22094.step hs
    replace r22084 := r22084.step hs
    replace r22053 := r22053.step hs
    replace r22051 := r22051.step hs
    replace r22029 := r22029.step hs
    replace r22027 := r22027.step hs
    replace tb := tb.step hs
    refine ⟨fun x => Stp I22400 w22408 I22400 x ∧ OwnK [(g22030, [(.bool x22020.Neg), v22026], 24), (g22032, [(.bool x22021.Neg), v22028], 24), (g22085, [(.bool x22078.Neg), v22083], 24), (g22095, [(.bool x22088.Neg), v22093], 24)] x, ⟨Stp.refl _ _, (OwnK.cons (hp.own 5 _ _ _ rfl).1 (OwnK.cons (hp.own 4 _ _ _ rfl).1 (OwnK.cons (hp.own 1 _ _ _ rfl).1 (OwnK.cons (hp.own 0 _ _ _ rfl).1 OwnK.nil))))⟩, fun x hx => ⟨hz.held hx.1, hx.2⟩, ?_⟩
    have hz := Stp.refl I22400 w22408
    refine vch_qt e46 rfl e42 rfl rfl rfl ?_
    refine vch_q e47 rfl ?_
    refine vch_q e48 rfl ?_
    obtain ⟨q22409, _, q22274⟩ := need_some q22274
    refine vch_lt e49 rfl e48 rfl rfl q22409 ?_
    obtain ⟨x22410, q22411, q22274⟩ := bind_some q22274
    refine ev_call rfl rfl C18 (((integer_Of_ok n) _ _  (-12) hp.imm _ q22411).mono ?_)
    rintro _ w22412 ⟨I22413, v22414, hv, hq, r22415⟩
    replace hv := hv.symm
    subst hv
    have hs := hq.st
    have hp := hp.join0 hq
    replace hz := hz.trans hs
    replace r22094 := r22094.step hs
    replace r22084 := r22084.step hs
    replace r22053 := r22053.step hs
    replace r22051 := r22051.step hs
    replace r22029 := r22029.step hs
    replace r22027 := r22027.step hs
    replace tb := tb.step hs
    refine ⟨fun x => Stp I22413 w22412 I22413 x ∧ OwnK [(g22030, [(.bool x22020.Neg), v22026], 24), (g22032, [(.bool x22021.Neg), v22028], 24), (g22085, [(.bool x22078.Neg), v22083], 24), (g22095, [(.bool x22088.Neg), v22093], 24)] x, ⟨Stp.refl _ _, (OwnK.cons (hp.own 5 _ _ _ rfl).1 (OwnK.cons (hp.own 4 _ _ _ rfl).1 (OwnK.cons (hp.own 1 _ _ _ rfl).1 (OwnK.cons (hp.own 0 _ _ _ rfl).1 OwnK.nil))))⟩, fun x hx => ⟨hz.held hx.1, hx.2⟩, ?_⟩
    have hz := Stp.refl I22413 w22412
    refine vch_lt e50 rfl e48 rfl rfl rfl ?_
    obtain ⟨x22416, q22417, q22274⟩ := bind_some q22274
    refine ev_call rfl rfl C18 (((integer_Of_ok n) _ _  18 hp.imm _ q22417).mono ?_)
    rintro _ w22418 ⟨I22419, v22420, hv, hq, r22421⟩
    replace hv := hv.symm
    subst hv
    have hs := hq.st
    have hp := hp.join0 hq
    replace hz := hz.trans hs
    replace r22415 := r22415.step hs
    replace r22094 := r22094.step hs
    replace r22084 := r22084.step hs
    replace r22053 := r22053.step hs
    replace r22051 := r22051.step hs
    replace r22029 := r22029.step hs
    replace r22027 := r22027.step hs
    replace tb := tb.step hs
    refine ⟨fun x => Stp I22419 w22418 I22419 x ∧ OwnK [(g22030, [(.bool x22020.Neg), v22026], 24), (g22032, [(.bool x22021.Neg), v22028], 24), (g22085, [(.bool x22078.Neg), v22083], 24), (g22095, [(.bool x22088.Neg), v22093], 24)] x, ⟨Stp.refl _ _, (OwnK.cons (hp.own 5 _ _ _ rfl).1 (OwnK.cons (hp.own 4 _ _ _ rfl).1 (OwnK.cons (hp.own 1 _ _ _ rfl).1 (OwnK.cons (hp.own 0 _ _ _ rfl).1 OwnK.nil))))⟩, fun x hx => ⟨hz.held hx.1, hx.2⟩, ?_⟩
    have hz := Stp.refl I22419 w22418
    refine vch_lt e51 rfl e48 rfl rfl rfl ?_
    obtain ⟨x22422, q22423, q22274⟩ := bind_some q22274
    refine ev_call rfl rfl C20 (((integer_Gcd_ok n) _ _  x22410 v22414 r22415 x22416 v22420 r22421 hp.imm _ q22423).mono ?_)
    rintro _ w22424 ⟨I22425, v22426, hv, hq, r22427⟩
    replace hv := hv.symm
    subst hv
    have hs := hq.st
    have hp := hp.join0 hq
    replace hz := hz.trans hs
    replace r22094 := r22094.step hs
    replace r22084 := r22084.step hs
    replace r22053 := r22053.step hs
    replace r22051 := r22051.step hs
    replace r22029 := r22029.step hs
    replace r22027 := r22027.step hs
    replace tb := tb.step hs
    refine ⟨fun x => Stp I22425 w22424 I22425 x ∧ OwnK [(g22030, [(.bool x22020.Neg), v22026], 24), (g22032, [(.bool x22021.Neg), v22028], 24), (g22085, [(.bool x22078.Neg), v22083], 24), (g22095, [(.bool x22088.Neg), v22093], 24)] x, ⟨Stp.refl _ _, (OwnK.cons (hp.own 5 _ _ _ rfl).1 (OwnK.cons (hp.own 4 _ _ _ rfl).1 (OwnK.cons (hp.own 1 _ _ _ rfl).1 (OwnK.cons (hp.own 0 _ _ _ rfl).1 OwnK.nil))))⟩, fun x hx => ⟨hz.held hx.1, hx.2⟩, ?_⟩
    have hz := Stp.refl I22425 w22424
    refine vch_lt e52 rfl e48 rfl rfl rfl ?_
    obtain ⟨x22428, q22429, q22274⟩ := bind_some q22274
    refine ev_call rfl rfl C45 (((ref01_Of_ok n) _ _  6 hp.imm _ q22429).mono ?_)
    rintro _ w22430 ⟨I22431, v22432, hv, hq, r22433⟩
    replace hv := hv.symm
    subst hv
    have hs := hq.st
    have hp := hp.join0 hq
    replace hz := hz.trans hs
    replace r22427 := r22427.step hs
    replace r22094 := r22094.step hs
    replace r22084 := r22084.step hs
    replace r22053 := r22053.step hs
    replace r22051 := r22051.step hs
    replace r22029 := r22029.step hs
    replace r22027 := r22027.step hs
    replace tb := tb.step hs
    refine ⟨fun x => Stp I22431 w22430 I22431 x ∧ OwnK [(g22030, [(.bool x22020.Neg), v22026], 24), (g22032, [(.bool x22021.Neg), v22028], 24), (g22085, [(.bool x22078.Neg), v22083], 24), (g22095, [(.bool x22088.Neg), v22093], 24)] x, ⟨Stp.refl _ _, (OwnK.cons (hp.own 5 _ _ _ rfl).1 (OwnK.cons (hp.own 4 _ _ _ rfl).1 (OwnK.cons (hp.own 1 _ _ _ rfl).1 (OwnK.cons (hp.own 0 _ _ _ rfl).1 OwnK.nil))))⟩, fun x hx => ⟨hz.held hx.1, hx.2⟩, ?_⟩
    have hz := Stp.refl I22431 w22430
    refine vch_lt e53 rfl e48 rfl rfl rfl ?_
    obtain ⟨x22434, q22435, q22274⟩ := bind_some q22274
    refine ev_call rfl rfl C21 (((ref01_Same_ok n) _ _  x22422 v22426 r22427 x22428 v22432 r22433 hp.imm _ q22435).mono ?_)
    rintro _ w22436 ⟨rfl, hc⟩
    have hs := hp.stp hc
    replace hp := hp.ext hc
    replace hz := hz.trans hs
    replace r22094 := r22094.step hs
    replace r22084 := r22084.step hs
    replace r22053 := r22053.step hs
    replace r22051 := r22051.step hs
    replace r22029 := r22029.step hs
    replace r22027 := r22027.step hs
    replace tb := tb.step hs
    refine ⟨fun x => Stp I22431 w22436 I22431 x ∧ OwnK [(g22030, [(.bool x22020.Neg), v22026], 24), (g22032, [(.bool x22021.Neg), v22028], 24), (g22085, [(.bool x22078.Neg), v22083], 24), (g22095, [(.bool x22088.Neg), v22093], 24)] x, ⟨Stp.refl _ _, (OwnK.cons (hp.own 5 _ _ _ rfl).1 (OwnK.cons (hp.own 4 _ _ _ rfl).1 (OwnK.cons (hp.own 1 _ _ _ rfl).1 (OwnK.cons (hp.own 0 _ _ _ rfl).1 OwnK.nil))))⟩, fun x hx => ⟨hz.held hx.1, hx.2⟩, ?_⟩
    have hz := Stp.refl I22431 w22436
    refine vch_q e54 rfl ?_
    refine vch_q e55 rfl ?_
    obtain ⟨q22437, _, q22274⟩ := need_some q22274
    refine vch_lt e56 rfl e55 rfl rfl q22437 ?_
    obtain ⟨x22438, q22439, q22274⟩ := bind_some q22274
    refine ev_call rfl rfl C18 (((integer_Of_ok n) _ _  (-8) hp.imm _ q22439).mono ?_)
    rintro _ w22440 ⟨I22441, v22442, hv, hq, r22443⟩
    replace hv := hv.symm
    subst hv
    have hs := hq.st
    have hp := hp.join0 hq
    replace hz := hz.trans hs
    replace r22094 := r22094.step hs
    replace r22084 := r22084.step hs
    replace r22053 := r22053.step hs
    replace r22051 := r22051.step hs
    replace r22029 := r22029.step hs
    replace r22027 := r22027.step hs
    replace tb := tb.step hs
    refine ⟨fun x => Stp I22441 w22440 I22441 x ∧ OwnK [(g22030, [(.bool x22020.Neg), v22026], 24), (g22032, [(.bool x22021.Neg), v22028], 24), (g22085, [(.bool x22078.Neg), v22083], 24), (g22095, [(.bool x22088.Neg), v22093], 24)] x, ⟨Stp.refl _ _, (OwnK.cons (hp.own 5 _ _ _ rfl).1 (OwnK.cons (hp.own 4 _ _ _ rfl).1 (OwnK.cons (hp.own 1 _ _ _ rfl).1 (OwnK.cons (hp.own 0 _ _ _ rfl).1 OwnK.nil))))⟩, fun x hx => ⟨hz.held hx.1, hx.2⟩, ?_⟩
    have hz := Stp.refl I22441 w22440
    refine vch_lt e57 rfl e55 rfl rfl rfl ?_
    obtain ⟨x22444, q22445, q22274⟩ := bind_some q22274
    refine ev_call rfl rfl C19 (((integer_Bits_ok n) _ _  x22438 v22442 r22443 hp.imm _ q22445).mono ?_)
    rintro _ w22446 ⟨rfl, hc⟩
    have hs := hp.stp hc
    replace hp := hp.ext hc
    replace hz := hz.trans hs
    replace r22094 := r22094.step hs
    replace r22084 := r22084.step hs
    replace r22053 := r22053.step hs
    replace r22051 := r22051.step hs
    replace r22029 := r22029.step hs
    replace r22027 := r22027.step hs
    replace tb := tb.step hs
    refine ⟨fun x => Stp I22441 w22446 I22441 x ∧ OwnK [(g22030, [(.bool x22020.Neg), v22026], 24), (g22032, [(.bool x22021.Neg), v22028], 24), (g22085, [(.bool x22078.Neg), v22083], 24), (g22095, [(.bool x22088.Neg), v22093], 24)] x, ⟨Stp.refl _ _, (OwnK.cons (hp.own 5 _ _ _ rfl).1 (OwnK.cons (hp.own 4 _ _ _ rfl).1 (OwnK.cons (hp.own 1 _ _ _ rfl).1 (OwnK.cons (hp.own 0 _ _ _ rfl).1 OwnK.nil))))⟩, fun x hx => ⟨hz.held hx.1, hx.2⟩, ?_⟩
    have hz := Stp.refl I22441 w22446
    refine vch_qt e58 rfl e55 rfl rfl rfl ?_
    refine vch_q e59 rfl ?_
    refine vch_q e60 rfl ?_
    refine vch_end ?_
    obtain rfl := Option.some.inj q22274
    have hp := hp.sel [] (by decide)
    exact ⟨((x22444 == 4), I22441), (.c rfl .n), rfl, hp, tb⟩
  ·
    rintro ⟨x22270, I22271⟩ w22272 ⟨hy, hp, tb⟩
    replace hy := hy.symm
    subst hy
    apply go
    obtain rfl := Option.some.inj h
    exact ⟨rfl, hp.ch⟩

end Go.Proofs.YthhghkcopfnbiaaGreatDoor

namespace Go.Proofs.YthhghkcopfnbiaaGreatDoor
open Go Go.Proofs.YthhghkcopfnbiaaGreatDoor.Gw Go.RowKit
set_option linter.unusedVariables false
attribute [local irreducible] Ev EvQ EvS EvH
def law01_few_S (f : Int_2 → Option Bool) : Prop := ∀ (w0 : World) (I0 : Nat → Prop) (x22447 : Int_2) (v22448 : Value) (r22449 : RepS (dI .u32) w0 I0 v22448 x22447.Mag) (hI : ∀ g, I0 g → g < w0.heap.size) (r : Bool), f x22447 = some r →
    Ret Tryz.prog 14 #[(.agg #[(.bool x22447.Neg), v22448])] w0 fun v w1 => v = (.bool r) ∧ Ch [] w0 w1
theorem law01_few_ok (n : Nat) : law01_few_S (law01_few n) := by
  intro w0 I0 x22447 v22448 r22449 hI r h
  unfold law01_few at h
  refine enter Tryz.func14 rfl (Nat.le_of_ble_eq_true rfl) ?_
  have hp : Hp ⟨w0, I0, []⟩ I0 [] w0 := Hp.start hI
  apply go
  apply go
  refine ev_boxI hp rfl rfl ?_
  intro p22452 I22453 w22451 hp hs a22454
  replace r22449 := r22449.step hs
  apply go
  apply go
  refine ev0 (rn_field rfl rfl FO24_1) ?_
  refine ev (rn_load rfl rfl (run_loadVar1 T22 (a22454.2 1 _ rfl))) ?_
  refine ev0 (rn_len rfl rfl Tryz.underlying22 r22449) ?_
  apply go
  obtain rfl := Option.some.inj h
  exact ⟨rfl, hp.ch⟩

end Go.Proofs.YthhghkcopfnbiaaGreatDoor

namespace Go.Proofs.YthhghkcopfnbiaaGreatDoor
open Go Go.Proofs.YthhghkcopfnbiaaGreatDoor.Gw Go.RowKit
set_option linter.unusedVariables false
attribute [local irreducible] Ev EvQ EvS EvH
def integer_Mul_S (f : Int_2 → Int_2 → Option Int_2) : Prop := ∀ (w0 : World) (I0 : Nat → Prop) (x29107 : Int_2) (v29108 : Value) (r29109 : RepS (dI .u32) w0 I0 v29108 x29107.Mag) (x29110 : Int_2) (v29111 : Value) (r29112 : RepS (dI .u32) w0 I0 v29111 x29110.Mag) (hI : ∀ g, I0 g → g < w0.heap.size) (r : Int_2), f x29107 x29110 = some r →
    Ret Tryz.prog 31 #[(.agg #[(.bool x29107.Neg), v29108]), (.agg #[(.bool x29110.Neg), v29111])] w0 fun v w1 => ∃ (I1 : Nat → Prop) (u29113 : Value), v = (.agg #[(.bool r.Neg), u29113]) ∧ Hp ⟨w0, I0, []⟩ I1 [] w1 ∧ RepS (dI .u32) w1 I1 u29113 r.Mag
theorem integer_Mul_ok (n : Nat) : integer_Mul_S (integer_Mul n) := by
  intro w0 I0 x29107 v29108 r29109 x29110 v29111 r29112 hI r h
  unfold integer_Mul at h
  refine enter Tryz.func31 rfl (Nat.le_of_ble_eq_true rfl) ?_
  have hp : Hp ⟨w0, I0, []⟩ I0 [] w0 := Hp.start hI
  apply go
  apply go
  refine ev_boxI hp rfl rfl ?_
  intro p29116 I29117 w29115 hp hs a29118
  replace r29112 := r29112.step hs
  replace r29109 := r29109.step hs
  refine ev_boxI hp rfl rfl ?_
  intro p29121 I29122 w29120 hp hs a29123
  replace a29118 := a29118.step hs
  replace r29109 := r29109.step hs
  replace r29112 := r29112.step hs
  refine ev_alloc hp rfl T24 ?_
  intro g29124 w29125 hp hs
  replace a29118 := a29118.step hs
  replace r29109 := r29109.step hs
  replace a29123 := a29123.step hs
  replace r29112 := r29112.step hs
  apply go
  have hs := hp.stp (Ch.drew [] w29125)
  have hp := hp.drew
  replace a29118 := a29118.step hs
  replace r29109 := r29109.step hs
  replace a29123 := a29123.step hs
  replace r29112 := r29112.step hs
  refine W.held [(0, true), (1, true), (2, true), (3, true), (4, true), (5, true), (6, true), (8, true), (9, true), (7, false), (10, false), (11, false), (12, false), (13, false)] (Stp I29122 w29125.drew I29122) MX (by kernel_rfl) (Stp.refl _ _) ?_
  have hz := Stp.refl I29122 w29125.drew
  refine evh0 (rn_field rfl rfl FO24_0) ?_
  refine evh (fun w' hw => rn_load rfl rfl (run_loadVar1 T4 ((a29118.step hw).2 0 _ rfl))) ?_
  refine evh0 (rn_field rfl rfl FO24_0) ?_
  refine evh (fun w' hw => rn_load rfl rfl (run_loadVar1 T4 ((a29123.step hw).2 0 _ rfl))) ?_
  refine evh0 (rn_neB rfl rfl rfl Tryz.underlying4) ?_
  refine evh0 (rn_field rfl rfl FO24_1) ?_
  refine evh (fun w' hw => rn_load rfl rfl (run_loadVar1 T22 ((a29118.step hw).2 1 _ rfl))) ?_
  refine evh0 (rn_field rfl rfl FO24_1) ?_
  refine evh (fun w' hw => rn_load rfl rfl (run_loadVar1 T22 ((a29123.step hw).2 1 _ rfl))) ?_
  obtain ⟨x29151, q29152, h⟩ := bind_some h
  refine ev_call rfl rfl C46 (((integer_trim_ok n) _ _  x29107.Mag v29108 r29109 hp.imm _ q29152).mono ?_)
  rintro _ w29153 ⟨I29154, v29155, hv, hq, r29156⟩
  replace hv := hv.symm
  subst hv
  have hs := hq.st
  have hp := hp.join0 hq
  replace hz := hz.trans hs
  replace r29112 := r29112.step hs
  refine ⟨Stp I29154 w29153 I29154, Stp.refl _ _, fun x hx => hz.held hx, ?_⟩
  have hz := Stp.refl I29154 w29153
  obtain ⟨x29157, q29158, h⟩ := bind_some h
  refine ev_call rfl rfl C46 (((integer_trim_ok n) _ _  x29110.Mag v29111 r29112 hp.imm _ q29158).mono ?_)
  rintro _ w29159 ⟨I29160, v29161, hv, hq, r29162⟩
  replace hv := hv.symm
  subst hv
  have hs := hq.st
  have hp := hp.join0 hq
  replace hz := hz.trans hs
  replace r29156 := r29156.step hs
  refine ⟨Stp I29160 w29159 I29160, Stp.refl _ _, fun x hx => hz.held hx, ?_⟩
  have hz := Stp.refl I29160 w29159
  obtain ⟨x29163, q29164, h⟩ := bind_some h
  refine ev_call rfl rfl C66 (((integer_times_ok n) _ _  x29151 v29155 r29156 x29157 v29161 r29162 hp.imm _ q29164).mono ?_)
  rintro _ w29165 ⟨I29166, v29167, hv, hq, r29168⟩
  replace hv := hv.symm
  subst hv
  have hs := hq.st
  have hp := hp.join0 hq
  replace hz := hz.trans hs
  refine ⟨Stp I29166 w29165 I29166, Stp.refl _ _, fun x hx => hz.held hx, ?_⟩
  have hz := Stp.refl I29166 w29165
  obtain ⟨x29169, q29170, h⟩ := bind_some h
  refine ev_call rfl rfl C49 (((integer_made_ok n) _ _  (!(x29107.Neg == x29110.Neg)) x29163 v29167 r29168 hp.imm _ q29170).mono ?_)
  rintro _ w29171 ⟨I29172, v29173, hv, hq, r29174⟩
  replace hv := hv.symm
  subst hv
  have hs := hq.st
  have hp := hp.join0 hq
  replace hz := hz.trans hs
  refine ⟨Stp I29172 w29171 I29172, Stp.refl _ _, fun x hx => hz.held hx, ?_⟩
  have hz := Stp.refl I29172 w29171
  refine ev_storeA hp (i := 0) (off := 0) (vs := [(.bool x29169.Neg), v29173]) rfl rfl rfl rfl T24 rfl (Nat.le_of_ble_eq_true rfl) (ones_cons rfl (ones_cons r29174.one ones_nil)) ?_
  intro w29175 hp hs
  replace hz := hz.trans hs
  replace r29174 := r29174.step hs
  refine ⟨Stp I29172 w29175 I29172, Stp.refl _ _, fun x hx => hz.held hx, ?_⟩
  have hz := Stp.refl I29172 w29175
  apply go
  obtain rfl := Option.some.inj h
  refine ⟨_, run_loadVarA T24 rfl (hp.at_ (i := 0) rfl), ?_⟩
  have hp := hp.sel [] (by decide)
  exact ⟨I29172, v29173, rfl, hp, r29174⟩

end Go.Proofs.YthhghkcopfnbiaaGreatDoor

namespace Go.Proofs.YthhghkcopfnbiaaGreatDoor
open Go Go.Proofs.YthhghkcopfnbiaaGreatDoor.Gw Go.RowKit
set_option linter.unusedVariables false
attribute [local irreducible] Ev EvQ EvS EvH
def integer_Sub_S (f : Int_2 → Int_2 → Option Int_2) : Prop := ∀ (w0 : World) (I0 : Nat → Prop) (x29791 : Int_2) (v29792 : Value) (r29793 : RepS (dI .u32) w0 I0 v29792 x29791.Mag) (x29794 : Int_2) (v29795 : Value) (r29796 : RepS (dI .u32) w0 I0 v29795 x29794.Mag) (hI : ∀ g, I0 g → g < w0.heap.size) (r : Int_2), f x29791 x29794 = some r →
    Ret Tryz.prog 34 #[(.agg #[(.bool x29791.Neg), v29792]), (.agg #[(.bool x29794.Neg), v29795])] w0 fun v w1 => ∃ (I1 : Nat → Prop) (u29797 : Value), v = (.agg #[(.bool r.Neg), u29797]) ∧ Hp ⟨w0, I0, []⟩ I1 [] w1 ∧ RepS (dI .u32) w1 I1 u29797 r.Mag
theorem integer_Sub_ok (n : Nat) : integer_Sub_S (integer_Sub n) := by
  intro w0 I0 x29791 v29792 r29793 x29794 v29795 r29796 hI r h
  unfold integer_Sub at h
  refine enter Tryz.func34 rfl (Nat.le_of_ble_eq_true rfl) ?_
  have hp : Hp ⟨w0, I0, []⟩ I0 [] w0 := Hp.start hI
  apply go
  apply go
  refine ev_boxI hp rfl rfl ?_
  intro p29800 I29801 w29799 hp hs a29802
  replace r29796 := r29796.step hs
  replace r29793 := r29793.step hs
  refine ev_boxI hp rfl rfl ?_
  intro p29805 I29806 w29804 hp hs a29807
  replace a29802 := a29802.step hs
  replace r29793 := r29793.step hs
  replace r29796 := r29796.step hs
  refine ev_alloc hp rfl T24 ?_
  intro g29808 w29809 hp hs
  replace a29802 := a29802.step hs
  replace r29793 := r29793.step hs
  replace a29807 := a29807.step hs
  replace r29796 := r29796.step hs
  apply go
  apply go
  refine ev (rn_load rfl rfl (run_loadVarA T24 rfl a29802)) ?_
  refine ev0 (rn_field rfl rfl FO24_0) ?_
  refine ev (rn_load rfl rfl (run_loadVar1 T4 (a29807.2 0 _ rfl))) ?_
  refine ev0 (rn_field rfl rfl FO24_1) ?_
  refine ev (rn_load rfl rfl (run_loadVar1 T22 (a29807.2 1 _ rfl))) ?_
  obtain ⟨A29810, m29811, m29812, rfl⟩ := r29796.isSl
  refine ev0 (fun w => rn_build (cs := [(.bool (!x29794.Neg)), (.slice A29810 m29811 m29812)]) rfl rfl T24 PL24 rfl) ?_
  obtain ⟨x29814, q29815, h⟩ := bind_some h
  refine ev_call rfl rfl C30 (((integer_Add_ok n) _ _  (Int_2.mk x29791.Neg x29791.Mag) v29792 r29793 (Int_2.mk (!x29794.Neg) x29794.Mag) (.slice A29810 m29811 m29812) r29796 hp.imm _ q29815).mono ?_)
  rintro _ w29816 ⟨I29817, v29818, hv, hq, r29819⟩
  replace hv := hv.symm
  subst hv
  have hs := hq.st
  have hp := hp.join0 hq
  refine ev_storeA hp (i := 0) (off := 0) (vs := [(.bool x29814.Neg), v29818]) rfl rfl rfl rfl T24 rfl (Nat.le_of_ble_eq_true rfl) (ones_cons rfl (ones_cons r29819.one ones_nil)) ?_
  intro w29820 hp hs
  replace r29819 := r29819.step hs
  apply go
  obtain rfl := Option.some.inj h
  refine ⟨_, run_loadVarA T24 rfl (hp.at_ (i := 0) rfl), ?_⟩
  have hp := hp.sel [] (by decide)
  exact ⟨I29817, v29818, rfl, hp, r29819⟩

end Go.Proofs.YthhghkcopfnbiaaGreatDoor

namespace Go.Proofs.YthhghkcopfnbiaaGreatDoor
open Go Go.Proofs.YthhghkcopfnbiaaGreatDoor.Gw Go.RowKit
set_option linter.unusedVariables false
attribute [local irreducible] Ev EvQ EvS EvH
def integer_Norm_S (f : Int_2 → Option Int_2) : Prop := ∀ (w0 : World) (I0 : Nat → Prop) (x29933 : Int_2) (v29934 : Value) (r29935 : RepS (dI .u32) w0 I0 v29934 x29933.Mag) (hI : ∀ g, I0 g → g < w0.heap.size) (r : Int_2), f x29933 = some r →
    Ret Tryz.prog 35 #[(.agg #[(.bool x29933.Neg), v29934])] w0 fun v w1 => ∃ (I1 : Nat → Prop) (u29936 : Value), v = (.agg #[(.bool r.Neg), u29936]) ∧ Hp ⟨w0, I0, []⟩ I1 [] w1 ∧ RepS (dI .u32) w1 I1 u29936 r.Mag
theorem integer_Norm_ok (n : Nat) : integer_Norm_S (integer_Norm n) := by
  intro w0 I0 x29933 v29934 r29935 hI r h
  unfold integer_Norm at h
  refine enter Tryz.func35 rfl (Nat.le_of_ble_eq_true rfl) ?_
  have hp : Hp ⟨w0, I0, []⟩ I0 [] w0 := Hp.start hI
  apply go
  apply go
  refine ev_boxI hp rfl rfl ?_
  intro p29939 I29940 w29938 hp hs a29941
  replace r29935 := r29935.step hs
  refine ev_alloc hp rfl T24 ?_
  intro g29942 w29943 hp hs
  replace a29941 := a29941.step hs
  replace r29935 := r29935.step hs
  apply go
  have hs := hp.stp (Ch.drew [] w29943)
  have hp := hp.drew
  replace a29941 := a29941.step hs
  replace r29935 := r29935.step hs
  refine W.held [(0, true), (1, true), (2, true), (3, true), (4, false), (5, false), (6, false), (7, false)] (Stp I29940 w29943.drew I29940) MX (by kernel_rfl) (Stp.refl _ _) ?_
  have hz := Stp.refl I29940 w29943.drew
  refine evh0 (rn_field rfl rfl FO24_0) ?_
  refine evh (fun w' hw => rn_load rfl rfl (run_loadVar1 T4 ((a29941.step hw).2 0 _ rfl))) ?_
  refine evh0 (rn_field rfl rfl FO24_1) ?_
  refine evh (fun w' hw => rn_load rfl rfl (run_loadVar1 T22 ((a29941.step hw).2 1 _ rfl))) ?_
  obtain ⟨x29963, q29964, h⟩ := bind_some h
  refine ev_call rfl rfl C46 (((integer_trim_ok n) _ _  x29933.Mag v29934 r29935 hp.imm _ q29964).mono ?_)
  rintro _ w29965 ⟨I29966, v29967, hv, hq, r29968⟩
  replace hv := hv.symm
  subst hv
  have hs := hq.st
  have hp := hp.join0 hq
  replace hz := hz.trans hs
  refine ⟨Stp I29966 w29965 I29966, Stp.refl _ _, fun x hx => hz.held hx, ?_⟩
  have hz := Stp.refl I29966 w29965
  obtain ⟨x29969, q29970, h⟩ := bind_some h
  refine ev_call rfl rfl C56 (((slices_Cloneuint32_uint32__ok n) _ _  x29963 v29967 r29968 hp.imm _ q29970).mono ?_)
  rintro _ w29971 ⟨I29972, v29973, hv, hq, r29974⟩
  replace hv := hv.symm
  subst hv
  have hs := hq.st
  have hp := hp.join0 hq
  replace hz := hz.trans hs
  refine ⟨Stp I29972 w29971 I29972, Stp.refl _ _, fun x hx => hz.held hx, ?_⟩
  have hz := Stp.refl I29972 w29971
  obtain ⟨x29975, q29976, h⟩ := bind_some h
  refine ev_call rfl rfl C49 (((integer_made_ok n) _ _  x29933.Neg x29969 v29973 r29974 hp.imm _ q29976).mono ?_)
  rintro _ w29977 ⟨I29978, v29979, hv, hq, r29980⟩
  replace hv := hv.symm
  subst hv
  have hs := hq.st
  have hp := hp.join0 hq
  replace hz := hz.trans hs
  refine ⟨Stp I29978 w29977 I29978, Stp.refl _ _, fun x hx => hz.held hx, ?_⟩
  have hz := Stp.refl I29978 w29977
  refine ev_storeA hp (i := 0) (off := 0) (vs := [(.bool x29975.Neg), v29979]) rfl rfl rfl rfl T24 rfl (Nat.le_of_ble_eq_true rfl) (ones_cons rfl (ones_cons r29980.one ones_nil)) ?_
  intro w29981 hp hs
  replace hz := hz.trans hs
  replace r29980 := r29980.step hs
  refine ⟨Stp I29978 w29981 I29978, Stp.refl _ _, fun x hx => hz.held hx, ?_⟩
  have hz := Stp.refl I29978 w29981
  apply go
  obtain rfl := Option.some.inj h
  refine ⟨_, run_loadVarA T24 rfl (hp.at_ (i := 0) rfl), ?_⟩
  have hp := hp.sel [] (by decide)
  exact ⟨I29978, v29979, rfl, hp, r29980⟩

end Go.Proofs.YthhghkcopfnbiaaGreatDoor

namespace Go.Proofs.YthhghkcopfnbiaaGreatDoor
open Go Go.Proofs.YthhghkcopfnbiaaGreatDoor.Gw Go.RowKit
set_option linter.unusedVariables false
attribute [local irreducible] Ev EvQ EvS EvH
def ref01_cmp_S (f : (List Int) → (List Int) → Option Int) : Prop := ∀ (w0 : World) (I0 : Nat → Prop) (x22455 : (List Int)) (v22456 : Value) (r22457 : RepS (dI .u32) w0 I0 v22456 x22455) (x22458 : (List Int)) (v22459 : Value) (r22460 : RepS (dI .u32) w0 I0 v22459 x22458) (hI : ∀ g, I0 g → g < w0.heap.size) (r : Int), f x22455 x22458 = some r →
    Ret Tryz.prog 52 #[v22456, v22459] w0 fun v w1 => v = (.int .i64 r) ∧ Ch [] w0 w1
theorem ref01_cmp_ok (n : Nat) : ref01_cmp_S (ref01_cmp n) := by
  intro w0 I0 x22455 v22456 r22457 x22458 v22459 r22460 hI r h
  unfold ref01_cmp at h
  refine enter Tryz.func52 rfl (Nat.le_of_ble_eq_true rfl) ?_
  have hp : Hp ⟨w0, I0, []⟩ I0 [] w0 := Hp.start hI
  apply go
  apply go
  apply go
  apply go
  apply go
  refine ev0 (rn_len rfl rfl Tryz.underlying22 r22457) ?_
  refine ev0 (rn_len rfl rfl Tryz.underlying22 r22460) ?_
  apply go
  refine sel_of (fun hc => ?_) (fun hc => ?_)
  ·
    have h := cond_t h hc
    apply go
    apply go
    apply go
    refine ev0 (rn_len rfl rfl Tryz.underlying22 r22457) ?_
    refine ev0 (rn_len rfl rfl Tryz.underlying22 r22460) ?_
    apply go
    refine sel_of (fun hc => ?_) (fun hc => ?_)
    ·
      have h := cond_t h hc
      apply go
      apply go
      apply go
      obtain rfl := Option.some.inj h
      exact ⟨rfl, hp.ch⟩
    ·
      have h := cond_f h hc
      apply go
      apply go
      apply go
      apply go
      obtain rfl := Option.some.inj h
      exact ⟨rfl, hp.ch⟩
  ·
    have h := cond_f h hc
    apply go
    obtain ⟨y22549, q22550, h⟩ := bind_some h
    refine W.cut (γ := Unit) (fun _ => []) (fun _ w' => y22549 = .go () ∧ Hp ⟨w0, I0, []⟩ I0 [] w') ?_ ?_
    ·
      apply go
      apply go
      refine ev0 (rn_len rfl rfl Tryz.underlying22 r22457) ?_
      apply go
      refine W.loop q22550 (γ := Unit) (fun s _ => [(0, v22456), (1, v22459), (5, (.int .i64 (s)))]) (fun s _ w' => Hp ⟨w0, I0, []⟩ I0 [] w' ∧ RepS (dI .u32) w' I0 v22456 x22455 ∧ RepS (dI .u32) w' I0 v22459 x22458) () (.c rfl (.c rfl (.c rfl .n))) ⟨hp, r22457, r22460⟩ ?_
      rintro x22577 ⟨⟩ w22605 y22606 ⟨hp, r22457, r22460⟩ q22607 q22608
      unfold ref01_cmp_L1 at q22607
      apply go
      apply go
      apply go
      apply go
      refine sel_of (fun hc => ?_) (fun hc => ?_)
      ·
        have q22607 := cond_t q22607 hc
        apply go
        apply go
        apply go
        apply go
        apply go
        refine W.quiet (fun w' => Ch [] w22605 w') MX (by kernel_rfl) (Ch.drew [] w22605) ?_
        obtain ⟨x22609, q22610, q22607⟩ := bind_some q22607
        refine evq_index rfl rfl rfl Tryz.underlying22 T45 r22457 q22610 ?_
        intro p22611 c22612 d22613 a22614
        obtain rfl : c22612 = [(.int .u32 x22609)] := d22613
        refine evq (fun w' hw => rn_load rfl rfl (run_loadVar1 T45 ((a22614.step (hp.stp hw)).2 0 _ rfl))) ?_
        obtain ⟨x22615, q22616, q22607⟩ := bind_some q22607
        refine evq_index rfl rfl rfl Tryz.underlying22 T45 r22460 q22616 ?_
        intro p22617 c22618 d22619 a22620
        obtain rfl : c22618 = [(.int .u32 x22615)] := d22619
        refine evq (fun w' hw => rn_load rfl rfl (run_loadVar1 T45 ((a22620.step (hp.stp hw)).2 0 _ rfl))) ?_
        intro w22621 hc
        have hs := hp.stp hc
        replace hp := hp.ext hc
        replace r22457 := r22457.step hs
        replace r22460 := r22460.step hs
        apply go
        refine sel_of (fun hc => ?_) (fun hc => ?_)
        ·
          have q22607 := cond_t q22607 hc
          apply go
          apply go
          apply go
          have q22622 := congrArg some (q22608 _ (Option.some.inj q22607).symm)
          obtain rfl := Option.some.inj q22622
          obtain rfl := Option.some.inj h
          exact ⟨rfl, hp.ch⟩
        ·
          have q22607 := cond_f q22607 hc
          apply go
          apply go
          refine W.quiet (fun w' => Ch [] w22621 w') MX (by kernel_rfl) (Ch.drew [] w22621) ?_
          obtain ⟨x22623, q22624, q22607⟩ := bind_some q22607
          refine evq_index rfl rfl rfl Tryz.underlying22 T45 r22457 q22624 ?_
          intro p22625 c22626 d22627 a22628
          obtain rfl : c22626 = [(.int .u32 x22623)] := d22627
          refine evq (fun w' hw => rn_load rfl rfl (run_loadVar1 T45 ((a22628.step (hp.stp hw)).2 0 _ rfl))) ?_
          obtain ⟨x22629, q22630, q22607⟩ := bind_some q22607
          refine evq_index rfl rfl rfl Tryz.underlying22 T45 r22460 q22630 ?_
          intro p22631 c22632 d22633 a22634
          obtain rfl : c22632 = [(.int .u32 x22629)] := d22633
          refine evq (fun w' hw => rn_load rfl rfl (run_loadVar1 T45 ((a22634.step (hp.stp hw)).2 0 _ rfl))) ?_
          intro w22635 hc
          have hs := hp.stp hc
          replace hp := hp.ext hc
          replace r22457 := r22457.step hs
          replace r22460 := r22460.step hs
          apply go
          refine sel_of (fun hc => ?_) (fun hc => ?_)
          ·
            have q22607 := cond_t q22607 hc
            apply go
            apply go
            apply go
            have q22636 := congrArg some (q22608 _ (Option.some.inj q22607).symm)
            obtain rfl := Option.some.inj q22636
            obtain rfl := Option.some.inj h
            exact ⟨rfl, hp.ch⟩
          ·
            have q22607 := cond_f q22607 hc
            apply go
            apply go
            exact ⟨_, (Option.some.inj q22607).symm, (), (.c rfl (.c rfl (.c rfl .n))), ⟨hp, r22457, r22460⟩⟩
      ·
        have q22607 := cond_f q22607 hc
        apply go
        have q22637 := congrArg some (q22608 _ (Option.some.inj q22607).symm)
        obtain rfl := Option.some.inj q22637
        exact ⟨(), .n, rfl, hp⟩
    ·
      rintro ⟨⟩ w22548 ⟨hy, hp⟩
      replace hy := hy.symm
      subst hy
      apply go
      apply go
      apply go
      obtain rfl := Option.some.inj h
      exact ⟨rfl, hp.ch⟩

end Go.Proofs.YthhghkcopfnbiaaGreatDoor

namespace Go.Proofs.YthhghkcopfnbiaaGreatDoor
open Go Go.Proofs.YthhghkcopfnbiaaGreatDoor.Gw Go.RowKit
set_option linter.unusedVariables false
attribute [local irreducible] Ev EvQ EvS EvH
def ref01_sub_S (f : (List Int) → (List Int) → Option (List Int)) : Prop := ∀ (w0 : World) (I0 : Nat → Prop) (x23760 : (List Int)) (v23761 : Value) (r23762 : RepS (dI .u32) w0 I0 v23761 x23760) (x23763 : (List Int)) (v23764 : Value) (r23765 : RepS (dI .u32) w0 I0 v23764 x23763) (hI : ∀ g, I0 g → g < w0.heap.size) (r : (List Int)), f x23760 x23763 = some r →
    Ret Tryz.prog 53 #[v23761, v23764] w0 fun v w1 => ∃ (I1 : Nat → Prop) (u23766 : Value), v = u23766 ∧ Hp ⟨w0, I0, []⟩ I1 [] w1 ∧ RepS (dI .u32) w1 I1 u23766 r
theorem ref01_sub_ok (n : Nat) : ref01_sub_S (ref01_sub n) := by
  intro w0 I0 x23760 v23761 r23762 x23763 v23764 r23765 hI r h
  unfold ref01_sub at h
  refine enter Tryz.func53 rfl (Nat.le_of_ble_eq_true rfl) ?_
  have hp : Hp ⟨w0, I0, []⟩ I0 [] w0 := Hp.start hI
  apply go
  apply go
  apply go
  apply go
  apply go
  apply go
  obtain ⟨y23899, q23900, h⟩ := bind_some h
  refine W.cut (γ := ((List Int) × Value × Ent × (Nat → Prop))) (fun g => [(5, (g.2.1))]) (fun g w' => y23899 = (g.1) ∧ Hp ⟨w0, I0, []⟩ (g.2.2.2) [(g.2.2.1)] w' ∧ OwnS (dI .u32) 45 w' (g.2.2.2) (g.2.1) (g.2.2.1) (g.1)) ?_ ?_
  ·
    apply go
    apply go
    apply go
    have hp := hp.none_
    have o23987 := OwnS.nil (dI .u32) 45 w0 I0
    refine W.loop q23900 (γ := (Value × Ent × (Nat → Prop))) (fun s g => [(0, v23761), (1, v23764), (5, (g.1)), (6, (.int .i64 (s.2.1))), (7, (.int .i64 (s.2.2)))]) (fun s g w' => Hp ⟨w0, I0, []⟩ (g.2.2) [(g.2.1)] w' ∧ RepS (dI .u32) w' (g.2.2) v23761 x23760 ∧ RepS (dI .u32) w' (g.2.2) v23764 x23763 ∧ OwnS (dI .u32) 45 w' (g.2.2) (g.1) (g.2.1) (s.1)) ((.slice none 0 0), none, I0) (.c rfl (.c rfl (.c rfl (.c rfl (.c rfl .n))))) ⟨hp, r23762, r23765, o23987⟩ ?_
    rintro ⟨x23937, x23941, x23942⟩ ⟨v23938, e23939, I23943⟩ w23986 y23988 ⟨hp, r23762, r23765, o23940⟩ q23989 q23990
    unfold ref01_sub_L1 at q23989
    apply go
    apply go
    apply go
    refine ev0 (rn_len rfl rfl Tryz.underlying22 r23762) ?_
    apply go
    refine sel_of (fun hc => ?_) (fun hc => ?_)
    ·
      have q23989 := cond_t q23989 hc
      apply go
      apply go
      apply go
      apply go
      apply go
      obtain ⟨x23991, q23992, q23989⟩ := bind_some q23989
      refine ev_index rfl rfl rfl Tryz.underlying22 T45 r23762 q23992 ?_
      intro p23993 c23994 d23995 a23996
      obtain rfl : c23994 = [(.int .u32 x23991)] := d23995
      refine ev (rn_load rfl rfl (run_loadVar1 T45 (a23996.2 0 _ rfl))) ?_
      refine ev0 (rn_conv rfl rfl U45 Tryz.underlying2) ?_
      obtain ⟨y24004, q24005, q23989⟩ := bind_some q23989
      refine W.cut (γ := Int) (fun g => [(0, v23761), (1, v23764), (5, v23938), (7, (.int .i64 x23942)), (8, (.int .i64 (g)))]) (fun g w' => y24004 = (g) ∧ w23986 = w') ?_ ?_
      ·
        apply go
        apply go
        refine ev0 (rn_len rfl rfl Tryz.underlying22 r23765) ?_
        apply go
        refine sel_of (fun hc => ?_) (fun hc => ?_)
        ·
          have q24005 := cond_t q24005 hc
          apply go
          obtain ⟨x24006, q24007, q24005⟩ := bind_some q24005
          refine ev_index rfl rfl rfl Tryz.underlying22 T45 r23765 q24007 ?_
          intro p24008 c24009 d24010 a24011
          obtain rfl : c24009 = [(.int .u32 x24006)] := d24010
          refine ev (rn_load rfl rfl (run_loadVar1 T45 (a24011.2 0 _ rfl))) ?_
          refine ev0 (rn_conv rfl rfl U45 Tryz.underlying2) ?_
          obtain rfl := Option.some.inj q24005
          exact ⟨(IntKind.i64.wrap ((IntKind.i64.wrap ((IntKind.i64.wrap x23991) - x23941)) - (IntKind.i64.wrap x24006))), (.c rfl (.c rfl (.c rfl (.c rfl (.c rfl .n))))), rfl, rfl⟩
        ·
          have q24005 := cond_f q24005 hc
          apply go
          obtain rfl := Option.some.inj q24005
          exact ⟨(IntKind.i64.wrap ((IntKind.i64.wrap x23991) - x23941)), (.c rfl (.c rfl (.c rfl (.c rfl (.c rfl .n))))), rfl, rfl⟩
      ·
        rintro x24003 _ ⟨hy, rfl⟩
        replace hy := hy.symm
        subst hy
        apply go
        apply go
        obtain ⟨y24014, q24015, q23989⟩ := bind_some q23989
        refine W.cut (γ := (Int × Int)) (fun g => [(0, v23761), (1, v23764), (5, v23938), (6, (.int .i64 (g.1))), (7, (.int .i64 x23942)), (8, (.int .i64 (g.2)))]) (fun g w' => y24014 = ((g.1), (g.2)) ∧ w23986 = w') ?_ ?_
        ·
          apply go
          apply go
          apply go
          refine sel_of (fun hc => ?_) (fun hc => ?_)
          ·
            have q24015 := cond_t q24015 hc
            apply go
            apply go
            apply go
            obtain rfl := Option.some.inj q24015
            exact ⟨(1, (IntKind.i64.wrap (x24003 + 4294967296))), (.c rfl (.c rfl (.c rfl (.c rfl (.c rfl (.c rfl .n)))))), rfl, rfl⟩
          ·
            have q24015 := cond_f q24015 hc
            apply go
            obtain rfl := Option.some.inj q24015
            exact ⟨(0, x24003), (.c rfl (.c rfl (.c rfl (.c rfl (.c rfl (.c rfl .n)))))), rfl, rfl⟩
        ·
          rintro ⟨x24012, x24013⟩ _ ⟨hy, rfl⟩
          replace hy := hy.symm
          subst hy
          apply go
          refine ev0 (rn_conv rfl rfl U2 Tryz.underlying45) ?_
          refine ev_litN (d := (dI .u32)) (xs := [(IntKind.u32.wrap x24013)]) (cs := [(.int .u32 (IntKind.u32.wrap x24013))]) hp rfl rfl Tryz.underlying22 T45 (by decide) rfl rfl (Elems.cons (d := (dI .u32)) (xs := _) rfl (Elems.nil _ _ _ _)) ?_
          intro v24016 I24018 w24017 hp hs r24019
          replace r23762 := r23762.step hs
          replace r23765 := r23765.step hs
          replace o23940 := o23940.step hs
          obtain ⟨x24020, q24021, q23989⟩ := bind_some q23989
          refine ev_append hp (i := 0) rfl rfl rfl rfl Tryz.underlying22 T45 rfl rfl o23940 r24019 q24021 ?_
          rintro v24022 e24023 w24024 hp hs o24025
          replace r23762 := r23762.step hs
          replace r23765 := r23765.step hs
          apply go
          exact ⟨_, (Option.some.inj q23989).symm, (v24022, e24023, I24018), (.c rfl (.c rfl (.c rfl (.c rfl (.c rfl .n))))), ⟨hp, r23762, r23765, o24025⟩⟩
    ·
      have q23989 := cond_f q23989 hc
      apply go
      have q24026 := congrArg some (q23990 _ (Option.some.inj q23989).symm)
      obtain rfl := Option.some.inj q24026
      exact ⟨(x23937, v23938, e23939, I23943), (.c rfl .n), rfl, hp, o23940⟩
  ·
    rintro ⟨x23893, v23894, e23895, I23897⟩ w23898 ⟨hy, hp, o23896⟩
    replace hy := hy.symm
    subst hy
    apply go
    apply go
    have r24027 := o23896.frz hp (i := 0) rfl
    obtain ⟨hp, hs⟩ := freeze_hp hp (i := 0) rfl
    have hp := hp.sel [] (by decide)
    obtain ⟨x24028, q24029, h⟩ := bind_some h
    refine ev_call rfl rfl C47 (((ref01_trim_ok n) _ _  x23893 v23894 r24027 hp.imm _ q24029).mono ?_)
    rintro _ w24030 ⟨I24031, v24032, e24033, hv, hq, o24034⟩
    replace hv := hv.symm
    subst hv
    have hs := hq.st
    have hp := hp.join0 hq
    apply go
    obtain rfl := Option.some.inj h
    have r24035 := o24034.frz hp (i := 0) rfl
    obtain ⟨hp, hs⟩ := freeze_hp hp (i := 0) rfl
    have hp := hp.sel [] (by decide)
    exact ⟨(Ad I24031 e24033), v24032, rfl, hp, r24035⟩

end Go.Proofs.YthhghkcopfnbiaaGreatDoor

namespace Go.Proofs.YthhghkcopfnbiaaGreatDoor
open Go Go.Proofs.YthhghkcopfnbiaaGreatDoor.Gw Go.RowKit
set_option linter.unusedVariables false
attribute [local irreducible] Ev EvQ EvS EvH
def ref01_add_S (f : (List Int) → (List Int) → Option (List Int)) : Prop := ∀ (w0 : World) (I0 : Nat → Prop) (x24036 : (List Int)) (v24037 : Value) (r24038 : RepS (dI .u32) w0 I0 v24037 x24036) (x24039 : (List Int)) (v24040 : Value) (r24041 : RepS (dI .u32) w0 I0 v24040 x24039) (hI : ∀ g, I0 g → g < w0.heap.size) (r : (List Int)), f x24036 x24039 = some r →
    Ret Tryz.prog 54 #[v24037, v24040] w0 fun v w1 => ∃ (I1 : Nat → Prop) (u24042 : Value), v = u24042 ∧ Hp ⟨w0, I0, []⟩ I1 [] w1 ∧ RepS (dI .u32) w1 I1 u24042 r
theorem ref01_add_ok (n : Nat) : ref01_add_S (ref01_add n) := by
  intro w0 I0 x24036 v24037 r24038 x24039 v24040 r24041 hI r h
  unfold ref01_add at h
  refine enter Tryz.func54 rfl (Nat.le_of_ble_eq_true rfl) ?_
  have hp : Hp ⟨w0, I0, []⟩ I0 [] w0 := Hp.start hI
  apply go
  apply go
  apply go
  apply go
  apply go
  apply go
  obtain ⟨y24199, q24200, h⟩ := bind_some h
  refine W.cut (γ := ((List Int) × Value × Ent × (Nat → Prop))) (fun g => [(5, (g.2.1))]) (fun g w' => y24199 = (g.1) ∧ Hp ⟨w0, I0, []⟩ (g.2.2.2) [(g.2.2.1)] w' ∧ OwnS (dI .u32) 45 w' (g.2.2.2) (g.2.1) (g.2.2.1) (g.1)) ?_ ?_
  ·
    apply go
    apply go
    apply go
    have hp := hp.none_
    have o24303 := OwnS.nil (dI .u32) 45 w0 I0
    refine W.loop q24200 (γ := (Value × Ent × (Nat → Prop))) (fun s g => [(0, v24037), (1, v24040), (5, (g.1)), (6, (.int .u64 (s.2.1))), (7, (.int .i64 (s.2.2)))]) (fun s g w' => Hp ⟨w0, I0, []⟩ (g.2.2) [(g.2.1)] w' ∧ RepS (dI .u32) w' (g.2.2) v24037 x24036 ∧ RepS (dI .u32) w' (g.2.2) v24040 x24039 ∧ OwnS (dI .u32) 45 w' (g.2.2) (g.1) (g.2.1) (s.1)) ((.slice none 0 0), none, I0) (.c rfl (.c rfl (.c rfl (.c rfl (.c rfl .n))))) ⟨hp, r24038, r24041, o24303⟩ ?_
    rintro ⟨x24245, x24249, x24250⟩ ⟨v24246, e24247, I24251⟩ w24302 y24304 ⟨hp, r24038, r24041, o24248⟩ q24305 q24306
    unfold ref01_add_L1 at q24305
    apply go
    obtain ⟨y24308, q24309, q24305⟩ := bind_some q24305
    refine W.cut (γ := Bool) (fun g => [(0, v24037), (1, v24040), (5, v24246), (6, (.int .u64 x24249)), (7, (.int .i64 x24250)), (21, (.bool (g)))]) (fun g w' => y24308 = (g) ∧ w24302 = w') ?_ ?_
    ·
      apply go
      refine ev0 (rn_len rfl rfl Tryz.underlying22 r24038) ?_
      refine sel_of (fun hc => ?_) (fun hc => ?_)
      ·
        have q24309 := cond_t q24309 hc
        obtain rfl := Option.some.inj q24309
        exact ⟨true, (.c rfl (.c rfl (.c rfl (.c rfl (.c rfl (.c rfl .n)))))), rfl, rfl⟩
      ·
        have q24309 := cond_f q24309 hc
        refine ev0 (rn_len rfl rfl Tryz.underlying22 r24041) ?_
        refine sel_of (fun hc => ?_) (fun hc => ?_)
        ·
          have q24309 := cond_t q24309 hc
          obtain rfl := Option.some.inj q24309
          exact ⟨true, (.c rfl (.c rfl (.c rfl (.c rfl (.c rfl (.c rfl .n)))))), rfl, rfl⟩
        ·
          have q24309 := cond_f q24309 hc
          obtain rfl := Option.some.inj q24309
          exact ⟨(decide (x24249 > 0)), (.c rfl (.c rfl (.c rfl (.c rfl (.c rfl (.c rfl .n)))))), rfl, rfl⟩
    ·
      rintro x24307 _ ⟨hy, rfl⟩
      replace hy := hy.symm
      subst hy
      apply go
      refine sel_of (fun hc => ?_) (fun hc => ?_)
      ·
        have q24305 := cond_t q24305 hc
        apply go
        apply go
        apply go
        obtain ⟨y24317, q24318, q24305⟩ := bind_some q24305
        refine W.cut (γ := Int) (fun g => [(0, v24037), (1, v24040), (5, v24246), (6, (.int .u64 (g))), (7, (.int .i64 x24250))]) (fun g w' => y24317 = (g) ∧ w24302 = w') ?_ ?_
        ·
          apply go
          apply go
          refine ev0 (rn_len rfl rfl Tryz.underlying22 r24038) ?_
          apply go
          refine sel_of (fun hc => ?_) (fun hc => ?_)
          ·
            have q24318 := cond_t q24318 hc
            apply go
            obtain ⟨x24319, q24320, q24318⟩ := bind_some q24318
            refine ev_index rfl rfl rfl Tryz.underlying22 T45 r24038 q24320 ?_
            intro p24321 c24322 d24323 a24324
            obtain rfl : c24322 = [(.int .u32 x24319)] := d24323
            refine ev (rn_load rfl rfl (run_loadVar1 T45 (a24324.2 0 _ rfl))) ?_
            refine ev0 (rn_conv rfl rfl U45 Tryz.underlying49) ?_
            obtain rfl := Option.some.inj q24318
            exact ⟨(IntKind.u64.wrap (x24249 + (IntKind.u64.wrap x24319))), (.c rfl (.c rfl (.c rfl (.c rfl (.c rfl .n))))), rfl, rfl⟩
          ·
            have q24318 := cond_f q24318 hc
            apply go
            obtain rfl := Option.some.inj q24318
            exact ⟨x24249, (.c rfl (.c rfl (.c rfl (.c rfl (.c rfl .n))))), rfl, rfl⟩
        ·
          rintro x24316 _ ⟨hy, rfl⟩
          replace hy := hy.symm
          subst hy
          obtain ⟨y24332, q24333, q24305⟩ := bind_some q24305
          refine W.cut (γ := Int) (fun g => [(0, v24037), (1, v24040), (5, v24246), (6, (.int .u64 (g))), (7, (.int .i64 x24250))]) (fun g w' => y24332 = (g) ∧ w24302 = w') ?_ ?_
          ·
            apply go
            apply go
            refine ev0 (rn_len rfl rfl Tryz.underlying22 r24041) ?_
            apply go
            refine sel_of (fun hc => ?_) (fun hc => ?_)
            ·
              have q24333 := cond_t q24333 hc
              apply go
              obtain ⟨x24334, q24335, q24333⟩ := bind_some q24333
              refine ev_index rfl rfl rfl Tryz.underlying22 T45 r24041 q24335 ?_
              intro p24336 c24337 d24338 a24339
              obtain rfl : c24337 = [(.int .u32 x24334)] := d24338
              refine ev (rn_load rfl rfl (run_loadVar1 T45 (a24339.2 0 _ rfl))) ?_
              refine ev0 (rn_conv rfl rfl U45 Tryz.underlying49) ?_
              obtain rfl := Option.some.inj q24333
              exact ⟨(IntKind.u64.wrap (x24316 + (IntKind.u64.wrap x24334))), (.c rfl (.c rfl (.c rfl (.c rfl (.c rfl .n))))), rfl, rfl⟩
            ·
              have q24333 := cond_f q24333 hc
              apply go
              obtain rfl := Option.some.inj q24333
              exact ⟨x24316, (.c rfl (.c rfl (.c rfl (.c rfl (.c rfl .n))))), rfl, rfl⟩
          ·
            rintro x24331 _ ⟨hy, rfl⟩
            replace hy := hy.symm
            subst hy
            apply go
            apply go
            refine ev0 (rn_conv rfl rfl U49 Tryz.underlying45) ?_
            refine ev_litN (d := (dI .u32)) (xs := [(IntKind.u32.wrap x24331)]) (cs := [(.int .u32 (IntKind.u32.wrap x24331))]) hp rfl rfl Tryz.underlying22 T45 (by decide) rfl rfl (Elems.cons (d := (dI .u32)) (xs := _) rfl (Elems.nil _ _ _ _)) ?_
            intro v24340 I24342 w24341 hp hs r24343
            replace r24038 := r24038.step hs
            replace r24041 := r24041.step hs
            replace o24248 := o24248.step hs
            obtain ⟨x24344, q24345, q24305⟩ := bind_some q24305
            refine ev_append hp (i := 0) rfl rfl rfl rfl Tryz.underlying22 T45 rfl rfl o24248 r24343 q24345 ?_
            rintro v24346 e24347 w24348 hp hs o24349
            replace r24038 := r24038.step hs
            replace r24041 := r24041.step hs
            apply go
            refine ⟨by decide, ?_⟩
            apply go
            exact ⟨_, (Option.some.inj q24305).symm, (v24346, e24347, I24342), (.c rfl (.c rfl (.c rfl (.c rfl (.c rfl .n))))), ⟨hp, r24038, r24041, o24349⟩⟩
      ·
        have q24305 := cond_f q24305 hc
        apply go
        have q24350 := congrArg some (q24306 _ (Option.some.inj q24305).symm)
        obtain rfl := Option.some.inj q24350
        exact ⟨(x24245, v24246, e24247, I24251), (.c rfl .n), rfl, hp, o24248⟩
  ·
    rintro ⟨x24193, v24194, e24195, I24197⟩ w24198 ⟨hy, hp, o24196⟩
    replace hy := hy.symm
    subst hy
    apply go
    apply go
    have r24351 := o24196.frz hp (i := 0) rfl
    obtain ⟨hp, hs⟩ := freeze_hp hp (i := 0) rfl
    have hp := hp.sel [] (by decide)
    obtain ⟨x24352, q24353, h⟩ := bind_some h
    refine ev_call rfl rfl C47 (((ref01_trim_ok n) _ _  x24193 v24194 r24351 hp.imm _ q24353).mono ?_)
    rintro _ w24354 ⟨I24355, v24356, e24357, hv, hq, o24358⟩
    replace hv := hv.symm
    subst hv
    have hs := hq.st
    have hp := hp.join0 hq
    apply go
    obtain rfl := Option.some.inj h
    have r24359 := o24358.frz hp (i := 0) rfl
    obtain ⟨hp, hs⟩ := freeze_hp hp (i := 0) rfl
    have hp := hp.sel [] (by decide)
    exact ⟨(Ad I24355 e24357), v24356, rfl, hp, r24359⟩

end Go.Proofs.YthhghkcopfnbiaaGreatDoor

namespace Go.Proofs.YthhghkcopfnbiaaGreatDoor
open Go Go.Proofs.YthhghkcopfnbiaaGreatDoor.Gw Go.RowKit
set_option linter.unusedVariables false
attribute [local irreducible] Ev EvQ EvS EvH
def ref01_Add_S (f : Int_2 → Int_2 → Option Int_2) : Prop := ∀ (w0 : World) (I0 : Nat → Prop) (x30564 : Int_2) (v30565 : Value) (r30566 : RepS (dI .u32) w0 I0 v30565 x30564.Mag) (x30567 : Int_2) (v30568 : Value) (r30569 : RepS (dI .u32) w0 I0 v30568 x30567.Mag) (hI : ∀ g, I0 g → g < w0.heap.size) (r : Int_2), f x30564 x30567 = some r →
    Ret Tryz.prog 36 #[(.agg #[(.bool x30564.Neg), v30565]), (.agg #[(.bool x30567.Neg), v30568])] w0 fun v w1 => ∃ (I1 : Nat → Prop) (u30570 : Value), v = (.agg #[(.bool r.Neg), u30570]) ∧ Hp ⟨w0, I0, []⟩ I1 [] w1 ∧ RepS (dI .u32) w1 I1 u30570 r.Mag
theorem ref01_Add_ok (n : Nat) : ref01_Add_S (ref01_Add n) := by
  intro w0 I0 x30564 v30565 r30566 x30567 v30568 r30569 hI r h
  unfold ref01_Add at h
  refine enter Tryz.func36 rfl (Nat.le_of_ble_eq_true rfl) ?_
  have hp : Hp ⟨w0, I0, []⟩ I0 [] w0 := Hp.start hI
  apply go
  apply go
  refine ev_box hp rfl rfl ?_
  intro g30571 w30572 hp hs
  replace r30569 := r30569.step hs
  replace r30566 := r30566.step hs
  refine ev_box hp rfl rfl ?_
  intro g30573 w30574 hp hs
  replace r30569 := r30569.step hs
  replace r30566 := r30566.step hs
  refine ev_alloc hp rfl T24 ?_
  intro g30575 w30576 hp hs
  replace r30569 := r30569.step hs
  replace r30566 := r30566.step hs
  apply go
  apply go
  refine ev (rn_load rfl rfl (run_loadVarA T24 rfl (hp.at_ (i := 2) rfl))) ?_
  obtain ⟨x30577, q30578, h⟩ := bind_some h
  refine ev_call rfl rfl C28 (((ref01_Norm_ok n) _ _  (Int_2.mk x30564.Neg x30564.Mag) v30565 r30566 hp.imm _ q30578).mono ?_)
  rintro _ w30579 ⟨I30580, v30581, hv, hq, r30582⟩
  replace hv := hv.symm
  subst hv
  have hs := hq.st
  have hp := hp.join0 hq
  replace r30569 := r30569.step hs
  replace r30566 := r30566.step hs
  refine ev_storeA hp (i := 2) (off := 0) (vs := [(.bool x30577.Neg), v30581]) rfl rfl rfl rfl T24 rfl (Nat.le_of_ble_eq_true rfl) (ones_cons rfl (ones_cons r30582.one ones_nil)) ?_
  intro w30583 hp hs
  replace r30569 := r30569.step hs
  replace r30582 := r30582.step hs
  apply go
  apply go
  refine ev (rn_load rfl rfl (run_loadVarA T24 rfl (hp.at_ (i := 1) rfl))) ?_
  obtain ⟨x30584, q30585, h⟩ := bind_some h
  refine ev_call rfl rfl C28 (((ref01_Norm_ok n) _ _  (Int_2.mk x30567.Neg x30567.Mag) v30568 r30569 hp.imm _ q30585).mono ?_)
  rintro _ w30586 ⟨I30587, v30588, hv, hq, r30589⟩
  replace hv := hv.symm
  subst hv
  have hs := hq.st
  have hp := hp.join0 hq
  replace r30569 := r30569.step hs
  replace r30582 := r30582.step hs
  refine ev_storeA hp (i := 1) (off := 0) (vs := [(.bool x30584.Neg), v30588]) rfl rfl rfl rfl T24 rfl (Nat.le_of_ble_eq_true rfl) (ones_cons rfl (ones_cons r30589.one ones_nil)) ?_
  intro w30590 hp hs
  replace r30589 := r30589.step hs
  replace r30582 := r30582.step hs
  apply go
  apply go
  apply go
  refine ev0 (rn_field rfl rfl FO24_0) ?_
  refine ev (rn_load rfl rfl (run_loadVar1 T4 (hp.cell (i := 2) (off := 0) rfl rfl))) ?_
  refine ev0 (rn_field rfl rfl FO24_0) ?_
  refine ev (rn_load rfl rfl (run_loadVar1 T4 (hp.cell (i := 1) (off := 0) rfl rfl))) ?_
  refine ev0 (rn_eqB rfl rfl rfl Tryz.underlying4) ?_
  apply go
  refine sel_of (fun hc => ?_) (fun hc => ?_)
  ·
    have h := cond_t h hc
    apply go
    have hs := hp.stp (Ch.drew [] w30590)
    have hp := hp.drew
    replace r30589 := r30589.step hs
    replace r30582 := r30582.step hs
    refine W.held [(0, true), (1, true), (2, true), (3, true), (4, true), (5, true), (6, false), (7, true), (8, false), (9, false)] (fun x => Stp I30587 w30590.drew I30587 x ∧ OwnK [(g30571, [(.bool x30577.Neg), v30581], 24), (g30573, [(.bool x30584.Neg), v30588], 24)] x) MX (by kernel_rfl) ⟨Stp.refl _ _, (OwnK.cons (hp.own 2 _ _ _ rfl).1 (OwnK.cons (hp.own 1 _ _ _ rfl).1 OwnK.nil))⟩ ?_
    have hz := Stp.refl I30587 w30590.drew
    refine evh0 (rn_field rfl rfl FO24_0) ?_
    refine evh (fun w' hw => rn_load rfl rfl (run_loadVar1 T4 (hw.2.cell (i := 0) (off := 0) rfl rfl))) ?_
    refine evh0 (rn_field rfl rfl FO24_1) ?_
    refine evh (fun w' hw => rn_load rfl rfl (run_loadVar1 T22 (hw.2.cell (i := 0) (off := 1) rfl rfl))) ?_
    refine evh0 (rn_field rfl rfl FO24_1) ?_
    refine evh (fun w' hw => rn_load rfl rfl (run_loadVar1 T22 (hw.2.cell (i := 1) (off := 1) rfl rfl))) ?_
    obtain ⟨x30608, q30609, h⟩ := bind_some h
    refine ev_call rfl rfl C54 (((ref01_add_ok n) _ _  x30577.Mag v30581 r30582 x30584.Mag v30588 r30589 hp.imm _ q30609).mono ?_)
    rintro _ w30610 ⟨I30611, v30612, hv, hq, r30613⟩
    replace hv := hv.symm
    subst hv
    have hs := hq.st
    have hp := hp.join0 hq
    replace hz := hz.trans hs
    replace r30589 := r30589.step hs
    replace r30582 := r30582.step hs
    refine ⟨fun x => Stp I30611 w30610 I30611 x ∧ OwnK [(g30571, [(.bool x30577.Neg), v30581], 24), (g30573, [(.bool x30584.Neg), v30588], 24)] x, ⟨Stp.refl _ _, (OwnK.cons (hp.own 2 _ _ _ rfl).1 (OwnK.cons (hp.own 1 _ _ _ rfl).1 OwnK.nil))⟩, fun x hx => ⟨hz.held hx.1, hx.2⟩, ?_⟩
    have hz := Stp.refl I30611 w30610
    obtain ⟨A30614, m30615, m30616, rfl⟩ := r30613.isSl
    refine evh0 (fun w => rn_build (cs := [(.bool x30577.Neg), (.slice A30614 m30615 m30616)]) rfl rfl T24 PL24 rfl) ?_
    obtain ⟨x30618, q30619, h⟩ := bind_some h
    refine ev_call rfl rfl C28 (((ref01_Norm_ok n) _ _  (Int_2.mk x30577.Neg x30608) (.slice A30614 m30615 m30616) r30613 hp.imm _ q30619).mono ?_)
    rintro _ w30620 ⟨I30621, v30622, hv, hq, r30623⟩
    replace hv := hv.symm
    subst hv
    have hs := hq.st
    have hp := hp.join0 hq
    replace hz := hz.trans hs
    replace r30589 := r30589.step hs
    replace r30582 := r30582.step hs
    refine ⟨fun x => Stp I30621 w30620 I30621 x ∧ OwnK [(g30571, [(.bool x30577.Neg), v30581], 24), (g30573, [(.bool x30584.Neg), v30588], 24)] x, ⟨Stp.refl _ _, (OwnK.cons (hp.own 2 _ _ _ rfl).1 (OwnK.cons (hp.own 1 _ _ _ rfl).1 OwnK.nil))⟩, fun x hx => ⟨hz.held hx.1, hx.2⟩, ?_⟩
    have hz := Stp.refl I30621 w30620
    refine ev_storeA hp (i := 0) (off := 0) (vs := [(.bool x30618.Neg), v30622]) rfl rfl rfl rfl T24 rfl (Nat.le_of_ble_eq_true rfl) (ones_cons rfl (ones_cons r30623.one ones_nil)) ?_
    intro w30624 hp hs
    replace hz := hz.trans hs
    replace r30623 := r30623.step hs
    replace r30589 := r30589.step hs
    replace r30582 := r30582.step hs
    refine ⟨fun x => Stp I30621 w30624 I30621 x ∧ OwnK [(g30571, [(.bool x30577.Neg), v30581], 24), (g30573, [(.bool x30584.Neg), v30588], 24)] x, ⟨Stp.refl _ _, (OwnK.cons (hp.own 2 _ _ _ rfl).1 (OwnK.cons (hp.own 1 _ _ _ rfl).1 OwnK.nil))⟩, fun x hx => ⟨hz.held hx.1, hx.2⟩, ?_⟩
    have hz := Stp.refl I30621 w30624
    apply go
    obtain rfl := Option.some.inj h
    refine ⟨_, run_loadVarA T24 rfl (hp.at_ (i := 0) rfl), ?_⟩
    have hp := hp.sel [] (by decide)
    exact ⟨I30621, v30622, rfl, hp, r30623⟩
  ·
    have h := cond_f h hc
    apply go
    apply go
    apply go
    apply go
    refine ev0 (rn_field rfl rfl FO24_1) ?_
    refine ev (rn_load rfl rfl (run_loadVar1 T22 (hp.cell (i := 2) (off := 1) rfl rfl))) ?_
    refine ev0 (rn_field rfl rfl FO24_1) ?_
    refine ev (rn_load rfl rfl (run_loadVar1 T22 (hp.cell (i := 1) (off := 1) rfl rfl))) ?_
    obtain ⟨x30625, q30626, h⟩ := bind_some h
    refine ev_call rfl rfl C52 (((ref01_cmp_ok n) _ _  x30577.Mag v30581 r30582 x30584.Mag v30588 r30589 hp.imm _ q30626).mono ?_)
    rintro _ w30627 ⟨rfl, hc⟩
    have hs := hp.stp hc
    replace hp := hp.ext hc
    replace r30589 := r30589.step hs
    replace r30582 := r30582.step hs
    apply go
    refine sel_of (fun hc => ?_) (fun hc => ?_)
    ·
      have h := cond_t h hc
      apply go
      have hs := hp.stp (Ch.drew [] w30627)
      have hp := hp.drew
      replace r30589 := r30589.step hs
      replace r30582 := r30582.step hs
      refine W.held [(0, true), (1, true), (2, true), (3, true), (4, true), (5, true), (6, false), (7, true), (8, false), (9, false)] (fun x => Stp I30587 w30627.drew I30587 x ∧ OwnK [(g30573, [(.bool x30584.Neg), v30588], 24), (g30571, [(.bool x30577.Neg), v30581], 24)] x) MX (by kernel_rfl) ⟨Stp.refl _ _, (OwnK.cons (hp.own 1 _ _ _ rfl).1 (OwnK.cons (hp.own 2 _ _ _ rfl).1 OwnK.nil))⟩ ?_
      have hz := Stp.refl I30587 w30627.drew
      refine evh0 (rn_field rfl rfl FO24_0) ?_
      refine evh (fun w' hw => rn_load rfl rfl (run_loadVar1 T4 (hw.2.cell (i := 0) (off := 0) rfl rfl))) ?_
      refine evh0 (rn_field rfl rfl FO24_1) ?_
      refine evh (fun w' hw => rn_load rfl rfl (run_loadVar1 T22 (hw.2.cell (i := 0) (off := 1) rfl rfl))) ?_
      refine evh0 (rn_field rfl rfl FO24_1) ?_
      refine evh (fun w' hw => rn_load rfl rfl (run_loadVar1 T22 (hw.2.cell (i := 1) (off := 1) rfl rfl))) ?_
      obtain ⟨x30645, q30646, h⟩ := bind_some h
      refine ev_call rfl rfl C53 (((ref01_sub_ok n) _ _  x30584.Mag v30588 r30589 x30577.Mag v30581 r30582 hp.imm _ q30646).mono ?_)
      rintro _ w30647 ⟨I30648, v30649, hv, hq, r30650⟩
      replace hv := hv.symm
      subst hv
      have hs := hq.st
      have hp := hp.join0 hq
      replace hz := hz.trans hs
      replace r30589 := r30589.step hs
      replace r30582 := r30582.step hs
      refine ⟨fun x => Stp I30648 w30647 I30648 x ∧ OwnK [(g30573, [(.bool x30584.Neg), v30588], 24), (g30571, [(.bool x30577.Neg), v30581], 24)] x, ⟨Stp.refl _ _, (OwnK.cons (hp.own 1 _ _ _ rfl).1 (OwnK.cons (hp.own 2 _ _ _ rfl).1 OwnK.nil))⟩, fun x hx => ⟨hz.held hx.1, hx.2⟩, ?_⟩
      have hz := Stp.refl I30648 w30647
      obtain ⟨A30651, m30652, m30653, rfl⟩ := r30650.isSl
      refine evh0 (fun w => rn_build (cs := [(.bool x30584.Neg), (.slice A30651 m30652 m30653)]) rfl rfl T24 PL24 rfl) ?_
      obtain ⟨x30655, q30656, h⟩ := bind_some h
      refine ev_call rfl rfl C28 (((ref01_Norm_ok n) _ _  (Int_2.mk x30584.Neg x30645) (.slice A30651 m30652 m30653) r30650 hp.imm _ q30656).mono ?_)
      rintro _ w30657 ⟨I30658, v30659, hv, hq, r30660⟩
      replace hv := hv.symm
      subst hv
      have hs := hq.st
      have hp := hp.join0 hq
      replace hz := hz.trans hs
      replace r30589 := r30589.step hs
      replace r30582 := r30582.step hs
      refine ⟨fun x => Stp I30658 w30657 I30658 x ∧ OwnK [(g30573, [(.bool x30584.Neg), v30588], 24), (g30571, [(.bool x30577.Neg), v30581], 24)] x, ⟨Stp.refl _ _, (OwnK.cons (hp.own 1 _ _ _ rfl).1 (OwnK.cons (hp.own 2 _ _ _ rfl).1 OwnK.nil))⟩, fun x hx => ⟨hz.held hx.1, hx.2⟩, ?_⟩
      have hz := Stp.refl I30658 w30657
      refine ev_storeA hp (i := 0) (off := 0) (vs := [(.bool x30655.Neg), v30659]) rfl rfl rfl rfl T24 rfl (Nat.le_of_ble_eq_true rfl) (ones_cons rfl (ones_cons r30660.one ones_nil)) ?_
      intro w30661 hp hs
      replace hz := hz.trans hs
      replace r30660 := r30660.step hs
      replace r30589 := r30589.step hs
      replace r30582 := r30582.step hs
      refine ⟨fun x => Stp I30658 w30661 I30658 x ∧ OwnK [(g30573, [(.bool x30584.Neg), v30588], 24), (g30571, [(.bool x30577.Neg), v30581], 24)] x, ⟨Stp.refl _ _, (OwnK.cons (hp.own 1 _ _ _ rfl).1 (OwnK.cons (hp.own 2 _ _ _ rfl).1 OwnK.nil))⟩, fun x hx => ⟨hz.held hx.1, hx.2⟩, ?_⟩
      have hz := Stp.refl I30658 w30661
      apply go
      obtain rfl := Option.some.inj h
      refine ⟨_, run_loadVarA T24 rfl (hp.at_ (i := 0) rfl), ?_⟩
      have hp := hp.sel [] (by decide)
      exact ⟨I30658, v30659, rfl, hp, r30660⟩
    ·
      have h := cond_f h hc
      apply go
      apply go
      have hs := hp.stp (Ch.drew [] w30627)
      have hp := hp.drew
      replace r30589 := r30589.step hs
      replace r30582 := r30582.step hs
      refine W.held [(0, true), (1, true), (2, true), (3, true), (4, true), (5, true), (6, false), (7, true), (8, false), (9, false)] (fun x => Stp I30587 w30627.drew I30587 x ∧ OwnK [(g30571, [(.bool x30577.Neg), v30581], 24), (g30573, [(.bool x30584.Neg), v30588], 24)] x) MX (by kernel_rfl) ⟨Stp.refl _ _, (OwnK.cons (hp.own 2 _ _ _ rfl).1 (OwnK.cons (hp.own 1 _ _ _ rfl).1 OwnK.nil))⟩ ?_
      have hz := Stp.refl I30587 w30627.drew
      refine evh0 (rn_field rfl rfl FO24_0) ?_
      refine evh (fun w' hw => rn_load rfl rfl (run_loadVar1 T4 (hw.2.cell (i := 0) (off := 0) rfl rfl))) ?_
      refine evh0 (rn_field rfl rfl FO24_1) ?_
      refine evh (fun w' hw => rn_load rfl rfl (run_loadVar1 T22 (hw.2.cell (i := 0) (off := 1) rfl rfl))) ?_
      refine evh0 (rn_field rfl rfl FO24_1) ?_
      refine evh (fun w' hw => rn_load rfl rfl (run_loadVar1 T22 (hw.2.cell (i := 1) (off := 1) rfl rfl))) ?_
      obtain ⟨x30679, q30680, h⟩ := bind_some h
      refine ev_call rfl rfl C53 (((ref01_sub_ok n) _ _  x30577.Mag v30581 r30582 x30584.Mag v30588 r30589 hp.imm _ q30680).mono ?_)
      rintro _ w30681 ⟨I30682, v30683, hv, hq, r30684⟩
      replace hv := hv.symm
      subst hv
      have hs := hq.st
      have hp := hp.join0 hq
      replace hz := hz.trans hs
      replace r30589 := r30589.step hs
      replace r30582 := r30582.step hs
      refine ⟨fun x => Stp I30682 w30681 I30682 x ∧ OwnK [(g30571, [(.bool x30577.Neg), v30581], 24), (g30573, [(.bool x30584.Neg), v30588], 24)] x, ⟨Stp.refl _ _, (OwnK.cons (hp.own 2 _ _ _ rfl).1 (OwnK.cons (hp.own 1 _ _ _ rfl).1 OwnK.nil))⟩, fun x hx => ⟨hz.held hx.1, hx.2⟩, ?_⟩
      have hz := Stp.refl I30682 w30681
      obtain ⟨A30685, m30686, m30687, rfl⟩ := r30684.isSl
      refine evh0 (fun w => rn_build (cs := [(.bool x30577.Neg), (.slice A30685 m30686 m30687)]) rfl rfl T24 PL24 rfl) ?_
      obtain ⟨x30689, q30690, h⟩ := bind_some h
      refine ev_call rfl rfl C28 (((ref01_Norm_ok n) _ _  (Int_2.mk x30577.Neg x30679) (.slice A30685 m30686 m30687) r30684 hp.imm _ q30690).mono ?_)
      rintro _ w30691 ⟨I30692, v30693, hv, hq, r30694⟩
      replace hv := hv.symm
      subst hv
      have hs := hq.st
      have hp := hp.join0 hq
      replace hz := hz.trans hs
      replace r30589 := r30589.step hs
      replace r30582 := r30582.step hs
      refine ⟨fun x => Stp I30692 w30691 I30692 x ∧ OwnK [(g30571, [(.bool x30577.Neg), v30581], 24), (g30573, [(.bool x30584.Neg), v30588], 24)] x, ⟨Stp.refl _ _, (OwnK.cons (hp.own 2 _ _ _ rfl).1 (OwnK.cons (hp.own 1 _ _ _ rfl).1 OwnK.nil))⟩, fun x hx => ⟨hz.held hx.1, hx.2⟩, ?_⟩
      have hz := Stp.refl I30692 w30691
      refine ev_storeA hp (i := 0) (off := 0) (vs := [(.bool x30689.Neg), v30693]) rfl rfl rfl rfl T24 rfl (Nat.le_of_ble_eq_true rfl) (ones_cons rfl (ones_cons r30694.one ones_nil)) ?_
      intro w30695 hp hs
      replace hz := hz.trans hs
      replace r30694 := r30694.step hs
      replace r30589 := r30589.step hs
      replace r30582 := r30582.step hs
      refine ⟨fun x => Stp I30692 w30695 I30692 x ∧ OwnK [(g30571, [(.bool x30577.Neg), v30581], 24), (g30573, [(.bool x30584.Neg), v30588], 24)] x, ⟨Stp.refl _ _, (OwnK.cons (hp.own 2 _ _ _ rfl).1 (OwnK.cons (hp.own 1 _ _ _ rfl).1 OwnK.nil))⟩, fun x hx => ⟨hz.held hx.1, hx.2⟩, ?_⟩
      have hz := Stp.refl I30692 w30695
      apply go
      obtain rfl := Option.some.inj h
      refine ⟨_, run_loadVarA T24 rfl (hp.at_ (i := 0) rfl), ?_⟩
      have hp := hp.sel [] (by decide)
      exact ⟨I30692, v30693, rfl, hp, r30694⟩

end Go.Proofs.YthhghkcopfnbiaaGreatDoor

namespace Go.Proofs.YthhghkcopfnbiaaGreatDoor
open Go Go.Proofs.YthhghkcopfnbiaaGreatDoor.Gw Go.RowKit
set_option linter.unusedVariables false
attribute [local irreducible] Ev EvQ EvS EvH
def ref01_Neg_S (f : Int_2 → Option Int_2) : Prop := ∀ (w0 : World) (I0 : Nat → Prop) (x30696 : Int_2) (v30697 : Value) (r30698 : RepS (dI .u32) w0 I0 v30697 x30696.Mag) (hI : ∀ g, I0 g → g < w0.heap.size) (r : Int_2), f x30696 = some r →
    Ret Tryz.prog 41 #[(.agg #[(.bool x30696.Neg), v30697])] w0 fun v w1 => ∃ (I1 : Nat → Prop) (u30699 : Value), v = (.agg #[(.bool r.Neg), u30699]) ∧ Hp ⟨w0, I0, []⟩ I1 [] w1 ∧ RepS (dI .u32) w1 I1 u30699 r.Mag
theorem ref01_Neg_ok (n : Nat) : ref01_Neg_S (ref01_Neg n) := by
  intro w0 I0 x30696 v30697 r30698 hI r h
  unfold ref01_Neg at h
  refine enter Tryz.func41 rfl (Nat.le_of_ble_eq_true rfl) ?_
  have hp : Hp ⟨w0, I0, []⟩ I0 [] w0 := Hp.start hI
  apply go
  apply go
  refine ev_boxI hp rfl rfl ?_
  intro p30702 I30703 w30701 hp hs a30704
  replace r30698 := r30698.step hs
  refine ev_alloc hp rfl T24 ?_
  intro g30705 w30706 hp hs
  replace a30704 := a30704.step hs
  replace r30698 := r30698.step hs
  apply go
  apply go
  refine ev0 (rn_field rfl rfl FO24_0) ?_
  refine ev (rn_load rfl rfl (run_loadVar1 T4 (a30704.2 0 _ rfl))) ?_
  refine ev0 (rn_field rfl rfl FO24_1) ?_
  refine ev (rn_load rfl rfl (run_loadVar1 T22 (a30704.2 1 _ rfl))) ?_
  obtain ⟨A30707, m30708, m30709, rfl⟩ := r30698.isSl
  refine ev0 (fun w => rn_build (cs := [(.bool (!x30696.Neg)), (.slice A30707 m30708 m30709)]) rfl rfl T24 PL24 rfl) ?_
  obtain ⟨x30711, q30712, h⟩ := bind_some h
  refine ev_call rfl rfl C28 (((ref01_Norm_ok n) _ _  (Int_2.mk (!x30696.Neg) x30696.Mag) (.slice A30707 m30708 m30709) r30698 hp.imm _ q30712).mono ?_)
  rintro _ w30713 ⟨I30714, v30715, hv, hq, r30716⟩
  replace hv := hv.symm
  subst hv
  have hs := hq.st
  have hp := hp.join0 hq
  refine ev_storeA hp (i := 0) (off := 0) (vs := [(.bool x30711.Neg), v30715]) rfl rfl rfl rfl T24 rfl (Nat.le_of_ble_eq_true rfl) (ones_cons rfl (ones_cons r30716.one ones_nil)) ?_
  intro w30717 hp hs
  replace r30716 := r30716.step hs
  apply go
  obtain rfl := Option.some.inj h
  refine ⟨_, run_loadVarA T24 rfl (hp.at_ (i := 0) rfl), ?_⟩
  have hp := hp.sel [] (by decide)
  exact ⟨I30714, v30715, rfl, hp, r30716⟩

end Go.Proofs.YthhghkcopfnbiaaGreatDoor

namespace Go.Proofs.YthhghkcopfnbiaaGreatDoor
open Go Go.Proofs.YthhghkcopfnbiaaGreatDoor.Gw Go.RowKit
set_option linter.unusedVariables false
attribute [local irreducible] Ev EvQ EvS EvH
def ref01_Sub_S (f : Int_2 → Int_2 → Option Int_2) : Prop := ∀ (w0 : World) (I0 : Nat → Prop) (x30718 : Int_2) (v30719 : Value) (r30720 : RepS (dI .u32) w0 I0 v30719 x30718.Mag) (x30721 : Int_2) (v30722 : Value) (r30723 : RepS (dI .u32) w0 I0 v30722 x30721.Mag) (hI : ∀ g, I0 g → g < w0.heap.size) (r : Int_2), f x30718 x30721 = some r →
    Ret Tryz.prog 37 #[(.agg #[(.bool x30718.Neg), v30719]), (.agg #[(.bool x30721.Neg), v30722])] w0 fun v w1 => ∃ (I1 : Nat → Prop) (u30724 : Value), v = (.agg #[(.bool r.Neg), u30724]) ∧ Hp ⟨w0, I0, []⟩ I1 [] w1 ∧ RepS (dI .u32) w1 I1 u30724 r.Mag
theorem ref01_Sub_ok (n : Nat) : ref01_Sub_S (ref01_Sub n) := by
  intro w0 I0 x30718 v30719 r30720 x30721 v30722 r30723 hI r h
  unfold ref01_Sub at h
  refine enter Tryz.func37 rfl (Nat.le_of_ble_eq_true rfl) ?_
  have hp : Hp ⟨w0, I0, []⟩ I0 [] w0 := Hp.start hI
  apply go
  apply go
  refine ev_boxI hp rfl rfl ?_
  intro p30727 I30728 w30726 hp hs a30729
  replace r30723 := r30723.step hs
  replace r30720 := r30720.step hs
  refine ev_boxI hp rfl rfl ?_
  intro p30732 I30733 w30731 hp hs a30734
  replace a30729 := a30729.step hs
  replace r30720 := r30720.step hs
  replace r30723 := r30723.step hs
  refine ev_alloc hp rfl T24 ?_
  intro g30735 w30736 hp hs
  replace a30729 := a30729.step hs
  replace r30720 := r30720.step hs
  replace a30734 := a30734.step hs
  replace r30723 := r30723.step hs
  apply go
  have hs := hp.stp (Ch.drew [] w30736)
  have hp := hp.drew
  replace a30729 := a30729.step hs
  replace r30720 := r30720.step hs
  replace a30734 := a30734.step hs
  replace r30723 := r30723.step hs
  refine W.held [(0, true), (1, true), (2, false), (3, false), (4, false)] (Stp I30733 w30736.drew I30733) MX (by kernel_rfl) (Stp.refl _ _) ?_
  have hz := Stp.refl I30733 w30736.drew
  refine evh (fun w' hw => rn_load rfl rfl (run_loadVarA T24 rfl (a30729.step hw))) ?_
  refine evh (fun w' hw => rn_load rfl rfl (run_loadVarA T24 rfl (a30734.step hw))) ?_
  obtain ⟨x30750, q30751, h⟩ := bind_some h
  refine ev_call rfl rfl C41 (((ref01_Neg_ok n) _ _  (Int_2.mk x30721.Neg x30721.Mag) v30722 r30723 hp.imm _ q30751).mono ?_)
  rintro _ w30752 ⟨I30753, v30754, hv, hq, r30755⟩
  replace hv := hv.symm
  subst hv
  have hs := hq.st
  have hp := hp.join0 hq
  replace hz := hz.trans hs
  replace r30720 := r30720.step hs
  refine ⟨Stp I30753 w30752 I30753, Stp.refl _ _, fun x hx => hz.held hx, ?_⟩
  have hz := Stp.refl I30753 w30752
  obtain ⟨x30756, q30757, h⟩ := bind_some h
  refine ev_call rfl rfl C36 (((ref01_Add_ok n) _ _  (Int_2.mk x30718.Neg x30718.Mag) v30719 r30720 x30750 v30754 r30755 hp.imm _ q30757).mono ?_)
  rintro _ w30758 ⟨I30759, v30760, hv, hq, r30761⟩
  replace hv := hv.symm
  subst hv
  have hs := hq.st
  have hp := hp.join0 hq
  replace hz := hz.trans hs
  refine ⟨Stp I30759 w30758 I30759, Stp.refl _ _, fun x hx => hz.held hx, ?_⟩
  have hz := Stp.refl I30759 w30758
  refine ev_storeA hp (i := 0) (off := 0) (vs := [(.bool x30756.Neg), v30760]) rfl rfl rfl rfl T24 rfl (Nat.le_of_ble_eq_true rfl) (ones_cons rfl (ones_cons r30761.one ones_nil)) ?_
  intro w30762 hp hs
  replace hz := hz.trans hs
  replace r30761 := r30761.step hs
  refine ⟨Stp I30759 w30762 I30759, Stp.refl _ _, fun x hx => hz.held hx, ?_⟩
  have hz := Stp.refl I30759 w30762
  apply go
  obtain rfl := Option.some.inj h
  refine ⟨_, run_loadVarA T24 rfl (hp.at_ (i := 0) rfl), ?_⟩
  have hp := hp.sel [] (by decide)
  exact ⟨I30759, v30760, rfl, hp, r30761⟩

end Go.Proofs.YthhghkcopfnbiaaGreatDoor

namespace Go.Proofs.YthhghkcopfnbiaaGreatDoor
open Go Go.Proofs.YthhghkcopfnbiaaGreatDoor.Gw Go.RowKit
set_option linter.unusedVariables false
attribute [local irreducible] Ev EvQ EvS EvH
def ref01_Mul_S (f : Int_2 → Int_2 → Option Int_2) : Prop := ∀ (w0 : World) (I0 : Nat → Prop) (x30763 : Int_2) (v30764 : Value) (r30765 : RepS (dI .u32) w0 I0 v30764 x30763.Mag) (x30766 : Int_2) (v30767 : Value) (r30768 : RepS (dI .u32) w0 I0 v30767 x30766.Mag) (hI : ∀ g, I0 g → g < w0.heap.size) (r : Int_2), f x30763 x30766 = some r →
    Ret Tryz.prog 38 #[(.agg #[(.bool x30763.Neg), v30764]), (.agg #[(.bool x30766.Neg), v30767])] w0 fun v w1 => ∃ (I1 : Nat → Prop) (u30769 : Value), v = (.agg #[(.bool r.Neg), u30769]) ∧ Hp ⟨w0, I0, []⟩ I1 [] w1 ∧ RepS (dI .u32) w1 I1 u30769 r.Mag
theorem ref01_Mul_ok (n : Nat) : ref01_Mul_S (ref01_Mul n) := by
  intro w0 I0 x30763 v30764 r30765 x30766 v30767 r30768 hI r h
  unfold ref01_Mul at h
  refine enter Tryz.func38 rfl (Nat.le_of_ble_eq_true rfl) ?_
  have hp : Hp ⟨w0, I0, []⟩ I0 [] w0 := Hp.start hI
  apply go
  apply go
  refine ev_boxI hp rfl rfl ?_
  intro p30772 I30773 w30771 hp hs a30774
  replace r30768 := r30768.step hs
  replace r30765 := r30765.step hs
  refine ev_boxI hp rfl rfl ?_
  intro p30777 I30778 w30776 hp hs a30779
  replace a30774 := a30774.step hs
  replace r30765 := r30765.step hs
  replace r30768 := r30768.step hs
  refine ev_alloc hp rfl T24 ?_
  intro g30780 w30781 hp hs
  replace a30774 := a30774.step hs
  replace r30765 := r30765.step hs
  replace a30779 := a30779.step hs
  replace r30768 := r30768.step hs
  apply go
  apply go
  refine ev0 (rn_field rfl rfl FO24_1) ?_
  refine ev (rn_load rfl rfl (run_loadVar1 T22 (a30774.2 1 _ rfl))) ?_
  refine ev0 (rn_len rfl rfl Tryz.underlying22 r30765) ?_
  refine ev0 (rn_field rfl rfl FO24_1) ?_
  refine ev (rn_load rfl rfl (run_loadVar1 T22 (a30779.2 1 _ rfl))) ?_
  refine ev0 (rn_len rfl rfl Tryz.underlying22 r30768) ?_
  obtain ⟨x30782, q30783, h⟩ := bind_some h
  refine ev_make (d := (dI .u32)) (x0 := 0) hp rfl rfl rfl Tryz.underlying22 T45 (fun _ _ => rfl) (Nat.le_of_ble_eq_true rfl) q30783 ?_
  intro v30784 e30785 w30786 hp hs o30787
  replace a30774 := a30774.step hs
  replace r30765 := r30765.step hs
  replace a30779 := a30779.step hs
  replace r30768 := r30768.step hs
  obtain ⟨y31903, q31904, h⟩ := bind_some h
  refine W.cut (γ := ((List Int) × Ent)) (fun g => [(2, (.pointer (some (p30772)))), (3, (.pointer (some (p30777)))), (4, (.pointer (some ⟨g30780, 0, none⟩))), (5, v30784)]) (fun g w' => y31903 = (g.1) ∧ Hp ⟨w0, I0, []⟩ I30778 [some (g30780, [(.bool false), (.slice none 0 0)], 24), (g.2)] w' ∧ RepS (dI .u32) w' I30778 v30764 x30763.Mag ∧ At w' I30778 p30772 [(.bool x30763.Neg), v30764] ∧ RepS (dI .u32) w' I30778 v30767 x30766.Mag ∧ At w' I30778 p30777 [(.bool x30766.Neg), v30767] ∧ OwnS (dI .u32) 45 w' I30778 v30784 (g.2) (g.1)) ?_ ?_
  ·
    apply go
    apply go
    apply go
    have hp := hp.perm [1, 0] (by decide)
    refine W.loop q31904 (γ := Ent) (fun s g => [(2, (.pointer (some (p30772)))), (3, (.pointer (some (p30777)))), (4, (.pointer (some ⟨g30780, 0, none⟩))), (5, v30784), (6, (.int .i64 (s.2)))]) (fun s g w' => Hp ⟨w0, I0, []⟩ I30778 [some (g30780, [(.bool false), (.slice none 0 0)], 24), (g)] w' ∧ RepS (dI .u32) w' I30778 v30764 x30763.Mag ∧ At w' I30778 p30772 [(.bool x30763.Neg), v30764] ∧ RepS (dI .u32) w' I30778 v30767 x30766.Mag ∧ At w' I30778 p30777 [(.bool x30766.Neg), v30767] ∧ OwnS (dI .u32) 45 w' I30778 v30784 (g) (s.1)) e30785 (.c rfl (.c rfl (.c rfl (.c rfl (.c rfl .n))))) ⟨hp, r30765, a30774, r30768, a30779, o30787⟩ ?_
    rintro ⟨x32270, x32274⟩ e32272 w32645 y32646 ⟨hp, r30765, a30774, r30768, a30779, o32273⟩ q32647 q32648
    unfold ref01_Mul_L11 at q32647
    apply go
    apply go
    apply go
    refine ev0 (rn_field rfl rfl FO24_1) ?_
    refine ev (rn_load rfl rfl (run_loadVar1 T22 (a30774.2 1 _ rfl))) ?_
    refine ev0 (rn_len rfl rfl Tryz.underlying22 r30765) ?_
    apply go
    refine sel_of (fun hc => ?_) (fun hc => ?_)
    ·
      have q32647 := cond_t q32647 hc
      apply go
      obtain ⟨y32833, q32834, q32647⟩ := bind_some q32647
      refine W.cut (γ := ((List Int) × Ent)) (fun g => [(2, (.pointer (some (p30772)))), (3, (.pointer (some (p30777)))), (4, (.pointer (some ⟨g30780, 0, none⟩))), (5, v30784), (6, (.int .i64 x32274))]) (fun g w' => y32833 = (g.1) ∧ Hp ⟨w0, I0, []⟩ I30778 [some (g30780, [(.bool false), (.slice none 0 0)], 24), (g.2)] w' ∧ RepS (dI .u32) w' I30778 v30764 x30763.Mag ∧ At w' I30778 p30772 [(.bool x30763.Neg), v30764] ∧ RepS (dI .u32) w' I30778 v30767 x30766.Mag ∧ At w' I30778 p30777 [(.bool x30766.Neg), v30767] ∧ OwnS (dI .u32) 45 w' I30778 v30784 (g.2) (g.1)) ?_ ?_
      ·
        apply go
        apply go
        apply go
        apply go
        apply go
        apply go
        refine W.loop q32834 (γ := Ent) (fun s g => [(2, (.pointer (some (p30772)))), (3, (.pointer (some (p30777)))), (4, (.pointer (some ⟨g30780, 0, none⟩))), (5, v30784), (6, (.int .i64 x32274)), (7, (.int .u64 (s.2.1))), (8, (.int .i64 (s.2.2)))]) (fun s g w' => Hp ⟨w0, I0, []⟩ I30778 [some (g30780, [(.bool false), (.slice none 0 0)], 24), (g)] w' ∧ RepS (dI .u32) w' I30778 v30764 x30763.Mag ∧ At w' I30778 p30772 [(.bool x30763.Neg), v30764] ∧ RepS (dI .u32) w' I30778 v30767 x30766.Mag ∧ At w' I30778 p30777 [(.bool x30766.Neg), v30767] ∧ OwnS (dI .u32) 45 w' I30778 v30784 (g) (s.1)) e32272 (.c rfl (.c rfl (.c rfl (.c rfl (.c rfl (.c rfl (.c rfl .n))))))) ⟨hp, r30765, a30774, r30768, a30779, o32273⟩ ?_
        rintro ⟨x32889, x32893, x32894⟩ e32891 w32955 y32956 ⟨hp, r30765, a30774, r30768, a30779, o32892⟩ q32957 q32958
        unfold ref01_Mul_L13 at q32957
        apply go
        obtain ⟨y32960, q32961, q32957⟩ := bind_some q32957
        refine W.cut (γ := Bool) (fun g => [(2, (.pointer (some (p30772)))), (3, (.pointer (some (p30777)))), (4, (.pointer (some ⟨g30780, 0, none⟩))), (5, v30784), (6, (.int .i64 x32274)), (7, (.int .u64 x32893)), (8, (.int .i64 x32894)), (34, (.bool (g)))]) (fun g w' => y32960 = (g) ∧ w32955 = w') ?_ ?_
        ·
          apply go
          refine ev0 (rn_field rfl rfl FO24_1) ?_
          refine ev (rn_load rfl rfl (run_loadVar1 T22 (a30779.2 1 _ rfl))) ?_
          refine ev0 (rn_len rfl rfl Tryz.underlying22 r30768) ?_
          refine sel_of (fun hc => ?_) (fun hc => ?_)
          ·
            have q32961 := cond_t q32961 hc
            obtain rfl := Option.some.inj q32961
            exact ⟨true, (.c rfl (.c rfl (.c rfl (.c rfl (.c rfl (.c rfl (.c rfl (.c rfl .n)))))))), rfl, rfl⟩
          ·
            have q32961 := cond_f q32961 hc
            obtain rfl := Option.some.inj q32961
            exact ⟨(decide (x32893 > 0)), (.c rfl (.c rfl (.c rfl (.c rfl (.c rfl (.c rfl (.c rfl (.c rfl .n)))))))), rfl, rfl⟩
        ·
          rintro x32959 _ ⟨hy, rfl⟩
          replace hy := hy.symm
          subst hy
          apply go
          refine sel_of (fun hc => ?_) (fun hc => ?_)
          ·
            have q32957 := cond_t q32957 hc
            apply go
            apply go
            apply go
            apply go
            apply go
            obtain ⟨x32962, q32963, q32957⟩ := bind_some q32957
            refine ev_indexO rfl rfl rfl Tryz.underlying22 T45 o32892 q32963 ?_
            intro g32964 c32965 h32968 d32966 l32967
            refine ev (rn_load rfl rfl (run_loadVar1 T45 (hp.cellE (i := 1) rfl h32968 d32966 (j := 0) rfl))) ?_
            refine ev0 (rn_conv rfl rfl U45 Tryz.underlying49) ?_
            obtain ⟨y32985, q32986, q32957⟩ := bind_some q32957
            refine W.cut (γ := Int) (fun g => [(2, (.pointer (some (p30772)))), (3, (.pointer (some (p30777)))), (4, (.pointer (some ⟨g30780, 0, none⟩))), (5, v30784), (6, (.int .i64 x32274)), (8, (.int .i64 x32894)), (9, (.int .u64 (g)))]) (fun g w' => y32985 = (g) ∧ Hp ⟨w0, I0, []⟩ I30778 [some (g30780, [(.bool false), (.slice none 0 0)], 24), e32891] w' ∧ RepS (dI .u32) w' I30778 v30764 x30763.Mag ∧ At w' I30778 p30772 [(.bool x30763.Neg), v30764] ∧ RepS (dI .u32) w' I30778 v30767 x30766.Mag ∧ At w' I30778 p30777 [(.bool x30766.Neg), v30767] ∧ OwnS (dI .u32) 45 w' I30778 v30784 e32891 x32889) ?_ ?_
            ·
              apply go
              apply go
              refine ev0 (rn_field rfl rfl FO24_1) ?_
              refine ev (rn_load rfl rfl (run_loadVar1 T22 (a30779.2 1 _ rfl))) ?_
              refine ev0 (rn_len rfl rfl Tryz.underlying22 r30768) ?_
              apply go
              refine sel_of (fun hc => ?_) (fun hc => ?_)
              ·
                have q32986 := cond_t q32986 hc
                refine W.quiet (fun w' => Ch [] w32955 w') MX (by kernel_rfl) (Ch.drew [] w32955) ?_
                refine evq0 (rn_field rfl rfl FO24_1) ?_
                refine evq (fun w' hw => rn_load rfl rfl (run_loadVar1 T22 ((a30774.step (hp.stp hw)).2 1 _ rfl))) ?_
                obtain ⟨x32987, q32988, q32986⟩ := bind_some q32986
                refine evq_index rfl rfl rfl Tryz.underlying22 T45 r30765 q32988 ?_
                intro p32989 c32990 d32991 a32992
                obtain rfl : c32990 = [(.int .u32 x32987)] := d32991
                refine evq (fun w' hw => rn_load rfl rfl (run_loadVar1 T45 ((a32992.step (hp.stp hw)).2 0 _ rfl))) ?_
                refine evq0 (rn_conv rfl rfl U45 Tryz.underlying49) ?_
                refine evq0 (rn_field rfl rfl FO24_1) ?_
                refine evq (fun w' hw => rn_load rfl rfl (run_loadVar1 T22 ((a30779.step (hp.stp hw)).2 1 _ rfl))) ?_
                obtain ⟨x32993, q32994, q32986⟩ := bind_some q32986
                refine evq_index rfl rfl rfl Tryz.underlying22 T45 r30768 q32994 ?_
                intro p32995 c32996 d32997 a32998
                obtain rfl : c32996 = [(.int .u32 x32993)] := d32997
                refine evq (fun w' hw => rn_load rfl rfl (run_loadVar1 T45 ((a32998.step (hp.stp hw)).2 0 _ rfl))) ?_
                refine evq0 (rn_conv rfl rfl U45 Tryz.underlying49) ?_
                intro w32999 hc
                have hs := hp.stp hc
                replace hp := hp.ext hc
                replace a30774 := a30774.step hs
                replace r30765 := r30765.step hs
                replace a30779 := a30779.step hs
                replace r30768 := r30768.step hs
                replace o32892 := o32892.step hs
                obtain rfl := Option.some.inj q32986
                exact ⟨(IntKind.u64.wrap ((IntKind.u64.wrap ((IntKind.u64.wrap x32962) + x32893)) + (IntKind.u64.wrap ((IntKind.u64.wrap x32987) * (IntKind.u64.wrap x32993))))), (.c rfl (.c rfl (.c rfl (.c rfl (.c rfl (.c rfl (.c rfl .n))))))), rfl, hp, r30765, a30774, r30768, a30779, o32892⟩
              ·
                have q32986 := cond_f q32986 hc
                apply go
                obtain rfl := Option.some.inj q32986
                exact ⟨(IntKind.u64.wrap ((IntKind.u64.wrap x32962) + x32893)), (.c rfl (.c rfl (.c rfl (.c rfl (.c rfl (.c rfl (.c rfl .n))))))), rfl, hp, r30765, a30774, r30768, a30779, o32892⟩
            ·
              rintro x32983 w32984 ⟨hy, hp, r30765, a30774, r30768, a30779, o32892⟩
              replace hy := hy.symm
              subst hy
              apply go
              apply go
              refine ev0 (rn_conv rfl rfl U49 Tryz.underlying45) ?_
              obtain ⟨x33000, q33001, q32957⟩ := bind_some q32957
              refine ev_indexO rfl rfl rfl Tryz.underlying22 T45 o32892 q33001 ?_
              intro g33002 c33003 h33006 d33004 l33005
              refine ev_storeE hp (i := 1) rfl h33006 rfl rfl rfl T45 o32892 q33001 (x0 := (IntKind.u32.wrap x32983)) rfl ?_
              intro e33009 w33008 hp hs o33010
              replace a30774 := a30774.step hs
              replace r30765 := r30765.step hs
              replace a30779 := a30779.step hs
              replace r30768 := r30768.step hs
              apply go
              refine ⟨by decide, ?_⟩
              apply go
              exact ⟨_, (Option.some.inj q32957).symm, e33009, (.c rfl (.c rfl (.c rfl (.c rfl (.c rfl (.c rfl (.c rfl .n))))))), ⟨hp, r30765, a30774, r30768, a30779, o33010⟩⟩
          ·
            have q32957 := cond_f q32957 hc
            apply go
            have q33013 := congrArg some (q32958 _ (Option.some.inj q32957).symm)
            obtain rfl := Option.some.inj q33013
            exact ⟨(x32889, e32891), (.c rfl (.c rfl (.c rfl (.c rfl (.c rfl .n))))), rfl, hp, r30765, a30774, r30768, a30779, o32892⟩
      ·
        rintro ⟨x32828, e32830⟩ w32832 ⟨hy, hp, r30765, a30774, r30768, a30779, o32831⟩
        replace hy := hy.symm
        subst hy
        apply go
        exact ⟨_, (Option.some.inj q32647).symm, e32830, (.c rfl (.c rfl (.c rfl (.c rfl (.c rfl .n))))), ⟨hp, r30765, a30774, r30768, a30779, o32831⟩⟩
    ·
      have q32647 := cond_f q32647 hc
      apply go
      have q33014 := congrArg some (q32648 _ (Option.some.inj q32647).symm)
      obtain rfl := Option.some.inj q33014
      exact ⟨(x32270, e32272), (.c rfl (.c rfl (.c rfl (.c rfl .n)))), rfl, hp, r30765, a30774, r30768, a30779, o32273⟩
  ·
    rintro ⟨x31898, e31900⟩ w31902 ⟨hy, hp, r30765, a30774, r30768, a30779, o31901⟩
    replace hy := hy.symm
    subst hy
    apply go
    apply go
    refine ev0 (rn_field rfl rfl FO24_0) ?_
    refine ev (rn_load rfl rfl (run_loadVar1 T4 (a30774.2 0 _ rfl))) ?_
    refine ev0 (rn_field rfl rfl FO24_0) ?_
    refine ev (rn_load rfl rfl (run_loadVar1 T4 (a30779.2 0 _ rfl))) ?_
    refine ev0 (rn_neB rfl rfl rfl Tryz.underlying4) ?_
    obtain ⟨A33015, m33016, m33017, rfl⟩ := o31901.isSl
    refine ev0 (fun w => rn_build (cs := [(.bool (!(x30763.Neg == x30766.Neg))), (.slice A33015 m33016 m33017)]) rfl rfl T24 PL24 rfl) ?_
    have r33019 := o31901.frz hp (i := 1) rfl
    obtain ⟨hp, hs⟩ := freeze_hp hp (i := 1) rfl
    have hp := hp.sel [0] (by decide)
    obtain ⟨x33020, q33021, h⟩ := bind_some h
    refine ev_call rfl rfl C28 (((ref01_Norm_ok n) _ _  (Int_2.mk (!(x30763.Neg == x30766.Neg)) x31898) (.slice A33015 m33016 m33017) r33019 hp.imm _ q33021).mono ?_)
    rintro _ w33022 ⟨I33023, v33024, hv, hq, r33025⟩
    replace hv := hv.symm
    subst hv
    have hs := hq.st
    have hp := hp.join0 hq
    refine ev_storeA hp (i := 0) (off := 0) (vs := [(.bool x33020.Neg), v33024]) rfl rfl rfl rfl T24 rfl (Nat.le_of_ble_eq_true rfl) (ones_cons rfl (ones_cons r33025.one ones_nil)) ?_
    intro w33026 hp hs
    replace r33025 := r33025.step hs
    apply go
    obtain rfl := Option.some.inj h
    refine ⟨_, run_loadVarA T24 rfl (hp.at_ (i := 0) rfl), ?_⟩
    have hp := hp.sel [] (by decide)
    exact ⟨I33023, v33024, rfl, hp, r33025⟩

end Go.Proofs.YthhghkcopfnbiaaGreatDoor

namespace Go.Proofs.YthhghkcopfnbiaaGreatDoor
open Go Go.Proofs.YthhghkcopfnbiaaGreatDoor.Gw Go.RowKit
set_option linter.unusedVariables false
attribute [local irreducible] Ev EvQ EvS EvH
def ref01_Cmp_S (f : Int_2 → Int_2 → Option Int) : Prop := ∀ (w0 : World) (I0 : Nat → Prop) (x22638 : Int_2) (v22639 : Value) (r22640 : RepS (dI .u32) w0 I0 v22639 x22638.Mag) (x22641 : Int_2) (v22642 : Value) (r22643 : RepS (dI .u32) w0 I0 v22642 x22641.Mag) (hI : ∀ g, I0 g → g < w0.heap.size) (r : Int), f x22638 x22641 = some r →
    Ret Tryz.prog 39 #[(.agg #[(.bool x22638.Neg), v22639]), (.agg #[(.bool x22641.Neg), v22642])] w0 fun v w1 => v = (.int .i64 r) ∧ Ch [] w0 w1
theorem ref01_Cmp_ok (n : Nat) : ref01_Cmp_S (ref01_Cmp n) := by
  intro w0 I0 x22638 v22639 r22640 x22641 v22642 r22643 hI r h
  unfold ref01_Cmp at h
  refine enter Tryz.func39 rfl (Nat.le_of_ble_eq_true rfl) ?_
  have hp : Hp ⟨w0, I0, []⟩ I0 [] w0 := Hp.start hI
  apply go
  apply go
  refine ev_box hp rfl rfl ?_
  intro g22644 w22645 hp hs
  replace r22643 := r22643.step hs
  replace r22640 := r22640.step hs
  refine ev_box hp rfl rfl ?_
  intro g22646 w22647 hp hs
  replace r22643 := r22643.step hs
  replace r22640 := r22640.step hs
  apply go
  apply go
  refine ev (rn_load rfl rfl (run_loadVarA T24 rfl (hp.at_ (i := 1) rfl))) ?_
  obtain ⟨x22648, q22649, h⟩ := bind_some h
  refine ev_call rfl rfl C28 (((ref01_Norm_ok n) _ _  (Int_2.mk x22638.Neg x22638.Mag) v22639 r22640 hp.imm _ q22649).mono ?_)
  rintro _ w22650 ⟨I22651, v22652, hv, hq, r22653⟩
  replace hv := hv.symm
  subst hv
  have hs := hq.st
  have hp := hp.join0 hq
  replace r22643 := r22643.step hs
  replace r22640 := r22640.step hs
  refine ev_storeA hp (i := 1) (off := 0) (vs := [(.bool x22648.Neg), v22652]) rfl rfl rfl rfl T24 rfl (Nat.le_of_ble_eq_true rfl) (ones_cons rfl (ones_cons r22653.one ones_nil)) ?_
  intro w22654 hp hs
  replace r22643 := r22643.step hs
  replace r22653 := r22653.step hs
  apply go
  apply go
  refine ev (rn_load rfl rfl (run_loadVarA T24 rfl (hp.at_ (i := 0) rfl))) ?_
  obtain ⟨x22655, q22656, h⟩ := bind_some h
  refine ev_call rfl rfl C28 (((ref01_Norm_ok n) _ _  (Int_2.mk x22641.Neg x22641.Mag) v22642 r22643 hp.imm _ q22656).mono ?_)
  rintro _ w22657 ⟨I22658, v22659, hv, hq, r22660⟩
  replace hv := hv.symm
  subst hv
  have hs := hq.st
  have hp := hp.join0 hq
  replace r22643 := r22643.step hs
  replace r22653 := r22653.step hs
  refine ev_storeA hp (i := 0) (off := 0) (vs := [(.bool x22655.Neg), v22659]) rfl rfl rfl rfl T24 rfl (Nat.le_of_ble_eq_true rfl) (ones_cons rfl (ones_cons r22660.one ones_nil)) ?_
  intro w22661 hp hs
  replace r22660 := r22660.step hs
  replace r22653 := r22653.step hs
  apply go
  apply go
  apply go
  refine ev0 (rn_field rfl rfl FO24_0) ?_
  refine ev (rn_load rfl rfl (run_loadVar1 T4 (hp.cell (i := 1) (off := 0) rfl rfl))) ?_
  refine ev0 (rn_field rfl rfl FO24_0) ?_
  refine ev (rn_load rfl rfl (run_loadVar1 T4 (hp.cell (i := 0) (off := 0) rfl rfl))) ?_
  refine ev0 (rn_neB rfl rfl rfl Tryz.underlying4) ?_
  apply go
  refine sel_of (fun hc => ?_) (fun hc => ?_)
  ·
    have h := cond_t h hc
    apply go
    apply go
    apply go
    refine ev0 (rn_field rfl rfl FO24_0) ?_
    refine ev (rn_load rfl rfl (run_loadVar1 T4 (hp.cell (i := 1) (off := 0) rfl rfl))) ?_
    apply go
    refine sel_of (fun hc => ?_) (fun hc => ?_)
    ·
      have h := cond_t h hc
      apply go
      apply go
      apply go
      obtain rfl := Option.some.inj h
      exact ⟨rfl, hp.ch⟩
    ·
      have h := cond_f h hc
      apply go
      apply go
      apply go
      apply go
      obtain rfl := Option.some.inj h
      exact ⟨rfl, hp.ch⟩
  ·
    have h := cond_f h hc
    apply go
    apply go
    apply go
    apply go
    refine ev0 (rn_field rfl rfl FO24_0) ?_
    refine ev (rn_load rfl rfl (run_loadVar1 T4 (hp.cell (i := 1) (off := 0) rfl rfl))) ?_
    apply go
    refine sel_of (fun hc => ?_) (fun hc => ?_)
    ·
      have h := cond_t h hc
      apply go
      apply go
      refine ev0 (rn_field rfl rfl FO24_1) ?_
      refine ev (rn_load rfl rfl (run_loadVar1 T22 (hp.cell (i := 0) (off := 1) rfl rfl))) ?_
      refine ev0 (rn_field rfl rfl FO24_1) ?_
      refine ev (rn_load rfl rfl (run_loadVar1 T22 (hp.cell (i := 1) (off := 1) rfl rfl))) ?_
      obtain ⟨x22662, q22663, h⟩ := bind_some h
      refine ev_call rfl rfl C52 (((ref01_cmp_ok n) _ _  x22655.Mag v22659 r22660 x22648.Mag v22652 r22653 hp.imm _ q22663).mono ?_)
      rintro _ w22664 ⟨rfl, hc⟩
      have hs := hp.stp hc
      replace hp := hp.ext hc
      replace r22660 := r22660.step hs
      replace r22653 := r22653.step hs
      apply go
      obtain rfl := Option.some.inj h
      exact ⟨rfl, hp.ch⟩
    ·
      have h := cond_f h hc
      apply go
      apply go
      apply go
      refine ev0 (rn_field rfl rfl FO24_1) ?_
      refine ev (rn_load rfl rfl (run_loadVar1 T22 (hp.cell (i := 1) (off := 1) rfl rfl))) ?_
      refine ev0 (rn_field rfl rfl FO24_1) ?_
      refine ev (rn_load rfl rfl (run_loadVar1 T22 (hp.cell (i := 0) (off := 1) rfl rfl))) ?_
      obtain ⟨x22665, q22666, h⟩ := bind_some h
      refine ev_call rfl rfl C52 (((ref01_cmp_ok n) _ _  x22648.Mag v22652 r22653 x22655.Mag v22659 r22660 hp.imm _ q22666).mono ?_)
      rintro _ w22667 ⟨rfl, hc⟩
      have hs := hp.stp hc
      replace hp := hp.ext hc
      replace r22660 := r22660.step hs
      replace r22653 := r22653.step hs
      apply go
      obtain rfl := Option.some.inj h
      exact ⟨rfl, hp.ch⟩

end Go.Proofs.YthhghkcopfnbiaaGreatDoor

namespace Go.Proofs.YthhghkcopfnbiaaGreatDoor
open Go Go.Proofs.YthhghkcopfnbiaaGreatDoor.Gw Go.RowKit
set_option linter.unusedVariables false
attribute [local irreducible] Ev EvQ EvS EvH
def integer_Neg_S (f : Int_2 → Option Int_2) : Prop := ∀ (w0 : World) (I0 : Nat → Prop) (x33027 : Int_2) (v33028 : Value) (r33029 : RepS (dI .u32) w0 I0 v33028 x33027.Mag) (hI : ∀ g, I0 g → g < w0.heap.size) (r : Int_2), f x33027 = some r →
    Ret Tryz.prog 40 #[(.agg #[(.bool x33027.Neg), v33028])] w0 fun v w1 => ∃ (I1 : Nat → Prop) (u33030 : Value), v = (.agg #[(.bool r.Neg), u33030]) ∧ Hp ⟨w0, I0, []⟩ I1 [] w1 ∧ RepS (dI .u32) w1 I1 u33030 r.Mag
theorem integer_Neg_ok (n : Nat) : integer_Neg_S (integer_Neg n) := by
  intro w0 I0 x33027 v33028 r33029 hI r h
  unfold integer_Neg at h
  refine enter Tryz.func40 rfl (Nat.le_of_ble_eq_true rfl) ?_
  have hp : Hp ⟨w0, I0, []⟩ I0 [] w0 := Hp.start hI
  apply go
  apply go
  refine ev_boxI hp rfl rfl ?_
  intro p33033 I33034 w33032 hp hs a33035
  replace r33029 := r33029.step hs
  refine ev_alloc hp rfl T24 ?_
  intro g33036 w33037 hp hs
  replace a33035 := a33035.step hs
  replace r33029 := r33029.step hs
  apply go
  have hs := hp.stp (Ch.drew [] w33037)
  have hp := hp.drew
  replace a33035 := a33035.step hs
  replace r33029 := r33029.step hs
  refine W.held [(0, true), (1, true), (2, true), (3, true), (4, true), (5, false), (6, false), (7, false), (8, false)] (Stp I33034 w33037.drew I33034) MX (by kernel_rfl) (Stp.refl _ _) ?_
  have hz := Stp.refl I33034 w33037.drew
  refine evh0 (rn_field rfl rfl FO24_0) ?_
  refine evh (fun w' hw => rn_load rfl rfl (run_loadVar1 T4 ((a33035.step hw).2 0 _ rfl))) ?_
  refine evh0 (rn_field rfl rfl FO24_1) ?_
  refine evh (fun w' hw => rn_load rfl rfl (run_loadVar1 T22 ((a33035.step hw).2 1 _ rfl))) ?_
  obtain ⟨x33057, q33058, h⟩ := bind_some h
  refine ev_call rfl rfl C46 (((integer_trim_ok n) _ _  x33027.Mag v33028 r33029 hp.imm _ q33058).mono ?_)
  rintro _ w33059 ⟨I33060, v33061, hv, hq, r33062⟩
  replace hv := hv.symm
  subst hv
  have hs := hq.st
  have hp := hp.join0 hq
  replace hz := hz.trans hs
  refine ⟨Stp I33060 w33059 I33060, Stp.refl _ _, fun x hx => hz.held hx, ?_⟩
  have hz := Stp.refl I33060 w33059
  obtain ⟨x33063, q33064, h⟩ := bind_some h
  refine ev_call rfl rfl C56 (((slices_Cloneuint32_uint32__ok n) _ _  x33057 v33061 r33062 hp.imm _ q33064).mono ?_)
  rintro _ w33065 ⟨I33066, v33067, hv, hq, r33068⟩
  replace hv := hv.symm
  subst hv
  have hs := hq.st
  have hp := hp.join0 hq
  replace hz := hz.trans hs
  refine ⟨Stp I33066 w33065 I33066, Stp.refl _ _, fun x hx => hz.held hx, ?_⟩
  have hz := Stp.refl I33066 w33065
  obtain ⟨x33069, q33070, h⟩ := bind_some h
  refine ev_call rfl rfl C49 (((integer_made_ok n) _ _  (!x33027.Neg) x33063 v33067 r33068 hp.imm _ q33070).mono ?_)
  rintro _ w33071 ⟨I33072, v33073, hv, hq, r33074⟩
  replace hv := hv.symm
  subst hv
  have hs := hq.st
  have hp := hp.join0 hq
  replace hz := hz.trans hs
  refine ⟨Stp I33072 w33071 I33072, Stp.refl _ _, fun x hx => hz.held hx, ?_⟩
  have hz := Stp.refl I33072 w33071
  refine ev_storeA hp (i := 0) (off := 0) (vs := [(.bool x33069.Neg), v33073]) rfl rfl rfl rfl T24 rfl (Nat.le_of_ble_eq_true rfl) (ones_cons rfl (ones_cons r33074.one ones_nil)) ?_
  intro w33075 hp hs
  replace hz := hz.trans hs
  replace r33074 := r33074.step hs
  refine ⟨Stp I33072 w33075 I33072, Stp.refl _ _, fun x hx => hz.held hx, ?_⟩
  have hz := Stp.refl I33072 w33075
  apply go
  obtain rfl := Option.some.inj h
  refine ⟨_, run_loadVarA T24 rfl (hp.at_ (i := 0) rfl), ?_⟩
  have hp := hp.sel [] (by decide)
  exact ⟨I33072, v33073, rfl, hp, r33074⟩

end Go.Proofs.YthhghkcopfnbiaaGreatDoor

namespace Go.Proofs.YthhghkcopfnbiaaGreatDoor
open Go Go.Proofs.YthhghkcopfnbiaaGreatDoor.Gw Go.RowKit
set_option linter.unusedVariables false
attribute [local irreducible] Ev EvQ EvS EvH
def ref01_Abs_S (f : Int_2 → Option Int_2) : Prop := ∀ (w0 : World) (I0 : Nat → Prop) (x23048 : Int_2) (v23049 : Value) (r23050 : RepS (dI .u32) w0 I0 v23049 x23048.Mag) (hI : ∀ g, I0 g → g < w0.heap.size) (r : Int_2), f x23048 = some r →
    Ret Tryz.prog 42 #[(.agg #[(.bool x23048.Neg), v23049])] w0 fun v w1 => ∃ (I1 : Nat → Prop) (u23051 : Value), v = (.agg #[(.bool r.Neg), u23051]) ∧ Hp ⟨w0, I0, []⟩ I1 [] w1 ∧ RepS (dI .u32) w1 I1 u23051 r.Mag
theorem ref01_Abs_ok (n : Nat) : ref01_Abs_S (ref01_Abs n) := by
  intro w0 I0 x23048 v23049 r23050 hI r h
  unfold ref01_Abs at h
  refine enter Tryz.func42 rfl (Nat.le_of_ble_eq_true rfl) ?_
  have hp : Hp ⟨w0, I0, []⟩ I0 [] w0 := Hp.start hI
  apply go
  apply go
  refine ev_boxI hp rfl rfl ?_
  intro p23054 I23055 w23053 hp hs a23056
  replace r23050 := r23050.step hs
  refine ev_alloc hp rfl T24 ?_
  intro g23057 w23058 hp hs
  replace a23056 := a23056.step hs
  replace r23050 := r23050.step hs
  apply go
  apply go
  refine ev0 (rn_field rfl rfl FO24_1) ?_
  refine ev (rn_load rfl rfl (run_loadVar1 T22 (a23056.2 1 _ rfl))) ?_
  obtain ⟨A23059, m23060, m23061, rfl⟩ := r23050.isSl
  refine ev0 (fun w => rn_build (cs := [(.bool false), (.slice A23059 m23060 m23061)]) rfl rfl T24 PL24 rfl) ?_
  obtain ⟨x23063, q23064, h⟩ := bind_some h
  refine ev_call rfl rfl C28 (((ref01_Norm_ok n) _ _  (Int_2.mk false x23048.Mag) (.slice A23059 m23060 m23061) r23050 hp.imm _ q23064).mono ?_)
  rintro _ w23065 ⟨I23066, v23067, hv, hq, r23068⟩
  replace hv := hv.symm
  subst hv
  have hs := hq.st
  have hp := hp.join0 hq
  refine ev_storeA hp (i := 0) (off := 0) (vs := [(.bool x23063.Neg), v23067]) rfl rfl rfl rfl T24 rfl (Nat.le_of_ble_eq_true rfl) (ones_cons rfl (ones_cons r23068.one ones_nil)) ?_
  intro w23069 hp hs
  replace r23068 := r23068.step hs
  apply go
  obtain rfl := Option.some.inj h
  refine ⟨_, run_loadVarA T24 rfl (hp.at_ (i := 0) rfl), ?_⟩
  have hp := hp.sel [] (by decide)
  exact ⟨I23066, v23067, rfl, hp, r23068⟩

end Go.Proofs.YthhghkcopfnbiaaGreatDoor

namespace Go.Proofs.YthhghkcopfnbiaaGreatDoor
open Go Go.Proofs.YthhghkcopfnbiaaGreatDoor.Gw Go.RowKit
set_option linter.unusedVariables false
attribute [local irreducible] Ev EvQ EvS EvH
def ref01_Sign_S (f : Int_2 → Option Int) : Prop := ∀ (w0 : World) (I0 : Nat → Prop) (x33076 : Int_2) (v33077 : Value) (r33078 : RepS (dI .u32) w0 I0 v33077 x33076.Mag) (hI : ∀ g, I0 g → g < w0.heap.size) (r : Int), f x33076 = some r →
    Ret Tryz.prog 43 #[(.agg #[(.bool x33076.Neg), v33077])] w0 fun v w1 => v = (.int .i64 r) ∧ Ch [] w0 w1
theorem ref01_Sign_ok (n : Nat) : ref01_Sign_S (ref01_Sign n) := by
  intro w0 I0 x33076 v33077 r33078 hI r h
  unfold ref01_Sign at h
  refine enter Tryz.func43 rfl (Nat.le_of_ble_eq_true rfl) ?_
  have hp : Hp ⟨w0, I0, []⟩ I0 [] w0 := Hp.start hI
  apply go
  apply go
  refine ev_boxI hp rfl rfl ?_
  intro p33081 I33082 w33080 hp hs a33083
  replace r33078 := r33078.step hs
  apply go
  apply go
  apply go
  refine ev0 (rn_field rfl rfl FO24_1) ?_
  refine ev (rn_load rfl rfl (run_loadVar1 T22 (a33083.2 1 _ rfl))) ?_
  obtain ⟨x33084, q33085, h⟩ := bind_some h
  refine ev_call rfl rfl C47 (((ref01_trim_ok n) _ _  x33076.Mag v33077 r33078 hp.imm _ q33085).mono ?_)
  rintro _ w33086 ⟨I33087, v33088, e33089, hv, hq, o33090⟩
  replace hv := hv.symm
  subst hv
  have hs := hq.st
  have hp := hp.join0 hq
  replace a33083 := a33083.step hs
  replace r33078 := r33078.step hs
  refine ev0 (x_lenO rfl rfl Tryz.underlying22 o33090) ?_
  apply go
  refine sel_of (fun hc => ?_) (fun hc => ?_)
  ·
    have h := cond_t h hc
    apply go
    apply go
    apply go
    obtain rfl := Option.some.inj h
    exact ⟨rfl, hp.ch⟩
  ·
    have h := cond_f h hc
    apply go
    apply go
    apply go
    apply go
    refine ev0 (rn_field rfl rfl FO24_0) ?_
    refine ev (rn_load rfl rfl (run_loadVar1 T4 (a33083.2 0 _ rfl))) ?_
    apply go
    refine sel_of (fun hc => ?_) (fun hc => ?_)
    ·
      have h := cond_t h hc
      apply go
      apply go
      apply go
      obtain rfl := Option.some.inj h
      exact ⟨rfl, hp.ch⟩
    ·
      have h := cond_f h hc
      apply go
      apply go
      apply go
      apply go
      obtain rfl := Option.some.inj h
      exact ⟨rfl, hp.ch⟩

end Go.Proofs.YthhghkcopfnbiaaGreatDoor

namespace Go.Proofs.YthhghkcopfnbiaaGreatDoor
open Go Go.Proofs.YthhghkcopfnbiaaGreatDoor.Gw Go.RowKit
set_option linter.unusedVariables false
attribute [local irreducible] Ev EvQ EvS EvH
def ref01_bit_S (f : (List Int) → Int → Option Int) : Prop := ∀ (w0 : World) (I0 : Nat → Prop) (x33091 : (List Int)) (v33092 : Value) (r33093 : RepS (dI .u32) w0 I0 v33092 x33091) (x33094 : Int) (hI : ∀ g, I0 g → g < w0.heap.size) (r : Int), f x33091 x33094 = some r →
    Ret Tryz.prog 68 #[v33092, (.int .i64 x33094)] w0 fun v w1 => v = (.int .u32 r) ∧ Ch [] w0 w1
theorem ref01_bit_ok (n : Nat) : ref01_bit_S (ref01_bit n) := by
  intro w0 I0 x33091 v33092 r33093 x33094 hI r h
  unfold ref01_bit at h
  refine enter Tryz.func68 rfl (Nat.le_of_ble_eq_true rfl) ?_
  have hp : Hp ⟨w0, I0, []⟩ I0 [] w0 := Hp.start hI
  apply go
  apply go
  apply go
  apply go
  apply go
  refine ⟨by decide, ?_⟩
  refine ev0 (rn_len rfl rfl Tryz.underlying22 r33093) ?_
  apply go
  refine sel_of (fun hc => ?_) (fun hc => ?_)
  ·
    have h := cond_t h hc
    apply go
    apply go
    apply go
    obtain rfl := Option.some.inj h
    exact ⟨rfl, hp.ch⟩
  ·
    have h := cond_f h hc
    apply go
    apply go
    apply go
    refine ⟨by decide, ?_⟩
    obtain ⟨x33095, q33096, h⟩ := bind_some h
    refine ev_index rfl rfl rfl Tryz.underlying22 T45 r33093 q33096 ?_
    intro p33097 c33098 d33099 a33100
    obtain rfl : c33098 = [(.int .u32 x33095)] := d33099
    refine ev (rn_load rfl rfl (run_loadVar1 T45 (a33100.2 0 _ rfl))) ?_
    refine ⟨by decide, ?_⟩
    refine ev0 (rn_conv rfl rfl U3 Tryz.underlying43) ?_
    obtain ⟨q33101, _, h⟩ := need_some h
    refine ⟨q33101, ?_⟩
    refine ⟨by decide, ?_⟩
    apply go
    obtain rfl := Option.some.inj h
    exact ⟨rfl, hp.ch⟩

end Go.Proofs.YthhghkcopfnbiaaGreatDoor

namespace Go.Proofs.YthhghkcopfnbiaaGreatDoor
open Go Go.Proofs.YthhghkcopfnbiaaGreatDoor.Gw Go.RowKit
set_option linter.unusedVariables false
attribute [local irreducible] Ev EvQ EvS EvH
def ref01_Bits_S (f : Int_2 → Option Int) : Prop := ∀ (w0 : World) (I0 : Nat → Prop) (x33102 : Int_2) (v33103 : Value) (r33104 : RepS (dI .u32) w0 I0 v33103 x33102.Mag) (hI : ∀ g, I0 g → g < w0.heap.size) (r : Int), f x33102 = some r →
    Ret Tryz.prog 44 #[(.agg #[(.bool x33102.Neg), v33103])] w0 fun v w1 => v = (.int .i64 r) ∧ Ch [] w0 w1
theorem ref01_Bits_ok (n : Nat) : ref01_Bits_S (ref01_Bits n) := by
  intro w0 I0 x33102 v33103 r33104 hI r h
  unfold ref01_Bits at h
  refine enter Tryz.func44 rfl (Nat.le_of_ble_eq_true rfl) ?_
  have hp : Hp ⟨w0, I0, []⟩ I0 [] w0 := Hp.start hI
  apply go
  apply go
  refine ev_boxI hp rfl rfl ?_
  intro p33107 I33108 w33106 hp hs a33109
  replace r33104 := r33104.step hs
  apply go
  apply go
  refine ev0 (rn_field rfl rfl FO24_1) ?_
  refine ev (rn_load rfl rfl (run_loadVar1 T22 (a33109.2 1 _ rfl))) ?_
  obtain ⟨x33110, q33111, h⟩ := bind_some h
  refine ev_call rfl rfl C47 (((ref01_trim_ok n) _ _  x33102.Mag v33103 r33104 hp.imm _ q33111).mono ?_)
  rintro _ w33112 ⟨I33113, v33114, e33115, hv, hq, o33116⟩
  replace hv := hv.symm
  subst hv
  have hs := hq.st
  have hp := hp.join0 hq
  apply go
  apply go
  refine ev0 (x_lenO rfl rfl Tryz.underlying22 o33116) ?_
  obtain ⟨y33173, q33174, h⟩ := bind_some h
  refine W.cut (γ := (Int × (Nat → Prop))) (fun g => [(4, (.int .i64 (g.1)))]) (fun g w' => y33173 = (g.1) ∧ Hp ⟨w0, I0, []⟩ (g.2) [] w') ?_ ?_
  ·
    apply go
    have r33213 := o33116.frz hp (i := 0) rfl
    obtain ⟨hp, hs⟩ := freeze_hp hp (i := 0) rfl
    have hp := hp.sel [] (by decide)
    refine W.loop q33174 (γ := (Value × (Nat → Prop))) (fun s g => [(3, (g.1)), (4, (.int .i64 (s.2)))]) (fun s g w' => Hp ⟨w0, I0, []⟩ (g.2) [] w' ∧ RepS (dI .u32) w' (g.2) (g.1) (s.1)) (v33114, (Ad I33113 e33115)) (.c rfl (.c rfl .n)) ⟨hp, r33213⟩ ?_
    rintro ⟨x33192, x33195⟩ ⟨v33193, I33196⟩ w33212 y33214 ⟨hp, r33194⟩ q33215 q33216
    unfold ref01_Bits_L1 at q33215
    apply go
    obtain ⟨y33222, q33223, q33215⟩ := bind_some q33215
    refine W.cut (γ := Bool) (fun g => [(3, v33193), (4, (.int .i64 x33195)), (19, (.bool (g)))]) (fun g w' => y33222 = (g) ∧ Hp ⟨w0, I0, []⟩ I33196 [] w' ∧ RepS (dI .u32) w' I33196 v33193 x33192) ?_ ?_
    ·
      apply go
      refine sel_of (fun hc => ?_) (fun hc => ?_)
      ·
        have q33223 := cond_t q33223 hc
        obtain ⟨x33224, q33225, q33223⟩ := bind_some q33223
        refine ev_call rfl rfl C68 (((ref01_bit_ok n) _ _  x33192 v33193 r33194 (IntKind.i64.wrap (x33195 - 1)) hp.imm _ q33225).mono ?_)
        rintro _ w33226 ⟨rfl, hc⟩
        have hs := hp.stp hc
        replace hp := hp.ext hc
        replace r33194 := r33194.step hs
        obtain rfl := Option.some.inj q33223
        exact ⟨(x33224 == 0), (.c rfl (.c rfl (.c rfl .n))), rfl, hp, r33194⟩
      ·
        have q33223 := cond_f q33223 hc
        obtain rfl := Option.some.inj q33223
        exact ⟨false, (.c rfl (.c rfl (.c rfl .n))), rfl, hp, r33194⟩
    ·
      rintro x33220 w33221 ⟨hy, hp, r33194⟩
      replace hy := hy.symm
      subst hy
      apply go
      refine sel_of (fun hc => ?_) (fun hc => ?_)
      ·
        have q33215 := cond_t q33215 hc
        apply go
        apply go
        apply go
        exact ⟨_, (Option.some.inj q33215).symm, (v33193, I33196), (.c rfl (.c rfl .n)), ⟨hp, r33194⟩⟩
      ·
        have q33215 := cond_f q33215 hc
        apply go
        have q33227 := congrArg some (q33216 _ (Option.some.inj q33215).symm)
        obtain rfl := Option.some.inj q33227
        exact ⟨(x33195, I33196), (.c rfl .n), rfl, hp⟩
  ·
    rintro ⟨x33170, I33171⟩ w33172 ⟨hy, hp⟩
    replace hy := hy.symm
    subst hy
    apply go
    apply go
    apply go
    obtain rfl := Option.some.inj h
    exact ⟨rfl, hp.ch⟩

end Go.Proofs.YthhghkcopfnbiaaGreatDoor

namespace Go.Proofs.YthhghkcopfnbiaaGreatDoor
open Go Go.Proofs.YthhghkcopfnbiaaGreatDoor.Gw Go.RowKit
set_option linter.unusedVariables false
attribute [local irreducible] Ev EvQ EvS EvH vch
def law01_IntegerMatchesReference_S (f : Int_2 → Int_2 → Option Bool) : Prop := ∀ (w0 : World) (I0 : Nat → Prop) (tb : Tb w0 I0 1 .u64 pow10) (x33228 : Int_2) (v33229 : Value) (r33230 : RepS (dI .u32) w0 I0 v33229 x33228.Mag) (x33231 : Int_2) (v33232 : Value) (r33233 : RepS (dI .u32) w0 I0 v33232 x33231.Mag) (hI : ∀ g, I0 g → g < w0.heap.size) (r : Bool), f x33228 x33231 = some r →
    Ret Tryz.prog 12 #[(.agg #[(.bool x33228.Neg), v33229]), (.agg #[(.bool x33231.Neg), v33232])] w0 fun v w1 => v = (.bool r) ∧ Ch [] w0 w1
theorem law01_IntegerMatchesReference_ok (n : Nat) : law01_IntegerMatchesReference_S (law01_IntegerMatchesReference n) := by
  intro w0 I0 tb x33228 v33229 r33230 x33231 v33232 r33233 hI r h
  unfold law01_IntegerMatchesReference at h
  refine enter Tryz.func12 rfl (Nat.le_of_ble_eq_true rfl) ?_
  have hp : Hp ⟨w0, I0, []⟩ I0 [] w0 := Hp.start hI
  apply go
  apply go
  refine ev_boxI hp rfl rfl ?_
  intro p33236 I33237 w33235 hp hs a33238
  replace r33233 := r33233.step hs
  replace r33230 := r33230.step hs
  replace tb := tb.step hs
  refine ev_boxI hp rfl rfl ?_
  intro p33241 I33242 w33240 hp hs a33243
  replace a33238 := a33238.step hs
  replace r33230 := r33230.step hs
  replace r33233 := r33233.step hs
  replace tb := tb.step hs
  apply go
  obtain ⟨y33255, q33256, h⟩ := bind_some h
  refine W.cut (γ := Bool) (fun g => [(2, (.pointer (some (p33236)))), (3, (.pointer (some (p33241)))), (16, (.bool (g)))]) (fun g w' => y33255 = (g) ∧ Hp ⟨w0, I0, []⟩ I33242 [] w' ∧ RepS (dI .u32) w' I33242 v33229 x33228.Mag ∧ At w' I33242 p33236 [(.bool x33228.Neg), v33229] ∧ RepS (dI .u32) w' I33242 v33232 x33231.Mag ∧ At w' I33242 p33241 [(.bool x33231.Neg), v33232] ∧ Tb w' I33242 1 .u64 pow10) ?_ ?_
  ·
    apply go
    obtain ⟨x33257, q33258, q33256⟩ := bind_some q33256
    refine ev_call rfl rfl C13 (((law01_awake_ok n) _ _ tb  hp.imm _ q33258).mono ?_)
    rintro _ w33259 ⟨rfl, hc⟩
    have hs := hp.stp hc
    replace hp := hp.ext hc
    replace a33238 := a33238.step hs
    replace r33230 := r33230.step hs
    replace a33243 := a33243.step hs
    replace r33233 := r33233.step hs
    replace tb := tb.step hs
    refine sel_of (fun hc => ?_) (fun hc => ?_)
    ·
      have q33256 := cond_t q33256 hc
      obtain rfl := Option.some.inj q33256
      exact ⟨true, (.c rfl (.c rfl (.c rfl .n))), rfl, hp, r33230, a33238, r33233, a33243, tb⟩
    ·
      have q33256 := cond_f q33256 hc
      refine ev (rn_load rfl rfl (run_loadVarA T24 rfl a33238)) ?_
      obtain ⟨x33260, q33261, q33256⟩ := bind_some q33256
      refine ev_call rfl rfl C14 (((law01_few_ok n) _ _  (Int_2.mk x33228.Neg x33228.Mag) v33229 r33230 hp.imm _ q33261).mono ?_)
      rintro _ w33262 ⟨rfl, hc⟩
      have hs := hp.stp hc
      replace hp := hp.ext hc
      replace a33238 := a33238.step hs
      replace r33230 := r33230.step hs
      replace a33243 := a33243.step hs
      replace r33233 := r33233.step hs
      replace tb := tb.step hs
      refine sel_of (fun hc => ?_) (fun hc => ?_)
      ·
        have q33256 := cond_t q33256 hc
        obtain rfl := Option.some.inj q33256
        exact ⟨true, (.c rfl (.c rfl (.c rfl .n))), rfl, hp, r33230, a33238, r33233, a33243, tb⟩
      ·
        have q33256 := cond_f q33256 hc
        refine ev (rn_load rfl rfl (run_loadVarA T24 rfl a33243)) ?_
        obtain ⟨x33263, q33264, q33256⟩ := bind_some q33256
        refine ev_call rfl rfl C14 (((law01_few_ok n) _ _  (Int_2.mk x33231.Neg x33231.Mag) v33232 r33233 hp.imm _ q33264).mono ?_)
        rintro _ w33265 ⟨rfl, hc⟩
        have hs := hp.stp hc
        replace hp := hp.ext hc
        replace a33238 := a33238.step hs
        replace r33230 := r33230.step hs
        replace a33243 := a33243.step hs
        replace r33233 := r33233.step hs
        replace tb := tb.step hs
        obtain rfl := Option.some.inj q33256
        exact ⟨(!x33263), (.c rfl (.c rfl (.c rfl .n))), rfl, hp, r33230, a33238, r33233, a33243, tb⟩
  ·
    rintro x33253 w33254 ⟨hy, hp, r33230, a33238, r33233, a33243, tb⟩
    replace hy := hy.symm
    subst hy
    apply go
    refine sel_of (fun hc => ?_) (fun hc => ?_)
    ·
      have h := cond_t h hc
      apply go
      apply go
      obtain ⟨x33266, q33267, h⟩ := bind_some h
      refine ev_call rfl rfl C13 (((law01_awake_ok n) _ _ tb  hp.imm _ q33267).mono ?_)
      rintro _ w33268 ⟨rfl, hc⟩
      have hs := hp.stp hc
      replace hp := hp.ext hc
      replace tb := tb.step hs
      apply go
      obtain rfl := Option.some.inj h
      exact ⟨rfl, hp.ch⟩
    ·
      have h := cond_f h hc
      apply go
      apply go
      obtain ⟨y33374, q33375, h⟩ := bind_some h
      refine W.cut (γ := (Bool × (Nat → Prop))) (fun g => [(2, (.pointer (some (p33236)))), (54, (.bool (g.1)))]) (fun g w' => y33374 = (g.1) ∧ Hp ⟨w0, I0, []⟩ (g.2) [] w' ∧ RepS (dI .u32) w' (g.2) v33229 x33228.Mag ∧ At w' (g.2) p33236 [(.bool x33228.Neg), v33229] ∧ Tb w' (g.2) 1 .u64 pow10) ?_ ?_
      ·
        have hs := hp.stp (Ch.drew [] w33254)
        have hp := hp.drew
        replace a33238 := a33238.step hs
        replace r33230 := r33230.step hs
        replace a33243 := a33243.step hs
        replace r33233 := r33233.step hs
        replace tb := tb.step hs
        refine W.heldT [(0, true), (1, true), (3, true), (4, true), (2, false), (5, false), (6, false), (7, true), (8, true), (9, true), (10, true), (12, true), (13, true), (11, false), (14, false), (15, false), (16, true), (17, true), (18, true), (19, true), (20, true), (22, true), (23, true), (21, false), (24, false), (25, false), (26, true), (27, true), (28, true), (29, true), (30, true), (32, true), (33, true), (31, false), (34, false), (35, true), (36, true)] (Stp I33242 w33254.drew I33242) MX (by kernel_rfl) (Stp.refl _ _) ?_
        have hz := Stp.refl I33242 w33254.drew
        intro ops hops
        have e0 : nthO ops 0 = some _ := (hops 0).trans rfl
        have e1 : nthO ops 1 = some _ := (hops 1).trans rfl
        have e2 : nthO ops 2 = some _ := (hops 2).trans rfl
        have e3 : nthO ops 3 = some _ := (hops 3).trans rfl
        have e4 : nthO ops 4 = some _ := (hops 4).trans rfl
        have e5 : nthO ops 5 = some _ := (hops 5).trans rfl
        have e6 : nthO ops 6 = some _ := (hops 6).trans rfl
        have e7 : nthO ops 7 = some _ := (hops 7).trans rfl
        have e8 : nthO ops 8 = some _ := (hops 8).trans rfl
        have e9 : nthO ops 9 = some _ := (hops 9).trans rfl
        have e10 : nthO ops 10 = some _ := (hops 10).trans rfl
        have e11 : nthO ops 11 = some _ := (hops 11).trans rfl
        have e12 : nthO ops 12 = some _ := (hops 12).trans rfl
        have e13 : nthO ops 13 = some _ := (hops 13).trans rfl
        have e14 : nthO ops 14 = some _ := (hops 14).trans rfl
        have e15 : nthO ops 15 = some _ := (hops 15).trans rfl
        have e16 : nthO ops 16 = some _ := (hops 16).trans rfl
        have e17 : nthO ops 17 = some _ := (hops 17).trans rfl
        have e18 : nthO ops 18 = some _ := (hops 18).trans rfl
        have e19 : nthO ops 19 = some _ := (hops 19).trans rfl
        have e20 : nthO ops 20 = some _ := (hops 20).trans rfl
        have e21 : nthO ops 21 = some _ := (hops 21).trans rfl
        have e22 : nthO ops 22 = some _ := (hops 22).trans rfl
        have e23 : nthO ops 23 = some _ := (hops 23).trans rfl
        have e24 : nthO ops 24 = some _ := (hops 24).trans rfl
        have e25 : nthO ops 25 = some _ := (hops 25).trans rfl
        have e26 : nthO ops 26 = some _ := (hops 26).trans rfl
        have e27 : nthO ops 27 = some _ := (hops 27).trans rfl
        have e28 : nthO ops 28 = some _ := (hops 28).trans rfl
        have e29 : nthO ops 29 = some _ := (hops 29).trans rfl
        have e30 : nthO ops 30 = some _ := (hops 30).trans rfl
        have e31 : nthO ops 31 = some _ := (hops 31).trans rfl
        have e32 : nthO ops 32 = some _ := (hops 32).trans rfl
        have e33 : nthO ops 33 = some _ := (hops 33).trans rfl
        have e34 : nthO ops 34 = some _ := (hops 34).trans rfl
        have e35 : nthO ops 35 = some _ := (hops 35).trans rfl
        have e36 : nthO ops 36 = some _ := (hops 36).trans rfl
        clear hops
        refine vch_q e0 rfl ?_
        refine evh (fun w' hw => rn_load rfl rfl (run_loadVarA T24 rfl (a33238.step hw))) ?_
        refine vch_q e1 rfl ?_
        refine evh (fun w' hw => rn_load rfl rfl (run_loadVarA T24 rfl (a33243.step hw))) ?_
        refine vch_q e3 rfl ?_
        refine evh (fun w' hw => rn_load rfl rfl (run_loadVarA T24 rfl (a33238.step hw))) ?_
        refine vch_q e4 rfl ?_
        refine evh (fun w' hw => rn_load rfl rfl (run_loadVarA T24 rfl (a33243.step hw))) ?_
        refine vch_l e2 rfl ?_
        obtain ⟨x33427, q33428, q33375⟩ := bind_some q33375
        refine ev_call rfl rfl C30 (((integer_Add_ok n) _ _  (Int_2.mk x33228.Neg x33228.Mag) v33229 r33230 (Int_2.mk x33231.Neg x33231.Mag) v33232 r33233 hp.imm _ q33428).mono ?_)
        rintro _ w33429 ⟨I33430, v33431, hv, hq, r33432⟩
        replace hv := hv.symm
        subst hv
        have hs := hq.st
        have hp := hp.join0 hq
        replace hz := hz.trans hs
        replace a33238 := a33238.step hs
        replace r33230 := r33230.step hs
        replace a33243 := a33243.step hs
        replace r33233 := r33233.step hs
        replace tb := tb.step hs
        refine ⟨Stp I33430 w33429 I33430, Stp.refl _ _, fun x hx => hz.held hx, ?_⟩
        have hz := Stp.refl I33430 w33429
        refine vch_l e5 rfl ?_
        obtain ⟨x33433, q33434, q33375⟩ := bind_some q33375
        refine ev_call rfl rfl C36 (((ref01_Add_ok n) _ _  (Int_2.mk x33228.Neg x33228.Mag) v33229 r33230 (Int_2.mk x33231.Neg x33231.Mag) v33232 r33233 hp.imm _ q33434).mono ?_)
        rintro _ w33435 ⟨I33436, v33437, hv, hq, r33438⟩
        replace hv := hv.symm
        subst hv
        have hs := hq.st
        have hp := hp.join0 hq
        replace hz := hz.trans hs
        replace a33238 := a33238.step hs
        replace r33230 := r33230.step hs
        replace a33243 := a33243.step hs
        replace r33233 := r33233.step hs
        replace r33432 := r33432.step hs
        replace tb := tb.step hs
        refine ⟨Stp I33436 w33435 I33436, Stp.refl _ _, fun x hx => hz.held hx, ?_⟩
        have hz := Stp.refl I33436 w33435
        refine vch_l e6 rfl ?_
        obtain ⟨x33439, q33440, q33375⟩ := bind_some q33375
        refine ev_call rfl rfl C21 (((ref01_Same_ok n) _ _  x33427 v33431 r33432 x33433 v33437 r33438 hp.imm _ q33440).mono ?_)
        rintro _ w33441 ⟨rfl, hc⟩
        have hs := hp.stp hc
        replace hp := hp.ext hc
        replace hz := hz.trans hs
        replace a33238 := a33238.step hs
        replace r33230 := r33230.step hs
        replace a33243 := a33243.step hs
        replace r33233 := r33233.step hs
        replace tb := tb.step hs
        refine ⟨Stp I33436 w33441 I33436, Stp.refl _ _, fun x hx => hz.held hx, ?_⟩
        have hz := Stp.refl I33436 w33441
        refine vch_q e7 rfl ?_
        refine vch_q e8 rfl ?_
        rcases Bool.eq_false_or_eq_true (!x33439) with hc | hc
        ·
          have q33375 := cond_t q33375 hc
          refine vch_qf e9 rfl e8 rfl rfl hc ?_
          refine vch_qf e10 rfl e8 rfl rfl rfl ?_
          refine vch_qf e12 rfl e8 rfl rfl rfl ?_
          refine vch_qf e13 rfl e8 rfl rfl rfl ?_
          refine vch_lf e11 rfl e8 rfl rfl rfl ?_
          refine ⟨Stp I33436 w33441 I33436, Stp.refl _ _, fun x hx => hz.held hx, ?_⟩
          have hz := Stp.refl I33436 w33441
          refine vch_lf e14 rfl e8 rfl rfl rfl ?_
          refine ⟨Stp I33436 w33441 I33436, Stp.refl _ _, fun x hx => hz.held hx, ?_⟩
          have hz := Stp.refl I33436 w33441
          refine vch_lf e15 rfl e8 rfl rfl rfl ?_
          refine ⟨Stp I33436 w33441 I33436, Stp.refl _ _, fun x hx => hz.held hx, ?_⟩
          have hz := Stp.refl I33436 w33441
          refine vch_qf e16 rfl e8 rfl rfl rfl ?_
          refine vch_q e17 rfl ?_
          refine vch_q e18 rfl ?_
          refine vch_qf e19 rfl e18 rfl rfl rfl ?_
          refine vch_qf e20 rfl e18 rfl rfl rfl ?_
          refine vch_qf e22 rfl e18 rfl rfl rfl ?_
          refine vch_qf e23 rfl e18 rfl rfl rfl ?_
          refine vch_lf e21 rfl e18 rfl rfl rfl ?_
          refine ⟨Stp I33436 w33441 I33436, Stp.refl _ _, fun x hx => hz.held hx, ?_⟩
          have hz := Stp.refl I33436 w33441
          refine vch_lf e24 rfl e18 rfl rfl rfl ?_
          refine ⟨Stp I33436 w33441 I33436, Stp.refl _ _, fun x hx => hz.held hx, ?_⟩
          have hz := Stp.refl I33436 w33441
          refine vch_lf e25 rfl e18 rfl rfl rfl ?_
          refine ⟨Stp I33436 w33441 I33436, Stp.refl _ _, fun x hx => hz.held hx, ?_⟩
          have hz := Stp.refl I33436 w33441
          refine vch_qf e26 rfl e18 rfl rfl rfl ?_
          refine vch_q e27 rfl ?_
          refine vch_q e28 rfl ?_
          refine vch_qf e29 rfl e28 rfl rfl rfl ?_
          refine vch_qf e30 rfl e28 rfl rfl rfl ?_
          refine vch_qf e32 rfl e28 rfl rfl rfl ?_
          refine vch_qf e33 rfl e28 rfl rfl rfl ?_
          refine vch_lf e31 rfl e28 rfl rfl rfl ?_
          refine ⟨Stp I33436 w33441 I33436, Stp.refl _ _, fun x hx => hz.held hx, ?_⟩
          have hz := Stp.refl I33436 w33441
          refine vch_lf e34 rfl e28 rfl rfl rfl ?_
          refine ⟨Stp I33436 w33441 I33436, Stp.refl _ _, fun x hx => hz.held hx, ?_⟩
          have hz := Stp.refl I33436 w33441
          refine vch_qf e35 rfl e28 rfl rfl rfl ?_
          refine vch_q e36 rfl ?_
          refine vch_end ?_
          obtain rfl := Option.some.inj q33375
          exact ⟨(true, I33436), (.c rfl (.c rfl .n)), rfl, hp, r33230, a33238, tb⟩
        ·
          have q33375 := cond_f q33375 hc
          refine vch_qt e9 rfl e8 rfl rfl hc ?_
          refine evh (fun w' hw => rn_load rfl rfl (run_loadVarA T24 rfl (a33238.step hw))) ?_
          refine vch_qt e10 rfl e8 rfl rfl rfl ?_
          refine evh (fun w' hw => rn_load rfl rfl (run_loadVarA T24 rfl (a33243.step hw))) ?_
          refine vch_qt e12 rfl e8 rfl rfl rfl ?_
          refine evh (fun w' hw => rn_load rfl rfl (run_loadVarA T24 rfl (a33238.step hw))) ?_
          refine vch_qt e13 rfl e8 rfl rfl rfl ?_
          refine evh (fun w' hw => rn_load rfl rfl (run_loadVarA T24 rfl (a33243.step hw))) ?_
          refine vch_lt e11 rfl e8 rfl rfl rfl ?_
          obtain ⟨x33442, q33443, q33375⟩ := bind_some q33375
          refine ev_call rfl rfl C34 (((integer_Sub_ok n) _ _  (Int_2.mk x33228.Neg x33228.Mag) v33229 r33230 (Int_2.mk x33231.Neg x33231.Mag) v33232 r33233 hp.imm _ q33443).mono ?_)
          rintro _ w33444 ⟨I33445, v33446, hv, hq, r33447⟩
          replace hv := hv.symm
          subst hv
          have hs := hq.st
          have hp := hp.join0 hq
          replace hz := hz.trans hs
          replace a33238 := a33238.step hs
          replace r33230 := r33230.step hs
          replace a33243 := a33243.step hs
          replace r33233 := r33233.step hs
          replace tb := tb.step hs
          refine ⟨Stp I33445 w33444 I33445, Stp.refl _ _, fun x hx => hz.held hx, ?_⟩
          have hz := Stp.refl I33445 w33444
          refine vch_lt e14 rfl e8 rfl rfl rfl ?_
          obtain ⟨x33448, q33449, q33375⟩ := bind_some q33375
          refine ev_call rfl rfl C37 (((ref01_Sub_ok n) _ _  (Int_2.mk x33228.Neg x33228.Mag) v33229 r33230 (Int_2.mk x33231.Neg x33231.Mag) v33232 r33233 hp.imm _ q33449).mono ?_)
          rintro _ w33450 ⟨I33451, v33452, hv, hq, r33453⟩
          replace hv := hv.symm
          subst hv
          have hs := hq.st
          have hp := hp.join0 hq
          replace hz := hz.trans hs
          replace a33238 := a33238.step hs
          replace r33230 := r33230.step hs
          replace a33243 := a33243.step hs
          replace r33233 := r33233.step hs
          replace r33447 := r33447.step hs
          replace tb := tb.step hs
          refine ⟨Stp I33451 w33450 I33451, Stp.refl _ _, fun x hx => hz.held hx, ?_⟩
          have hz := Stp.refl I33451 w33450
          refine vch_lt e15 rfl e8 rfl rfl rfl ?_
          obtain ⟨x33454, q33455, q33375⟩ := bind_some q33375
          refine ev_call rfl rfl C21 (((ref01_Same_ok n) _ _  x33442 v33446 r33447 x33448 v33452 r33453 hp.imm _ q33455).mono ?_)
          rintro _ w33456 ⟨rfl, hc⟩
          have hs := hp.stp hc
          replace hp := hp.ext hc
          replace hz := hz.trans hs
          replace a33238 := a33238.step hs
          replace r33230 := r33230.step hs
          replace a33243 := a33243.step hs
          replace r33233 := r33233.step hs
          replace tb := tb.step hs
          refine ⟨Stp I33451 w33456 I33451, Stp.refl _ _, fun x hx => hz.held hx, ?_⟩
          have hz := Stp.refl I33451 w33456
          refine vch_qt e16 rfl e8 rfl rfl rfl ?_
          refine vch_q e17 rfl ?_
          refine vch_q e18 rfl ?_
          rcases Bool.eq_false_or_eq_true (!x33454) with hc | hc
          ·
            have q33375 := cond_t q33375 hc
            refine vch_qf e19 rfl e18 rfl rfl hc ?_
            refine vch_qf e20 rfl e18 rfl rfl rfl ?_
            refine vch_qf e22 rfl e18 rfl rfl rfl ?_
            refine vch_qf e23 rfl e18 rfl rfl rfl ?_
            refine vch_lf e21 rfl e18 rfl rfl rfl ?_
            refine ⟨Stp I33451 w33456 I33451, Stp.refl _ _, fun x hx => hz.held hx, ?_⟩
            have hz := Stp.refl I33451 w33456
            refine vch_lf e24 rfl e18 rfl rfl rfl ?_
            refine ⟨Stp I33451 w33456 I33451, Stp.refl _ _, fun x hx => hz.held hx, ?_⟩
            have hz := Stp.refl I33451 w33456
            refine vch_lf e25 rfl e18 rfl rfl rfl ?_
            refine ⟨Stp I33451 w33456 I33451, Stp.refl _ _, fun x hx => hz.held hx, ?_⟩
            have hz := Stp.refl I33451 w33456
            refine vch_qf e26 rfl e18 rfl rfl rfl ?_
            refine vch_q e27 rfl ?_
            refine vch_q e28 rfl ?_
            refine vch_qf e29 rfl e28 rfl rfl rfl ?_
            refine vch_qf e30 rfl e28 rfl rfl rfl ?_
            refine vch_qf e32 rfl e28 rfl rfl rfl ?_
            refine vch_qf e33 rfl e28 rfl rfl rfl ?_
            refine vch_lf e31 rfl e28 rfl rfl rfl ?_
            refine ⟨Stp I33451 w33456 I33451, Stp.refl _ _, fun x hx => hz.held hx, ?_⟩
            have hz := Stp.refl I33451 w33456
            refine vch_lf e34 rfl e28 rfl rfl rfl ?_
            refine ⟨Stp I33451 w33456 I33451, Stp.refl _ _, fun x hx => hz.held hx, ?_⟩
            have hz := Stp.refl I33451 w33456
            refine vch_qf e35 rfl e28 rfl rfl rfl ?_
            refine vch_q e36 rfl ?_
            refine vch_end ?_
            obtain rfl := Option.some.inj q33375
            exact ⟨(true, I33451), (.c rfl (.c rfl .n)), rfl, hp, r33230, a33238, tb⟩
          ·
            have q33375 := cond_f q33375 hc
            refine vch_qt e19 rfl e18 rfl rfl hc ?_
            refine evh (fun w' hw => rn_load rfl rfl (run_loadVarA T24 rfl (a33238.step hw))) ?_
            refine vch_qt e20 rfl e18 rfl rfl rfl ?_
            refine evh (fun w' hw => rn_load rfl rfl (run_loadVarA T24 rfl (a33243.step hw))) ?_
            refine vch_qt e22 rfl e18 rfl rfl rfl ?_
            refine evh (fun w' hw => rn_load rfl rfl (run_loadVarA T24 rfl (a33238.step hw))) ?_
            refine vch_qt e23 rfl e18 rfl rfl rfl ?_
            refine evh (fun w' hw => rn_load rfl rfl (run_loadVarA T24 rfl (a33243.step hw))) ?_
            refine vch_lt e21 rfl e18 rfl rfl rfl ?_
            obtain ⟨x33457, q33458, q33375⟩ := bind_some q33375
            refine ev_call rfl rfl C31 (((integer_Mul_ok n) _ _  (Int_2.mk x33228.Neg x33228.Mag) v33229 r33230 (Int_2.mk x33231.Neg x33231.Mag) v33232 r33233 hp.imm _ q33458).mono ?_)
            rintro _ w33459 ⟨I33460, v33461, hv, hq, r33462⟩
            replace hv := hv.symm
            subst hv
            have hs := hq.st
            have hp := hp.join0 hq
            replace hz := hz.trans hs
            replace a33238 := a33238.step hs
            replace r33230 := r33230.step hs
            replace a33243 := a33243.step hs
            replace r33233 := r33233.step hs
            replace tb := tb.step hs
            refine ⟨Stp I33460 w33459 I33460, Stp.refl _ _, fun x hx => hz.held hx, ?_⟩
            have hz := Stp.refl I33460 w33459
            refine vch_lt e24 rfl e18 rfl rfl rfl ?_
            obtain ⟨x33463, q33464, q33375⟩ := bind_some q33375
            refine ev_call rfl rfl C38 (((ref01_Mul_ok n) _ _  (Int_2.mk x33228.Neg x33228.Mag) v33229 r33230 (Int_2.mk x33231.Neg x33231.Mag) v33232 r33233 hp.imm _ q33464).mono ?_)
            rintro _ w33465 ⟨I33466, v33467, hv, hq, r33468⟩
            replace hv := hv.symm
            subst hv
            have hs := hq.st
            have hp := hp.join0 hq
            replace hz := hz.trans hs
            replace a33238 := a33238.step hs
            replace r33230 := r33230.step hs
            replace a33243 := a33243.step hs
            replace r33233 := r33233.step hs
            replace r33462 := r33462.step hs
            replace tb := tb.step hs
            refine ⟨Stp I33466 w33465 I33466, Stp.refl _ _, fun x hx => hz.held hx, ?_⟩
            have hz := Stp.refl I33466 w33465
            refine vch_lt e25 rfl e18 rfl rfl rfl ?_
            obtain ⟨x33469, q33470, q33375⟩ := bind_some q33375
            refine ev_call rfl rfl C21 (((ref01_Same_ok n) _ _  x33457 v33461 r33462 x33463 v33467 r33468 hp.imm _ q33470).mono ?_)
            rintro _ w33471 ⟨rfl, hc⟩
            have hs := hp.stp hc
            replace hp := hp.ext hc
            replace hz := hz.trans hs
            replace a33238 := a33238.step hs
            replace r33230 := r33230.step hs
            replace a33243 := a33243.step hs
            replace r33233 := r33233.step hs
            replace tb := tb.step hs
            refine ⟨Stp I33466 w33471 I33466, Stp.refl _ _, fun x hx => hz.held hx, ?_⟩
            have hz := Stp.refl I33466 w33471
            refine vch_qt e26 rfl e18 rfl rfl rfl ?_
            refine vch_q e27 rfl ?_
            refine vch_q e28 rfl ?_
            rcases Bool.eq_false_or_eq_true (!x33469) with hc | hc
            ·
              have q33375 := cond_t q33375 hc
              refine vch_qf e29 rfl e28 rfl rfl hc ?_
              refine vch_qf e30 rfl e28 rfl rfl rfl ?_
              refine vch_qf e32 rfl e28 rfl rfl rfl ?_
              refine vch_qf e33 rfl e28 rfl rfl rfl ?_
              refine vch_lf e31 rfl e28 rfl rfl rfl ?_
              refine ⟨Stp I33466 w33471 I33466, Stp.refl _ _, fun x hx => hz.held hx, ?_⟩
              have hz := Stp.refl I33466 w33471
              refine vch_lf e34 rfl e28 rfl rfl rfl ?_
              refine ⟨Stp I33466 w33471 I33466, Stp.refl _ _, fun x hx => hz.held hx, ?_⟩
              have hz := Stp.refl I33466 w33471
              refine vch_qf e35 rfl e28 rfl rfl rfl ?_
              refine vch_q e36 rfl ?_
              refine vch_end ?_
              obtain rfl := Option.some.inj q33375
              exact ⟨(true, I33466), (.c rfl (.c rfl .n)), rfl, hp, r33230, a33238, tb⟩
            ·
              have q33375 := cond_f q33375 hc
              refine vch_qt e29 rfl e28 rfl rfl hc ?_
              refine evh (fun w' hw => rn_load rfl rfl (run_loadVarA T24 rfl (a33238.step hw))) ?_
              refine vch_qt e30 rfl e28 rfl rfl rfl ?_
              refine evh (fun w' hw => rn_load rfl rfl (run_loadVarA T24 rfl (a33243.step hw))) ?_
              refine vch_qt e32 rfl e28 rfl rfl rfl ?_
              refine evh (fun w' hw => rn_load rfl rfl (run_loadVarA T24 rfl (a33238.step hw))) ?_
              refine vch_qt e33 rfl e28 rfl rfl rfl ?_
              refine evh (fun w' hw => rn_load rfl rfl (run_loadVarA T24 rfl (a33243.step hw))) ?_
              refine vch_lt e31 rfl e28 rfl rfl rfl ?_
              obtain ⟨x33472, q33473, q33375⟩ := bind_some q33375
              refine ev_call rfl rfl C17 (((integer_Cmp_ok n) _ _  (Int_2.mk x33228.Neg x33228.Mag) v33229 r33230 (Int_2.mk x33231.Neg x33231.Mag) v33232 r33233 hp.imm _ q33473).mono ?_)
              rintro _ w33474 ⟨rfl, hc⟩
              have hs := hp.stp hc
              replace hp := hp.ext hc
              replace hz := hz.trans hs
              replace a33238 := a33238.step hs
              replace r33230 := r33230.step hs
              replace r33233 := r33233.step hs
              replace tb := tb.step hs
              refine ⟨Stp I33466 w33474 I33466, Stp.refl _ _, fun x hx => hz.held hx, ?_⟩
              have hz := Stp.refl I33466 w33474
              refine vch_lt e34 rfl e28 rfl rfl rfl ?_
              obtain ⟨x33475, q33476, q33375⟩ := bind_some q33375
              refine ev_call rfl rfl C39 (((ref01_Cmp_ok n) _ _  (Int_2.mk x33228.Neg x33228.Mag) v33229 r33230 (Int_2.mk x33231.Neg x33231.Mag) v33232 r33233 hp.imm _ q33476).mono ?_)
              rintro _ w33477 ⟨rfl, hc⟩
              have hs := hp.stp hc
              replace hp := hp.ext hc
              replace hz := hz.trans hs
              replace a33238 := a33238.step hs
              replace r33230 := r33230.step hs
              replace tb := tb.step hs
              refine ⟨Stp I33466 w33477 I33466, Stp.refl _ _, fun x hx => hz.held hx, ?_⟩
              have hz := Stp.refl I33466 w33477
              refine vch_qt e35 rfl e28 rfl rfl rfl ?_
              refine vch_q e36 rfl ?_
              refine vch_end ?_
              obtain rfl := Option.some.inj q33375
              exact ⟨((x33472 != x33475), I33466), (.c rfl (.c rfl .n)), rfl, hp, r33230, a33238, tb⟩
      ·
        rintro ⟨x33371, I33372⟩ w33373 ⟨hy, hp, r33230, a33238, tb⟩
        replace hy := hy.symm
        subst hy
        apply go
        refine sel_of (fun hc => ?_) (fun hc => ?_)
        ·
          have h := cond_t h hc
          apply go
          apply go
          apply go
          obtain rfl := Option.some.inj h
          exact ⟨rfl, hp.ch⟩
        ·
          have h := cond_f h hc
          apply go
          obtain ⟨y33595, q33596, h⟩ := bind_some h
          refine W.cut (γ := (Bool × (Nat → Prop))) (fun g => [(4, (.bool (g.1)))]) (fun g w' => y33595 = (g.1) ∧ Hp ⟨w0, I0, []⟩ (g.2) [] w' ∧ Tb w' (g.2) 1 .u64 pow10) ?_ ?_
          ·
            have hs := hp.stp (Ch.drew [] w33373)
            have hp := hp.drew
            replace a33238 := a33238.step hs
            replace r33230 := r33230.step hs
            replace tb := tb.step hs
            refine W.heldT [(0, true), (2, true), (1, false), (3, false), (4, false), (5, true), (6, true), (8, true), (7, false), (9, false), (10, false), (11, true), (12, true), (13, true), (15, true), (14, false), (16, false), (17, false), (18, true), (19, true), (20, true), (22, true), (21, false), (23, false), (24, true), (25, true), (26, true), (27, true), (29, true), (28, false), (30, false), (31, true), (32, true), (33, true)] (Stp I33372 w33373.drew I33372) MX (by kernel_rfl) (Stp.refl _ _) ?_
            have hz := Stp.refl I33372 w33373.drew
            intro ops hops
            have e0 : nthO ops 0 = some _ := (hops 0).trans rfl
            have e1 : nthO ops 1 = some _ := (hops 1).trans rfl
            have e2 : nthO ops 2 = some _ := (hops 2).trans rfl
            have e3 : nthO ops 3 = some _ := (hops 3).trans rfl
            have e4 : nthO ops 4 = some _ := (hops 4).trans rfl
            have e5 : nthO ops 5 = some _ := (hops 5).trans rfl
            have e6 : nthO ops 6 = some _ := (hops 6).trans rfl
            have e7 : nthO ops 7 = some _ := (hops 7).trans rfl
            have e8 : nthO ops 8 = some _ := (hops 8).trans rfl
            have e9 : nthO ops 9 = some _ := (hops 9).trans rfl
            have e10 : nthO ops 10 = some _ := (hops 10).trans rfl
            have e11 : nthO ops 11 = some _ := (hops 11).trans rfl
            have e12 : nthO ops 12 = some _ := (hops 12).trans rfl
            have e13 : nthO ops 13 = some _ := (hops 13).trans rfl
            have e14 : nthO ops 14 = some _ := (hops 14).trans rfl
            have e15 : nthO ops 15 = some _ := (hops 15).trans rfl
            have e16 : nthO ops 16 = some _ := (hops 16).trans rfl
            have e17 : nthO ops 17 = some _ := (hops 17).trans rfl
            have e18 : nthO ops 18 = some _ := (hops 18).trans rfl
            have e19 : nthO ops 19 = some _ := (hops 19).trans rfl
            have e20 : nthO ops 20 = some _ := (hops 20).trans rfl
            have e21 : nthO ops 21 = some _ := (hops 21).trans rfl
            have e22 : nthO ops 22 = some _ := (hops 22).trans rfl
            have e23 : nthO ops 23 = some _ := (hops 23).trans rfl
            have e24 : nthO ops 24 = some _ := (hops 24).trans rfl
            have e25 : nthO ops 25 = some _ := (hops 25).trans rfl
            have e26 : nthO ops 26 = some _ := (hops 26).trans rfl
            have e27 : nthO ops 27 = some _ := (hops 27).trans rfl
            have e28 : nthO ops 28 = some _ := (hops 28).trans rfl
            have e29 : nthO ops 29 = some _ := (hops 29).trans rfl
            have e30 : nthO ops 30 = some _ := (hops 30).trans rfl
            have e31 : nthO ops 31 = some _ := (hops 31).trans rfl
            have e32 : nthO ops 32 = some _ := (hops 32).trans rfl
            have e33 : nthO ops 33 = some _ := (hops 33).trans rfl
            clear hops
            refine vch_q e0 rfl ?_
            refine evh (fun w' hw => rn_load rfl rfl (run_loadVarA T24 rfl (a33238.step hw))) ?_
            refine vch_q e2 rfl ?_
            refine evh (fun w' hw => rn_load rfl rfl (run_loadVarA T24 rfl (a33238.step hw))) ?_
            refine vch_l e1 rfl ?_
            obtain ⟨x33654, q33655, q33596⟩ := bind_some q33596
            refine ev_call rfl rfl C35 (((integer_Norm_ok n) _ _  (Int_2.mk x33228.Neg x33228.Mag) v33229 r33230 hp.imm _ q33655).mono ?_)
            rintro _ w33656 ⟨I33657, v33658, hv, hq, r33659⟩
            replace hv := hv.symm
            subst hv
            have hs := hq.st
            have hp := hp.join0 hq
            replace hz := hz.trans hs
            replace a33238 := a33238.step hs
            replace r33230 := r33230.step hs
            replace tb := tb.step hs
            refine ⟨Stp I33657 w33656 I33657, Stp.refl _ _, fun x hx => hz.held hx, ?_⟩
            have hz := Stp.refl I33657 w33656
            refine vch_l e3 rfl ?_
            obtain ⟨x33660, q33661, q33596⟩ := bind_some q33596
            refine ev_call rfl rfl C28 (((ref01_Norm_ok n) _ _  (Int_2.mk x33228.Neg x33228.Mag) v33229 r33230 hp.imm _ q33661).mono ?_)
            rintro _ w33662 ⟨I33663, v33664, hv, hq, r33665⟩
            replace hv := hv.symm
            subst hv
            have hs := hq.st
            have hp := hp.join0 hq
            replace hz := hz.trans hs
            replace a33238 := a33238.step hs
            replace r33230 := r33230.step hs
            replace r33659 := r33659.step hs
            replace tb := tb.step hs
            refine ⟨Stp I33663 w33662 I33663, Stp.refl _ _, fun x hx => hz.held hx, ?_⟩
            have hz := Stp.refl I33663 w33662
            refine vch_l e4 rfl ?_
            obtain ⟨x33666, q33667, q33596⟩ := bind_some q33596
            refine ev_call rfl rfl C21 (((ref01_Same_ok n) _ _  x33654 v33658 r33659 x33660 v33664 r33665 hp.imm _ q33667).mono ?_)
            rintro _ w33668 ⟨rfl, hc⟩
            have hs := hp.stp hc
            replace hp := hp.ext hc
            replace hz := hz.trans hs
            replace a33238 := a33238.step hs
            replace r33230 := r33230.step hs
            replace tb := tb.step hs
            refine ⟨Stp I33663 w33668 I33663, Stp.refl _ _, fun x hx => hz.held hx, ?_⟩
            have hz := Stp.refl I33663 w33668
            refine vch_q e5 rfl ?_
            rcases Bool.eq_false_or_eq_true x33666 with hc | hc
            ·
              have q33596 := cond_t q33596 hc
              refine vch_qt e6 rfl e5 rfl rfl hc ?_
              refine evh (fun w' hw => rn_load rfl rfl (run_loadVarA T24 rfl (a33238.step hw))) ?_
              refine vch_qt e8 rfl e5 rfl rfl rfl ?_
              refine evh (fun w' hw => rn_load rfl rfl (run_loadVarA T24 rfl (a33238.step hw))) ?_
              refine vch_lt e7 rfl e5 rfl rfl rfl ?_
              obtain ⟨x33669, q33670, q33596⟩ := bind_some q33596
              refine ev_call rfl rfl C40 (((integer_Neg_ok n) _ _  (Int_2.mk x33228.Neg x33228.Mag) v33229 r33230 hp.imm _ q33670).mono ?_)
              rintro _ w33671 ⟨I33672, v33673, hv, hq, r33674⟩
              replace hv := hv.symm
              subst hv
              have hs := hq.st
              have hp := hp.join0 hq
              replace hz := hz.trans hs
              replace a33238 := a33238.step hs
              replace r33230 := r33230.step hs
              replace tb := tb.step hs
              refine ⟨Stp I33672 w33671 I33672, Stp.refl _ _, fun x hx => hz.held hx, ?_⟩
              have hz := Stp.refl I33672 w33671
              refine vch_lt e9 rfl e5 rfl rfl rfl ?_
              obtain ⟨x33675, q33676, q33596⟩ := bind_some q33596
              refine ev_call rfl rfl C41 (((ref01_Neg_ok n) _ _  (Int_2.mk x33228.Neg x33228.Mag) v33229 r33230 hp.imm _ q33676).mono ?_)
              rintro _ w33677 ⟨I33678, v33679, hv, hq, r33680⟩
              replace hv := hv.symm
              subst hv
              have hs := hq.st
              have hp := hp.join0 hq
              replace hz := hz.trans hs
              replace a33238 := a33238.step hs
              replace r33230 := r33230.step hs
              replace r33674 := r33674.step hs
              replace tb := tb.step hs
              refine ⟨Stp I33678 w33677 I33678, Stp.refl _ _, fun x hx => hz.held hx, ?_⟩
              have hz := Stp.refl I33678 w33677
              refine vch_lt e10 rfl e5 rfl rfl rfl ?_
              obtain ⟨x33681, q33682, q33596⟩ := bind_some q33596
              refine ev_call rfl rfl C21 (((ref01_Same_ok n) _ _  x33669 v33673 r33674 x33675 v33679 r33680 hp.imm _ q33682).mono ?_)
              rintro _ w33683 ⟨rfl, hc⟩
              have hs := hp.stp hc
              replace hp := hp.ext hc
              replace hz := hz.trans hs
              replace a33238 := a33238.step hs
              replace r33230 := r33230.step hs
              replace tb := tb.step hs
              refine ⟨Stp I33678 w33683 I33678, Stp.refl _ _, fun x hx => hz.held hx, ?_⟩
              have hz := Stp.refl I33678 w33683
              refine vch_q e11 rfl ?_
              refine vch_q e12 rfl ?_
              rcases Bool.eq_false_or_eq_true x33681 with hc | hc
              ·
                have q33596 := cond_t q33596 hc
                refine vch_qt e13 rfl e12 rfl rfl hc ?_
                refine evh (fun w' hw => rn_load rfl rfl (run_loadVarA T24 rfl (a33238.step hw))) ?_
                refine vch_qt e15 rfl e12 rfl rfl rfl ?_
                refine evh (fun w' hw => rn_load rfl rfl (run_loadVarA T24 rfl (a33238.step hw))) ?_
                refine vch_lt e14 rfl e12 rfl rfl rfl ?_
                obtain ⟨x33684, q33685, q33596⟩ := bind_some q33596
                refine ev_call rfl rfl C32 (((integer_Abs_ok n) _ _  (Int_2.mk x33228.Neg x33228.Mag) v33229 r33230 hp.imm _ q33685).mono ?_)
                rintro _ w33686 ⟨I33687, v33688, hv, hq, r33689⟩
                replace hv := hv.symm
                subst hv
                have hs := hq.st
                have hp := hp.join0 hq
                replace hz := hz.trans hs
                replace a33238 := a33238.step hs
                replace r33230 := r33230.step hs
                replace tb := tb.step hs
                refine ⟨Stp I33687 w33686 I33687, Stp.refl _ _, fun x hx => hz.held hx, ?_⟩
                have hz := Stp.refl I33687 w33686
                refine vch_lt e16 rfl e12 rfl rfl rfl ?_
                obtain ⟨x33690, q33691, q33596⟩ := bind_some q33596
                refine ev_call rfl rfl C42 (((ref01_Abs_ok n) _ _  (Int_2.mk x33228.Neg x33228.Mag) v33229 r33230 hp.imm _ q33691).mono ?_)
                rintro _ w33692 ⟨I33693, v33694, hv, hq, r33695⟩
                replace hv := hv.symm
                subst hv
                have hs := hq.st
                have hp := hp.join0 hq
                replace hz := hz.trans hs
                replace a33238 := a33238.step hs
                replace r33230 := r33230.step hs
                replace r33689 := r33689.step hs
                replace tb := tb.step hs
                refine ⟨Stp I33693 w33692 I33693, Stp.refl _ _, fun x hx => hz.held hx, ?_⟩
                have hz := Stp.refl I33693 w33692
                refine vch_lt e17 rfl e12 rfl rfl rfl ?_
                obtain ⟨x33696, q33697, q33596⟩ := bind_some q33596
                refine ev_call rfl rfl C21 (((ref01_Same_ok n) _ _  x33684 v33688 r33689 x33690 v33694 r33695 hp.imm _ q33697).mono ?_)
                rintro _ w33698 ⟨rfl, hc⟩
                have hs := hp.stp hc
                replace hp := hp.ext hc
                replace hz := hz.trans hs
                replace a33238 := a33238.step hs
                replace r33230 := r33230.step hs
                replace tb := tb.step hs
                refine ⟨Stp I33693 w33698 I33693, Stp.refl _ _, fun x hx => hz.held hx, ?_⟩
                have hz := Stp.refl I33693 w33698
                refine vch_q e18 rfl ?_
                refine vch_q e19 rfl ?_
                rcases Bool.eq_false_or_eq_true x33696 with hc | hc
                ·
                  have q33596 := cond_t q33596 hc
                  refine vch_qt e20 rfl e19 rfl rfl hc ?_
                  refine evh (fun w' hw => rn_load rfl rfl (run_loadVarA T24 rfl (a33238.step hw))) ?_
                  refine vch_qt e22 rfl e19 rfl rfl rfl ?_
                  refine evh (fun w' hw => rn_load rfl rfl (run_loadVarA T24 rfl (a33238.step hw))) ?_
                  refine vch_lt e21 rfl e19 rfl rfl rfl ?_
                  obtain ⟨x33699, q33700, q33596⟩ := bind_some q33596
                  refine ev_call rfl rfl C23 (((integer_Sign_ok n) _ _  (Int_2.mk x33228.Neg x33228.Mag) v33229 r33230 hp.imm _ q33700).mono ?_)
                  rintro _ w33701 ⟨rfl, hc⟩
                  have hs := hp.stp hc
                  replace hp := hp.ext hc
                  replace hz := hz.trans hs
                  replace a33238 := a33238.step hs
                  replace r33230 := r33230.step hs
                  replace tb := tb.step hs
                  refine ⟨Stp I33693 w33701 I33693, Stp.refl _ _, fun x hx => hz.held hx, ?_⟩
                  have hz := Stp.refl I33693 w33701
                  refine vch_lt e23 rfl e19 rfl rfl rfl ?_
                  obtain ⟨x33702, q33703, q33596⟩ := bind_some q33596
                  refine ev_call rfl rfl C43 (((ref01_Sign_ok n) _ _  (Int_2.mk x33228.Neg x33228.Mag) v33229 r33230 hp.imm _ q33703).mono ?_)
                  rintro _ w33704 ⟨rfl, hc⟩
                  have hs := hp.stp hc
                  replace hp := hp.ext hc
                  replace hz := hz.trans hs
                  replace a33238 := a33238.step hs
                  replace r33230 := r33230.step hs
                  replace tb := tb.step hs
                  refine ⟨Stp I33693 w33704 I33693, Stp.refl _ _, fun x hx => hz.held hx, ?_⟩
                  have hz := Stp.refl I33693 w33704
                  refine vch_qt e24 rfl e19 rfl rfl rfl ?_
                  refine vch_q e25 rfl ?_
                  refine vch_q e26 rfl ?_
                  rcases Bool.eq_false_or_eq_true (x33699 == x33702) with hc | hc
                  ·
                    have q33596 := cond_t q33596 hc
                    refine vch_qt e27 rfl e26 rfl rfl hc ?_
                    refine evh (fun w' hw => rn_load rfl rfl (run_loadVarA T24 rfl (a33238.step hw))) ?_
                    refine vch_qt e29 rfl e26 rfl rfl rfl ?_
                    refine evh (fun w' hw => rn_load rfl rfl (run_loadVarA T24 rfl (a33238.step hw))) ?_
                    refine vch_lt e28 rfl e26 rfl rfl rfl ?_
                    obtain ⟨x33705, q33706, q33596⟩ := bind_some q33596
                    refine ev_call rfl rfl C19 (((integer_Bits_ok n) _ _  (Int_2.mk x33228.Neg x33228.Mag) v33229 r33230 hp.imm _ q33706).mono ?_)
                    rintro _ w33707 ⟨rfl, hc⟩
                    have hs := hp.stp hc
                    replace hp := hp.ext hc
                    replace hz := hz.trans hs
                    replace r33230 := r33230.step hs
                    replace tb := tb.step hs
                    refine ⟨Stp I33693 w33707 I33693, Stp.refl _ _, fun x hx => hz.held hx, ?_⟩
                    have hz := Stp.refl I33693 w33707
                    refine vch_lt e30 rfl e26 rfl rfl rfl ?_
                    obtain ⟨x33708, q33709, q33596⟩ := bind_some q33596
                    refine ev_call rfl rfl C44 (((ref01_Bits_ok n) _ _  (Int_2.mk x33228.Neg x33228.Mag) v33229 r33230 hp.imm _ q33709).mono ?_)
                    rintro _ w33710 ⟨rfl, hc⟩
                    have hs := hp.stp hc
                    replace hp := hp.ext hc
                    replace hz := hz.trans hs
                    replace tb := tb.step hs
                    refine ⟨Stp I33693 w33710 I33693, Stp.refl _ _, fun x hx => hz.held hx, ?_⟩
                    have hz := Stp.refl I33693 w33710
                    refine vch_qt e31 rfl e26 rfl rfl rfl ?_
                    refine vch_q e32 rfl ?_
                    refine vch_q e33 rfl ?_
                    refine vch_end ?_
                    obtain rfl := Option.some.inj q33596
                    exact ⟨((x33705 == x33708), I33693), (.c rfl .n), rfl, hp, tb⟩
                  ·
                    have q33596 := cond_f q33596 hc
                    refine vch_qf e27 rfl e26 rfl rfl hc ?_
                    refine vch_qf e29 rfl e26 rfl rfl rfl ?_
                    refine vch_lf e28 rfl e26 rfl rfl rfl ?_
                    refine ⟨Stp I33693 w33704 I33693, Stp.refl _ _, fun x hx => hz.held hx, ?_⟩
                    have hz := Stp.refl I33693 w33704
                    refine vch_lf e30 rfl e26 rfl rfl rfl ?_
                    refine ⟨Stp I33693 w33704 I33693, Stp.refl _ _, fun x hx => hz.held hx, ?_⟩
                    have hz := Stp.refl I33693 w33704
                    refine vch_qf e31 rfl e26 rfl rfl rfl ?_
                    refine vch_q e32 rfl ?_
                    refine vch_q e33 rfl ?_
                    refine vch_end ?_
                    obtain rfl := Option.some.inj q33596
                    exact ⟨(false, I33693), (.c rfl .n), rfl, hp, tb⟩
                ·
                  have q33596 := cond_f q33596 hc
                  refine vch_qf e20 rfl e19 rfl rfl hc ?_
                  refine vch_qf e22 rfl e19 rfl rfl rfl ?_
                  refine vch_lf e21 rfl e19 rfl rfl rfl ?_
                  refine ⟨Stp I33693 w33698 I33693, Stp.refl _ _, fun x hx => hz.held hx, ?_⟩
                  have hz := Stp.refl I33693 w33698
                  refine vch_lf e23 rfl e19 rfl rfl rfl ?_
                  refine ⟨Stp I33693 w33698 I33693, Stp.refl _ _, fun x hx => hz.held hx, ?_⟩
                  have hz := Stp.refl I33693 w33698
                  refine vch_qf e24 rfl e19 rfl rfl rfl ?_
                  refine vch_q e25 rfl ?_
                  refine vch_q e26 rfl ?_
                  refine vch_qf e27 rfl e26 rfl rfl rfl ?_
                  refine vch_qf e29 rfl e26 rfl rfl rfl ?_
                  refine vch_lf e28 rfl e26 rfl rfl rfl ?_
                  refine ⟨Stp I33693 w33698 I33693, Stp.refl _ _, fun x hx => hz.held hx, ?_⟩
                  have hz := Stp.refl I33693 w33698
                  refine vch_lf e30 rfl e26 rfl rfl rfl ?_
                  refine ⟨Stp I33693 w33698 I33693, Stp.refl _ _, fun x hx => hz.held hx, ?_⟩
                  have hz := Stp.refl I33693 w33698
                  refine vch_qf e31 rfl e26 rfl rfl rfl ?_
                  refine vch_q e32 rfl ?_
                  refine vch_q e33 rfl ?_
                  refine vch_end ?_
                  obtain rfl := Option.some.inj q33596
                  exact ⟨(false, I33693), (.c rfl .n), rfl, hp, tb⟩
              ·
                have q33596 := cond_f q33596 hc
                refine vch_qf e13 rfl e12 rfl rfl hc ?_
                refine vch_qf e15 rfl e12 rfl rfl rfl ?_
                refine vch_lf e14 rfl e12 rfl rfl rfl ?_
                refine ⟨Stp I33678 w33683 I33678, Stp.refl _ _, fun x hx => hz.held hx, ?_⟩
                have hz := Stp.refl I33678 w33683
                refine vch_lf e16 rfl e12 rfl rfl rfl ?_
                refine ⟨Stp I33678 w33683 I33678, Stp.refl _ _, fun x hx => hz.held hx, ?_⟩
                have hz := Stp.refl I33678 w33683
                refine vch_lf e17 rfl e12 rfl rfl rfl ?_
                refine ⟨Stp I33678 w33683 I33678, Stp.refl _ _, fun x hx => hz.held hx, ?_⟩
                have hz := Stp.refl I33678 w33683
                refine vch_q e18 rfl ?_
                refine vch_q e19 rfl ?_
                refine vch_qf e20 rfl e19 rfl rfl rfl ?_
                refine vch_qf e22 rfl e19 rfl rfl rfl ?_
                refine vch_lf e21 rfl e19 rfl rfl rfl ?_
                refine ⟨Stp I33678 w33683 I33678, Stp.refl _ _, fun x hx => hz.held hx, ?_⟩
                have hz := Stp.refl I33678 w33683
                refine vch_lf e23 rfl e19 rfl rfl rfl ?_
                refine ⟨Stp I33678 w33683 I33678, Stp.refl _ _, fun x hx => hz.held hx, ?_⟩
                have hz := Stp.refl I33678 w33683
                refine vch_qf e24 rfl e19 rfl rfl rfl ?_
                refine vch_q e25 rfl ?_
                refine vch_q e26 rfl ?_
                refine vch_qf e27 rfl e26 rfl rfl rfl ?_
                refine vch_qf e29 rfl e26 rfl rfl rfl ?_
                refine vch_lf e28 rfl e26 rfl rfl rfl ?_
                refine ⟨Stp I33678 w33683 I33678, Stp.refl _ _, fun x hx => hz.held hx, ?_⟩
                have hz := Stp.refl I33678 w33683
                refine vch_lf e30 rfl e26 rfl rfl rfl ?_
                refine ⟨Stp I33678 w33683 I33678, Stp.refl _ _, fun x hx => hz.held hx, ?_⟩
                have hz := Stp.refl I33678 w33683
                refine vch_qf e31 rfl e26 rfl rfl rfl ?_
                refine vch_q e32 rfl ?_
                refine vch_q e33 rfl ?_
                refine vch_end ?_
                obtain rfl := Option.some.inj q33596
                exact ⟨(false, I33678), (.c rfl .n), rfl, hp, tb⟩
            ·
              have q33596 := cond_f q33596 hc
              refine vch_qf e6 rfl e5 rfl rfl hc ?_
              refine vch_qf e8 rfl e5 rfl rfl rfl ?_
              refine vch_lf e7 rfl e5 rfl rfl rfl ?_
              refine ⟨Stp I33663 w33668 I33663, Stp.refl _ _, fun x hx => hz.held hx, ?_⟩
              have hz := Stp.refl I33663 w33668
              refine vch_lf e9 rfl e5 rfl rfl rfl ?_
              refine ⟨Stp I33663 w33668 I33663, Stp.refl _ _, fun x hx => hz.held hx, ?_⟩
              have hz := Stp.refl I33663 w33668
              refine vch_lf e10 rfl e5 rfl rfl rfl ?_
              refine ⟨Stp I33663 w33668 I33663, Stp.refl _ _, fun x hx => hz.held hx, ?_⟩
              have hz := Stp.refl I33663 w33668
              refine vch_q e11 rfl ?_
              refine vch_q e12 rfl ?_
              refine vch_qf e13 rfl e12 rfl rfl rfl ?_
              refine vch_qf e15 rfl e12 rfl rfl rfl ?_
              refine vch_lf e14 rfl e12 rfl rfl rfl ?_
              refine ⟨Stp I33663 w33668 I33663, Stp.refl _ _, fun x hx => hz.held hx, ?_⟩
              have hz := Stp.refl I33663 w33668
              refine vch_lf e16 rfl e12 rfl rfl rfl ?_
              refine ⟨Stp I33663 w33668 I33663, Stp.refl _ _, fun x hx => hz.held hx, ?_⟩
              have hz := Stp.refl I33663 w33668
              refine vch_lf e17 rfl e12 rfl rfl rfl ?_
              refine ⟨Stp I33663 w33668 I33663, Stp.refl _ _, fun x hx => hz.held hx, ?_⟩
              have hz := Stp.refl I33663 w33668
              refine vch_q e18 rfl ?_
              refine vch_q e19 rfl ?_
              refine vch_qf e20 rfl e19 rfl rfl rfl ?_
              refine vch_qf e22 rfl e19 rfl rfl rfl ?_
              refine vch_lf e21 rfl e19 rfl rfl rfl ?_
              refine ⟨Stp I33663 w33668 I33663, Stp.refl _ _, fun x hx => hz.held hx, ?_⟩
              have hz := Stp.refl I33663 w33668
              refine vch_lf e23 rfl e19 rfl rfl rfl ?_
              refine ⟨Stp I33663 w33668 I33663, Stp.refl _ _, fun x hx => hz.held hx, ?_⟩
              have hz := Stp.refl I33663 w33668
              refine vch_qf e24 rfl e19 rfl rfl rfl ?_
              refine vch_q e25 rfl ?_
              refine vch_q e26 rfl ?_
              refine vch_qf e27 rfl e26 rfl rfl rfl ?_
              refine vch_qf e29 rfl e26 rfl rfl rfl ?_
              refine vch_lf e28 rfl e26 rfl rfl rfl ?_
              refine ⟨Stp I33663 w33668 I33663, Stp.refl _ _, fun x hx => hz.held hx, ?_⟩
              have hz := Stp.refl I33663 w33668
              refine vch_lf e30 rfl e26 rfl rfl rfl ?_
              refine ⟨Stp I33663 w33668 I33663, Stp.refl _ _, fun x hx => hz.held hx, ?_⟩
              have hz := Stp.refl I33663 w33668
              refine vch_qf e31 rfl e26 rfl rfl rfl ?_
              refine vch_q e32 rfl ?_
              refine vch_q e33 rfl ?_
              refine vch_end ?_
              obtain rfl := Option.some.inj q33596
              exact ⟨(false, I33663), (.c rfl .n), rfl, hp, tb⟩
          ·
            rintro ⟨x33592, I33593⟩ w33594 ⟨hy, hp, tb⟩
            replace hy := hy.symm
            subst hy
            apply go
            obtain rfl := Option.some.inj h
            exact ⟨rfl, hp.ch⟩

end Go.Proofs.YthhghkcopfnbiaaGreatDoor
