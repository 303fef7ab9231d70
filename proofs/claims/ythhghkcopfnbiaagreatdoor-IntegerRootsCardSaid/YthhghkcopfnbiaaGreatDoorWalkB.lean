/-
  Each function of the program computes the plain function of its name.
-/
import Derived.Test.YthhghkcopfnbiaaGreatDoorFactsA
import Derived.Test.YthhghkcopfnbiaaGreatDoorWalkA
import Derived.Test.YthhghkcopfnbiaaGreatDoorCoreA
namespace Go.Proofs.YthhghkcopfnbiaaGreatDoor
open Go Go.Proofs.YthhghkcopfnbiaaGreatDoor.Gw Go.RowKit
set_option linter.unusedVariables false
attribute [local irreducible] Ev EvQ EvS EvH
def integer_Parse_S (f : ByteArray → Option (Int_2 × Int)) : Prop := ∀ (w0 : World) (I0 : Nat → Prop) (tb : Tb w0 I0 1 .u64 pow10) (x19209 : ByteArray) (hI : ∀ g, I0 g → g < w0.heap.size) (r : (Int_2 × Int)), f x19209 = some r →
    Ret Tryz.prog 26 #[(.string x19209)] w0 fun v w1 => ∃ (I1 : Nat → Prop) (u19210 : Value), v = (.tuple #[(.agg #[(.bool r.1.Neg), u19210]), (.int .i64 r.2)]) ∧ Hp ⟨w0, I0, []⟩ I1 [] w1 ∧ RepS (dI .u32) w1 I1 u19210 r.1.Mag
theorem integer_Parse_ok (n : Nat) : integer_Parse_S (integer_Parse n) := by
  intro w0 I0 tb x19209 hI r h
  unfold integer_Parse at h
  refine enter Tryz.func26 rfl (Nat.le_of_ble_eq_true rfl) ?_
  have hp : Hp ⟨w0, I0, []⟩ I0 [] w0 := Hp.start hI
  apply go
  apply go
  refine ev_alloc hp rfl T24 ?_
  intro g19211 w19212 hp hs
  replace tb := tb.step hs
  apply go
  apply go
  apply go
  refine ev0 (rn_lenS rfl rfl Tryz.underlying9) ?_
  apply go
  refine sel_of (fun hc => ?_) (fun hc => ?_)
  ·
    have h := cond_t h hc
    apply go
    apply go
    refine ev0 (fun w => rn_build (cs := [(.bool false), (.slice none 0 0)]) rfl rfl T24 PL24 rfl) ?_
    refine ev_storeA hp (i := 0) (off := 0) (vs := [(.bool false), (.slice none 0 0)]) rfl rfl rfl rfl T24 rfl (Nat.le_of_ble_eq_true rfl) (ones_of rfl) ?_
    intro w19213 hp hs
    replace tb := tb.step hs
    apply go
    obtain rfl := Option.some.inj h
    refine ⟨_, run_loadVarA T24 rfl (hp.at_ (i := 0) rfl), ?_⟩
    have hp := hp.sel [] (by decide)
    exact ⟨I0, .slice none 0 0, rfl, hp, RepS.nil _ _ _⟩
  ·
    have h := cond_f h hc
    apply go
    apply go
    apply go
    obtain ⟨⟨x19214, x19215⟩, q19216, h⟩ := bind_some h
    refine ev_call rfl rfl C62 (((strings_CutPrefix_ok n) _ _  x19209 (ByteArray.mk #[45]) hp.imm _ q19216).mono ?_)
    rintro _ w19217 ⟨rfl, hc⟩
    have hs := hp.stp hc
    replace hp := hp.ext hc
    replace tb := tb.step hs
    apply go
    obtain ⟨y19220, q19221, h⟩ := bind_some h
    refine W.cut (γ := Unit) (fun _ => [(2, (.pointer (some ⟨g19211, 0, none⟩))), (4, (.string x19214)), (5, (.bool x19215)), (34, (.bool true))]) (fun _ w' => y19220 = () ∧ w19217 = w') ?_ ?_
    ·
      apply go
      refine sel_of (fun hc => ?_) (fun hc => ?_)
      ·
        have q19221 := cond_t q19221 hc
        obtain rfl := Option.some.inj q19221
        exact ⟨(), (.c rfl (.c rfl (.c rfl (.c rfl .n)))), rfl, rfl⟩
      ·
        have q19221 := cond_f q19221 hc
        obtain ⟨x19222, q19223, q19221⟩ := bind_some q19221
        refine ev0 (rn_indexS rfl rfl rfl Tryz.underlying9 q19223) ?_
        refine sel_of (fun hc => ?_) (fun hc => ?_)
        ·
          have q19221 := cond_t q19221 hc
          refine sel_of (fun hc => ?_) (fun hc => ?_)
          ·
            have q19221 := cond_t q19221 hc
            obtain rfl := Option.some.inj q19221
            exact ⟨(), (.c rfl (.c rfl (.c rfl (.c rfl .n)))), rfl, rfl⟩
          ·
            have q19221 := cond_f q19221 hc
            cases q19221
        ·
          have q19221 := cond_f q19221 hc
          cases q19221
    ·
      rintro ⟨⟩ _ ⟨hy, rfl⟩
      replace hy := hy.symm
      subst hy
      apply go
      apply go
      apply go
      refine ev0 (fun w => rn_build (cs := [(.bool false), (.slice none 0 0)]) rfl rfl T24 PL24 rfl) ?_
      refine ev_storeA hp (i := 0) (off := 0) (vs := [(.bool false), (.slice none 0 0)]) rfl rfl rfl rfl T24 rfl (Nat.le_of_ble_eq_true rfl) (ones_of rfl) ?_
      intro w19224 hp hs
      replace tb := tb.step hs
      apply go
      obtain rfl := Option.some.inj h
      refine ⟨_, run_loadVarA T24 rfl (hp.at_ (i := 0) rfl), ?_⟩
      have hp := hp.sel [] (by decide)
      exact ⟨I0, .slice none 0 0, rfl, hp, RepS.nil _ _ _⟩

end Go.Proofs.YthhghkcopfnbiaaGreatDoor

namespace Go.Proofs.YthhghkcopfnbiaaGreatDoor
open Go Go.Proofs.YthhghkcopfnbiaaGreatDoor.Gw Go.RowKit
set_option linter.unusedVariables false
attribute [local irreducible] Ev EvQ EvS EvH
def integer_Sign_S (f : Int_2 → Option Int) : Prop := ∀ (w0 : World) (I0 : Nat → Prop) (x16104 : Int_2) (v16105 : Value) (r16106 : RepS (dI .u32) w0 I0 v16105 x16104.Mag) (hI : ∀ g, I0 g → g < w0.heap.size) (r : Int), f x16104 = some r →
    Ret Tryz.prog 23 #[(.agg #[(.bool x16104.Neg), v16105])] w0 fun v w1 => v = (.int .i64 r) ∧ Ch [] w0 w1
theorem integer_Sign_ok (n : Nat) : integer_Sign_S (integer_Sign n) := by
  intro w0 I0 x16104 v16105 r16106 hI r h
  unfold integer_Sign at h
  refine enter Tryz.func23 rfl (Nat.le_of_ble_eq_true rfl) ?_
  have hp : Hp ⟨w0, I0, []⟩ I0 [] w0 := Hp.start hI
  apply go
  apply go
  refine ev_boxI hp rfl rfl ?_
  intro p16109 I16110 w16108 hp hs a16111
  replace r16106 := r16106.step hs
  apply go
  apply go
  apply go
  apply go
  refine ev0 (rn_field rfl rfl FO24_1) ?_
  refine ev (rn_load rfl rfl (run_loadVar1 T22 (a16111.2 1 _ rfl))) ?_
  obtain ⟨x16112, q16113, h⟩ := bind_some h
  refine ev_call rfl rfl C46 (((integer_trim_ok n) _ _  x16104.Mag v16105 r16106 hp.imm _ q16113).mono ?_)
  rintro _ w16114 ⟨I16115, v16116, hv, hq, r16117⟩
  replace hv := hv.symm
  subst hv
  have hs := hq.st
  have hp := hp.join0 hq
  replace a16111 := a16111.step hs
  replace r16106 := r16106.step hs
  refine ev0 (rn_len rfl rfl Tryz.underlying22 r16117) ?_
  apply go
  refine sel_of (fun hc => ?_) (fun hc => ?_)
  ·
    have h := cond_t h hc
    apply go
    apply go
    apply go
    obtain rfl := Option.some.inj h
    exact ⟨rfl, hp.ch⟩
  ·
    have h := cond_f h hc
    apply go
    apply go
    refine ev0 (rn_field rfl rfl FO24_0) ?_
    refine ev (rn_load rfl rfl (run_loadVar1 T4 (a16111.2 0 _ rfl))) ?_
    apply go
    refine sel_of (fun hc => ?_) (fun hc => ?_)
    ·
      have h := cond_t h hc
      apply go
      apply go
      apply go
      obtain rfl := Option.some.inj h
      exact ⟨rfl, hp.ch⟩
    ·
      have h := cond_f h hc
      apply go
      apply go
      apply go
      apply go
      obtain rfl := Option.some.inj h
      exact ⟨rfl, hp.ch⟩

end Go.Proofs.YthhghkcopfnbiaaGreatDoor

namespace Go.Proofs.YthhghkcopfnbiaaGreatDoor
open Go Go.Proofs.YthhghkcopfnbiaaGreatDoor.Gw Go.RowKit
set_option linter.unusedVariables false
attribute [local irreducible] Ev EvQ EvS EvH
def integer_Cmp_S (f : Int_2 → Int_2 → Option Int) : Prop := ∀ (w0 : World) (I0 : Nat → Prop) (x16141 : Int_2) (v16142 : Value) (r16143 : RepS (dI .u32) w0 I0 v16142 x16141.Mag) (x16144 : Int_2) (v16145 : Value) (r16146 : RepS (dI .u32) w0 I0 v16145 x16144.Mag) (hI : ∀ g, I0 g → g < w0.heap.size) (r : Int), f x16141 x16144 = some r →
    Ret Tryz.prog 17 #[(.agg #[(.bool x16141.Neg), v16142]), (.agg #[(.bool x16144.Neg), v16145])] w0 fun v w1 => v = (.int .i64 r) ∧ Ch [] w0 w1
theorem integer_Cmp_ok (n : Nat) : integer_Cmp_S (integer_Cmp n) := by
  intro w0 I0 x16141 v16142 r16143 x16144 v16145 r16146 hI r h
  unfold integer_Cmp at h
  refine enter Tryz.func17 rfl (Nat.le_of_ble_eq_true rfl) ?_
  have hp : Hp ⟨w0, I0, []⟩ I0 [] w0 := Hp.start hI
  apply go
  apply go
  refine ev_boxI hp rfl rfl ?_
  intro p16149 I16150 w16148 hp hs a16151
  replace r16146 := r16146.step hs
  replace r16143 := r16143.step hs
  refine ev_boxI hp rfl rfl ?_
  intro p16154 I16155 w16153 hp hs a16156
  replace a16151 := a16151.step hs
  replace r16143 := r16143.step hs
  replace r16146 := r16146.step hs
  apply go
  refine W.quiet (fun w' => Ch [] w16153 w') MX (by kernel_rfl) (Ch.drew [] w16153) ?_
  refine evq (fun w' hw => rn_load rfl rfl (run_loadVarA T24 rfl (a16151.step (hp.stp hw)))) ?_
  obtain ⟨x16157, q16158, h⟩ := bind_some h
  refine evq_call rfl rfl C23 (fun w' hw => ((integer_Sign_ok n) _ _  (Int_2.mk x16141.Neg x16141.Mag) v16142 (r16143.step (hp.stp hw)) (hp.ext hw).imm _ q16158).mono fun _ _ ⟨e, hc⟩ => ⟨e, hw.trans hc⟩) ?_
  refine evq (fun w' hw => rn_load rfl rfl (run_loadVarA T24 rfl (a16156.step (hp.stp hw)))) ?_
  obtain ⟨x16159, q16160, h⟩ := bind_some h
  refine evq_call rfl rfl C23 (fun w' hw => ((integer_Sign_ok n) _ _  (Int_2.mk x16144.Neg x16144.Mag) v16145 (r16146.step (hp.stp hw)) (hp.ext hw).imm _ q16160).mono fun _ _ ⟨e, hc⟩ => ⟨e, hw.trans hc⟩) ?_
  intro w16161 hc
  have hs := hp.stp hc
  replace hp := hp.ext hc
  replace a16151 := a16151.step hs
  replace r16143 := r16143.step hs
  replace a16156 := a16156.step hs
  replace r16146 := r16146.step hs
  apply go
  apply go
  apply go
  apply go
  apply go
  refine sel_of (fun hc => ?_) (fun hc => ?_)
  ·
    have h := cond_t h hc
    apply go
    apply go
    apply go
    obtain rfl := Option.some.inj h
    exact ⟨rfl, hp.ch⟩
  ·
    have h := cond_f h hc
    apply go
    apply go
    apply go
    refine sel_of (fun hc => ?_) (fun hc => ?_)
    ·
      have h := cond_t h hc
      apply go
      apply go
      apply go
      obtain rfl := Option.some.inj h
      exact ⟨rfl, hp.ch⟩
    ·
      have h := cond_f h hc
      apply go
      apply go
      have hs := hp.stp (Ch.drew [] w16161)
      have hp := hp.drew
      replace a16151 := a16151.step hs
      replace r16143 := r16143.step hs
      replace a16156 := a16156.step hs
      replace r16146 := r16146.step hs
      refine W.held [(0, true), (1, true), (2, true), (4, true), (5, true), (3, false), (6, false), (7, false), (8, true), (9, true)] (Stp I16155 w16161.drew I16155) MX (by kernel_rfl) (Stp.refl _ _) ?_
      have hz := Stp.refl I16155 w16161.drew
      refine evh0 (rn_field rfl rfl FO24_1) ?_
      refine evh (fun w' hw => rn_load rfl rfl (run_loadVar1 T22 ((a16151.step hw).2 1 _ rfl))) ?_
      refine evh0 (rn_field rfl rfl FO24_1) ?_
      refine evh (fun w' hw => rn_load rfl rfl (run_loadVar1 T22 ((a16156.step hw).2 1 _ rfl))) ?_
      obtain ⟨x16177, q16178, h⟩ := bind_some h
      refine ev_call rfl rfl C46 (((integer_trim_ok n) _ _  x16141.Mag v16142 r16143 hp.imm _ q16178).mono ?_)
      rintro _ w16179 ⟨I16180, v16181, hv, hq, r16182⟩
      replace hv := hv.symm
      subst hv
      have hs := hq.st
      have hp := hp.join0 hq
      replace hz := hz.trans hs
      replace r16146 := r16146.step hs
      refine ⟨Stp I16180 w16179 I16180, Stp.refl _ _, fun x hx => hz.held hx, ?_⟩
      have hz := Stp.refl I16180 w16179
      obtain ⟨x16183, q16184, h⟩ := bind_some h
      refine ev_call rfl rfl C46 (((integer_trim_ok n) _ _  x16144.Mag v16145 r16146 hp.imm _ q16184).mono ?_)
      rintro _ w16185 ⟨I16186, v16187, hv, hq, r16188⟩
      replace hv := hv.symm
      subst hv
      have hs := hq.st
      have hp := hp.join0 hq
      replace hz := hz.trans hs
      replace r16182 := r16182.step hs
      refine ⟨Stp I16186 w16185 I16186, Stp.refl _ _, fun x hx => hz.held hx, ?_⟩
      have hz := Stp.refl I16186 w16185
      obtain ⟨x16189, q16190, h⟩ := bind_some h
      refine ev_call rfl rfl C48 (((integer_compare_ok n) _ _  x16177 v16181 r16182 x16183 v16187 r16188 hp.imm _ q16190).mono ?_)
      rintro _ w16191 ⟨rfl, hc⟩
      have hs := hp.stp hc
      replace hp := hp.ext hc
      replace hz := hz.trans hs
      refine ⟨Stp I16186 w16191 I16186, Stp.refl _ _, fun x hx => hz.held hx, ?_⟩
      have hz := Stp.refl I16186 w16191
      apply go
      obtain rfl := Option.some.inj h
      exact ⟨rfl, hp.ch⟩

end Go.Proofs.YthhghkcopfnbiaaGreatDoor

namespace Go.Proofs.YthhghkcopfnbiaaGreatDoor
open Go Go.Proofs.YthhghkcopfnbiaaGreatDoor.Gw Go.RowKit
set_option linter.unusedVariables false
attribute [local irreducible] Ev EvQ EvS EvH
def integer_Sqrt_S (f : Int_2 → Option (Int_2 × Int)) : Prop := ∀ (w0 : World) (I0 : Nat → Prop) (x16192 : Int_2) (v16193 : Value) (r16194 : RepS (dI .u32) w0 I0 v16193 x16192.Mag) (hI : ∀ g, I0 g → g < w0.heap.size) (r : (Int_2 × Int)), f x16192 = some r →
    Ret Tryz.prog 33 #[(.agg #[(.bool x16192.Neg), v16193])] w0 fun v w1 => ∃ (I1 : Nat → Prop) (u16195 : Value), v = (.tuple #[(.agg #[(.bool r.1.Neg), u16195]), (.int .i64 r.2)]) ∧ Hp ⟨w0, I0, []⟩ I1 [] w1 ∧ RepS (dI .u32) w1 I1 u16195 r.1.Mag
theorem integer_Sqrt_ok (n : Nat) : integer_Sqrt_S (integer_Sqrt n) := by
  intro w0 I0 x16192 v16193 r16194 hI r h
  unfold integer_Sqrt at h
  refine enter Tryz.func33 rfl (Nat.le_of_ble_eq_true rfl) ?_
  have hp : Hp ⟨w0, I0, []⟩ I0 [] w0 := Hp.start hI
  apply go
  apply go
  refine ev_boxI hp rfl rfl ?_
  intro p16198 I16199 w16197 hp hs a16200
  replace r16194 := r16194.step hs
  refine ev_alloc hp rfl T24 ?_
  intro g16201 w16202 hp hs
  replace a16200 := a16200.step hs
  replace r16194 := r16194.step hs
  apply go
  apply go
  apply go
  refine ev (rn_load rfl rfl (run_loadVarA T24 rfl a16200)) ?_
  obtain ⟨x16203, q16204, h⟩ := bind_some h
  refine ev_call rfl rfl C23 (((integer_Sign_ok n) _ _  (Int_2.mk x16192.Neg x16192.Mag) v16193 r16194 hp.imm _ q16204).mono ?_)
  rintro _ w16205 ⟨rfl, hc⟩
  have hs := hp.stp hc
  replace hp := hp.ext hc
  replace a16200 := a16200.step hs
  replace r16194 := r16194.step hs
  apply go
  apply go
  apply go
  apply go
  refine sel_of (fun hc => ?_) (fun hc => ?_)
  ·
    have h := cond_t h hc
    apply go
    apply go
    refine ev0 (fun w => rn_build (cs := [(.bool false), (.slice none 0 0)]) rfl rfl T24 PL24 rfl) ?_
    refine ev_storeA hp (i := 0) (off := 0) (vs := [(.bool false), (.slice none 0 0)]) rfl rfl rfl rfl T24 rfl (Nat.le_of_ble_eq_true rfl) (ones_of rfl) ?_
    intro w16206 hp hs
    apply go
    obtain rfl := Option.some.inj h
    refine ⟨_, run_loadVarA T24 rfl (hp.at_ (i := 0) rfl), ?_⟩
    have hp := hp.sel [] (by decide)
    exact ⟨I16199, .slice none 0 0, rfl, hp, RepS.nil _ _ _⟩
  ·
    have h := cond_f h hc
    apply go
    apply go
    apply go
    refine sel_of (fun hc => ?_) (fun hc => ?_)
    ·
      have h := cond_t h hc
      apply go
      apply go
      refine ev0 (fun w => rn_build (cs := [(.bool false), (.slice none 0 0)]) rfl rfl T24 PL24 rfl) ?_
      refine ev_storeA hp (i := 0) (off := 0) (vs := [(.bool false), (.slice none 0 0)]) rfl rfl rfl rfl T24 rfl (Nat.le_of_ble_eq_true rfl) (ones_of rfl) ?_
      intro w16207 hp hs
      apply go
      obtain rfl := Option.some.inj h
      refine ⟨_, run_loadVarA T24 rfl (hp.at_ (i := 0) rfl), ?_⟩
      have hp := hp.sel [] (by decide)
      exact ⟨I16199, .slice none 0 0, rfl, hp, RepS.nil _ _ _⟩
    ·
      have h := cond_f h hc
      apply go
      apply go
      apply go
      refine ev (rn_load rfl rfl (run_loadVarA T24 rfl a16200)) ?_
      obtain ⟨x16208, q16209, h⟩ := bind_some h
      refine ev_call rfl rfl C19 (((integer_Bits_ok n) _ _  (Int_2.mk x16192.Neg x16192.Mag) v16193 r16194 hp.imm _ q16209).mono ?_)
      rintro _ w16210 ⟨rfl, hc⟩
      have hs := hp.stp hc
      replace hp := hp.ext hc
      replace a16200 := a16200.step hs
      replace r16194 := r16194.step hs
      refine ⟨by decide, ?_⟩
      apply go
      apply go
      refine ⟨by decide, ?_⟩
      obtain ⟨x16211, q16212, h⟩ := bind_some h
      refine ev_make (d := (dI .u32)) (x0 := 0) hp rfl rfl rfl Tryz.underlying22 T45 (fun _ _ => rfl) (Nat.le_of_ble_eq_true rfl) q16212 ?_
      intro v16213 e16214 w16215 hp hs o16216
      replace a16200 := a16200.step hs
      replace r16194 := r16194.step hs
      apply go
      apply go
      refine ⟨by decide, ?_⟩
      refine ⟨by decide, ?_⟩
      obtain ⟨q16217, _, h⟩ := need_some h
      refine ⟨q16217, ?_⟩
      obtain ⟨x16218, q16219, h⟩ := bind_some h
      refine ev_indexO rfl rfl rfl Tryz.underlying22 T45 o16216 q16219 ?_
      intro g16220 c16221 h16224 d16222 l16223
      refine ev_storeE hp (i := 0) rfl h16224 rfl rfl rfl T45 o16216 q16219 (x0 := (IntKind.u32.wrap ((1 : Int) * 2 ^ min ((IntKind.i64.wrap ((IntKind.i64.wrap (x16208 + 1)).tdiv 2)).tmod 32).toNat (IntKind.u32).bits))) rfl ?_
      intro e16227 w16226 hp hs o16228
      replace a16200 := a16200.step hs
      replace r16194 := r16194.step hs
      apply go
      apply go
      have r16231 := o16228.frz hp (i := 0) rfl
      obtain ⟨hp, hs⟩ := freeze_hp hp (i := 0) rfl
      replace a16200 := a16200.step hs
      replace r16194 := r16194.step hs
      have hp := hp.sel [1] (by decide)
      obtain ⟨x16232, q16233, h⟩ := bind_some h
      refine ev_call rfl rfl C49 (((integer_made_ok n) _ _  false (upd x16211 (IntKind.i64.wrap ((IntKind.i64.wrap ((IntKind.i64.wrap (x16208 + 1)).tdiv 2)).tdiv 32)) (IntKind.u32.wrap ((1 : Int) * 2 ^ min ((IntKind.i64.wrap ((IntKind.i64.wrap (x16208 + 1)).tdiv 2)).tmod 32).toNat (IntKind.u32).bits))) v16213 r16231 hp.imm _ q16233).mono ?_)
      rintro _ w16234 ⟨I16235, v16236, hv, hq, r16237⟩
      replace hv := hv.symm
      subst hv
      have hs := hq.st
      have hp := hp.join0 hq
      replace a16200 := a16200.step hs
      replace r16194 := r16194.step hs
      refine ev_alloc hp rfl T24 ?_
      intro g16238 w16239 hp hs
      replace a16200 := a16200.step hs
      replace r16194 := r16194.step hs
      replace r16237 := r16237.step hs
      refine ev_storeA hp (i := 0) (off := 0) (vs := [(.bool x16232.Neg), v16236]) rfl rfl rfl rfl T24 rfl (Nat.le_of_ble_eq_true rfl) (ones_cons rfl (ones_cons r16237.one ones_nil)) ?_
      intro w16240 hp hs
      replace a16200 := a16200.step hs
      replace r16194 := r16194.step hs
      replace r16237 := r16237.step hs
      apply go
      have hp := hp.perm [1, 0] (by decide)
      refine W.loop h (γ := (Value × (Nat → Prop))) (fun s g => [(1, (.pointer (some (p16198)))), (2, (.pointer (some ⟨g16201, 0, none⟩))), (6, (.pointer (some ⟨g16238, 0, none⟩)))]) (fun s g w' => Hp ⟨w0, I0, []⟩ (g.2) [some (g16201, [(.bool false), (.slice none 0 0)], 24), some (g16238, [(.bool (s.1)), (g.1)], 24)] w' ∧ RepS (dI .u32) w' (g.2) v16193 x16192.Mag ∧ At w' (g.2) p16198 [(.bool x16192.Neg), v16193] ∧ RepS (dI .u32) w' (g.2) (g.1) (s.2)) (v16236, I16235) (.c rfl (.c rfl (.c rfl .n))) ⟨hp, r16194, a16200, r16237⟩ ?_
      rintro ⟨x16290, x16291⟩ ⟨v16292, I16294⟩ w16349 y16350 ⟨hp, r16194, a16200, r16293⟩ q16351 q16352
      unfold integer_Sqrt_L0 at q16351
      apply go
      apply go
      apply go
      refine ev (rn_load rfl rfl (run_loadVarA T24 rfl a16200)) ?_
      refine ev (rn_load rfl rfl (run_loadVarA T24 rfl (hp.at_ (i := 1) rfl))) ?_
      obtain ⟨⟨x16353, x16354, x16355⟩, q16356, q16351⟩ := bind_some q16351
      refine ev_call rfl rfl C24 (((integer_DivMod_ok n) _ _  (Int_2.mk x16192.Neg x16192.Mag) v16193 r16194 (Int_2.mk x16290 x16291) v16292 r16293 hp.imm _ q16356).mono ?_)
      rintro _ w16357 ⟨I16358, v16359, v16361, hv, hq, r16360, r16362⟩
      replace hv := hv.symm
      subst hv
      have hs := hq.st
      have hp := hp.join0 hq
      replace a16200 := a16200.step hs
      replace r16194 := r16194.step hs
      replace r16293 := r16293.step hs
      refine ev_alloc hp rfl T24 ?_
      intro g16363 w16364 hp hs
      replace a16200 := a16200.step hs
      replace r16194 := r16194.step hs
      replace r16360 := r16360.step hs
      replace r16362 := r16362.step hs
      replace r16293 := r16293.step hs
      refine ev_alloc hp rfl T24 ?_
      intro g16365 w16366 hp hs
      replace a16200 := a16200.step hs
      replace r16194 := r16194.step hs
      replace r16360 := r16360.step hs
      replace r16362 := r16362.step hs
      replace r16293 := r16293.step hs
      refine ev_storeA hp (i := 1) (off := 0) (vs := [(.bool x16353.Neg), v16359]) rfl rfl rfl rfl T24 rfl (Nat.le_of_ble_eq_true rfl) (ones_cons rfl (ones_cons r16360.one ones_nil)) ?_
      intro w16367 hp hs
      replace a16200 := a16200.step hs
      replace r16194 := r16194.step hs
      replace r16362 := r16362.step hs
      replace r16360 := r16360.step hs
      replace r16293 := r16293.step hs
      refine ev_storeA hp (i := 0) (off := 0) (vs := [(.bool x16354.Neg), v16361]) rfl rfl rfl rfl T24 rfl (Nat.le_of_ble_eq_true rfl) (ones_cons rfl (ones_cons r16362.one ones_nil)) ?_
      intro w16368 hp hs
      replace a16200 := a16200.step hs
      replace r16194 := r16194.step hs
      replace r16362 := r16362.step hs
      replace r16360 := r16360.step hs
      replace r16293 := r16293.step hs
      apply go
      apply go
      refine ev (rn_load rfl rfl (run_loadVarA T24 rfl (hp.at_ (i := 3) rfl))) ?_
      refine ev (rn_load rfl rfl (run_loadVarA T24 rfl (hp.at_ (i := 1) rfl))) ?_
      obtain ⟨x16369, q16370, q16351⟩ := bind_some q16351
      refine ev_call rfl rfl C30 (((integer_Add_ok n) _ _  (Int_2.mk x16290 x16291) v16292 r16293 (Int_2.mk x16353.Neg x16353.Mag) v16359 r16360 hp.imm _ q16370).mono ?_)
      rintro _ w16371 ⟨I16372, v16373, hv, hq, r16374⟩
      replace hv := hv.symm
      subst hv
      have hs := hq.st
      have hp := hp.join0 hq
      replace a16200 := a16200.step hs
      replace r16194 := r16194.step hs
      replace r16362 := r16362.step hs
      replace r16360 := r16360.step hs
      replace r16293 := r16293.step hs
      obtain ⟨x16375, q16376, q16351⟩ := bind_some q16351
      refine ev_call rfl rfl C18 (((integer_Of_ok n) _ _  2 hp.imm _ q16376).mono ?_)
      rintro _ w16377 ⟨I16378, v16379, hv, hq, r16380⟩
      replace hv := hv.symm
      subst hv
      have hs := hq.st
      have hp := hp.join0 hq
      replace a16200 := a16200.step hs
      replace r16194 := r16194.step hs
      replace r16374 := r16374.step hs
      replace r16362 := r16362.step hs
      replace r16360 := r16360.step hs
      replace r16293 := r16293.step hs
      obtain ⟨⟨x16381, x16382, x16383⟩, q16384, q16351⟩ := bind_some q16351
      refine ev_call rfl rfl C24 (((integer_DivMod_ok n) _ _  x16369 v16373 r16374 x16375 v16379 r16380 hp.imm _ q16384).mono ?_)
      rintro _ w16385 ⟨I16386, v16387, v16389, hv, hq, r16388, r16390⟩
      replace hv := hv.symm
      subst hv
      have hs := hq.st
      have hp := hp.join0 hq
      replace a16200 := a16200.step hs
      replace r16194 := r16194.step hs
      replace r16362 := r16362.step hs
      replace r16360 := r16360.step hs
      replace r16293 := r16293.step hs
      refine ev_alloc hp rfl T24 ?_
      intro g16391 w16392 hp hs
      replace a16200 := a16200.step hs
      replace r16194 := r16194.step hs
      replace r16388 := r16388.step hs
      replace r16390 := r16390.step hs
      replace r16362 := r16362.step hs
      replace r16360 := r16360.step hs
      replace r16293 := r16293.step hs
      refine ev_alloc hp rfl T24 ?_
      intro g16393 w16394 hp hs
      replace a16200 := a16200.step hs
      replace r16194 := r16194.step hs
      replace r16388 := r16388.step hs
      replace r16390 := r16390.step hs
      replace r16362 := r16362.step hs
      replace r16360 := r16360.step hs
      replace r16293 := r16293.step hs
      refine ev_storeA hp (i := 1) (off := 0) (vs := [(.bool x16381.Neg), v16387]) rfl rfl rfl rfl T24 rfl (Nat.le_of_ble_eq_true rfl) (ones_cons rfl (ones_cons r16388.one ones_nil)) ?_
      intro w16395 hp hs
      replace a16200 := a16200.step hs
      replace r16194 := r16194.step hs
      replace r16390 := r16390.step hs
      replace r16388 := r16388.step hs
      replace r16362 := r16362.step hs
      replace r16360 := r16360.step hs
      replace r16293 := r16293.step hs
      refine ev_storeA hp (i := 0) (off := 0) (vs := [(.bool x16382.Neg), v16389]) rfl rfl rfl rfl T24 rfl (Nat.le_of_ble_eq_true rfl) (ones_cons rfl (ones_cons r16390.one ones_nil)) ?_
      intro w16396 hp hs
      replace a16200 := a16200.step hs
      replace r16194 := r16194.step hs
      replace r16390 := r16390.step hs
      replace r16388 := r16388.step hs
      replace r16362 := r16362.step hs
      replace r16360 := r16360.step hs
      replace r16293 := r16293.step hs
      apply go
      apply go
      apply go
      refine ev (rn_load rfl rfl (run_loadVarA T24 rfl (hp.at_ (i := 1) rfl))) ?_
      refine ev (rn_load rfl rfl (run_loadVarA T24 rfl (hp.at_ (i := 5) rfl))) ?_
      obtain ⟨x16397, q16398, q16351⟩ := bind_some q16351
      refine ev_call rfl rfl C17 (((integer_Cmp_ok n) _ _  (Int_2.mk x16381.Neg x16381.Mag) v16387 r16388 (Int_2.mk x16290 x16291) v16292 r16293 hp.imm _ q16398).mono ?_)
      rintro _ w16399 ⟨rfl, hc⟩
      have hs := hp.stp hc
      replace hp := hp.ext hc
      replace a16200 := a16200.step hs
      replace r16194 := r16194.step hs
      replace r16390 := r16390.step hs
      replace r16388 := r16388.step hs
      replace r16362 := r16362.step hs
      replace r16360 := r16360.step hs
      replace r16293 := r16293.step hs
      apply go
      refine sel_of (fun hc => ?_) (fun hc => ?_)
      ·
        have q16351 := cond_t q16351 hc
        apply go
        apply go
        refine ev (rn_load rfl rfl (run_loadVarA T24 rfl (hp.at_ (i := 5) rfl))) ?_
        refine ev_storeA hp (i := 4) (off := 0) (vs := [(.bool x16290), v16292]) rfl rfl rfl rfl T24 rfl (Nat.le_of_ble_eq_true rfl) (ones_cons rfl (ones_cons r16293.one ones_nil)) ?_
        intro w16400 hp hs
        replace r16390 := r16390.step hs
        replace r16388 := r16388.step hs
        replace r16362 := r16362.step hs
        replace r16360 := r16360.step hs
        replace r16293 := r16293.step hs
        apply go
        have q16401 := congrArg some (q16352 _ (Option.some.inj q16351).symm)
        obtain rfl := Option.some.inj q16401
        refine ⟨_, run_loadVarA T24 rfl (hp.at_ (i := 4) rfl), ?_⟩
        have hp := hp.sel [] (by decide)
        exact ⟨I16386, v16292, rfl, hp, r16293⟩
      ·
        have q16351 := cond_f q16351 hc
        apply go
        apply go
        refine ev (rn_load rfl rfl (run_loadVarA T24 rfl (hp.at_ (i := 1) rfl))) ?_
        refine ev_storeA hp (i := 5) (off := 0) (vs := [(.bool x16381.Neg), v16387]) rfl rfl rfl rfl T24 rfl (Nat.le_of_ble_eq_true rfl) (ones_cons rfl (ones_cons r16388.one ones_nil)) ?_
        intro w16402 hp hs
        replace a16200 := a16200.step hs
        replace r16194 := r16194.step hs
        replace r16390 := r16390.step hs
        replace r16388 := r16388.step hs
        replace r16362 := r16362.step hs
        replace r16360 := r16360.step hs
        have hp := hp.sel [4, 5] (by decide)
        exact ⟨_, (Option.some.inj q16351).symm, (v16387, I16386), (.c rfl (.c rfl (.c rfl .n))), ⟨hp, r16194, a16200, r16388⟩⟩

end Go.Proofs.YthhghkcopfnbiaaGreatDoor

namespace Go.Proofs.YthhghkcopfnbiaaGreatDoor
open Go Go.Proofs.YthhghkcopfnbiaaGreatDoor.Gw Go.RowKit
set_option linter.unusedVariables false
attribute [local irreducible] Ev EvQ EvS EvH
def ref01_trim_S (f : (List Int) → Option (List Int)) : Prop := ∀ (w0 : World) (I0 : Nat → Prop) (x19225 : (List Int)) (v19226 : Value) (r19227 : RepS (dI .u32) w0 I0 v19226 x19225) (hI : ∀ g, I0 g → g < w0.heap.size) (r : (List Int)), f x19225 = some r →
    Ret Tryz.prog 47 #[v19226] w0 fun v w1 => ∃ (I1 : Nat → Prop) (u19228 : Value) (u19229 : Ent), v = u19228 ∧ Hp ⟨w0, I0, []⟩ I1 [u19229] w1 ∧ OwnS (dI .u32) 45 w1 I1 u19228 u19229 r
theorem ref01_trim_ok (n : Nat) : ref01_trim_S (ref01_trim n) := by
  intro w0 I0 x19225 v19226 r19227 hI r h
  unfold ref01_trim at h
  refine enter Tryz.func47 rfl (Nat.le_of_ble_eq_true rfl) ?_
  have hp : Hp ⟨w0, I0, []⟩ I0 [] w0 := Hp.start hI
  apply go
  apply go
  obtain ⟨y19300, q19301, h⟩ := bind_some h
  refine W.cut (γ := ((List Int) × Value)) (fun g => [(0, (g.2))]) (fun g w' => y19300 = (g.1) ∧ w0 = w' ∧ RepS (dI .u32) w' I0 (g.2) (g.1)) ?_ ?_
  ·
    apply go
    refine W.loop q19301 (γ := Value) (fun s g => [(0, (g))]) (fun s g w' => w0 = w' ∧ RepS (dI .u32) w' I0 (g) (s)) v19226 (.c rfl .n) ⟨rfl, r19227⟩ ?_
    rintro x19321 v19322 _ y19346 ⟨rfl, r19323⟩ q19347 q19348
    unfold ref01_trim_L1 at q19347
    apply go
    obtain ⟨y19356, q19357, q19347⟩ := bind_some q19347
    refine W.cut (γ := Bool) (fun g => [(0, v19322), (14, (.bool (g)))]) (fun g w' => y19356 = (g) ∧ w0 = w') ?_ ?_
    ·
      apply go
      refine ev0 (rn_len rfl rfl Tryz.underlying22 r19323) ?_
      refine sel_of (fun hc => ?_) (fun hc => ?_)
      ·
        have q19357 := cond_t q19357 hc
        refine ev0 (rn_len rfl rfl Tryz.underlying22 r19323) ?_
        obtain ⟨x19358, q19359, q19357⟩ := bind_some q19357
        refine ev_index rfl rfl rfl Tryz.underlying22 T45 r19323 q19359 ?_
        intro p19360 c19361 d19362 a19363
        obtain rfl : c19361 = [(.int .u32 x19358)] := d19362
        refine ev (rn_load rfl rfl (run_loadVar1 T45 (a19363.2 0 _ rfl))) ?_
        obtain rfl := Option.some.inj q19357
        exact ⟨(x19358 == 0), (.c rfl (.c rfl .n)), rfl, rfl⟩
      ·
        have q19357 := cond_f q19357 hc
        obtain rfl := Option.some.inj q19357
        exact ⟨false, (.c rfl (.c rfl .n)), rfl, rfl⟩
    ·
      rintro x19355 _ ⟨hy, rfl⟩
      replace hy := hy.symm
      subst hy
      apply go
      refine sel_of (fun hc => ?_) (fun hc => ?_)
      ·
        have q19347 := cond_t q19347 hc
        apply go
        apply go
        apply go
        refine ev0 (rn_len rfl rfl Tryz.underlying22 r19323) ?_
        obtain ⟨x19364, q19365, q19347⟩ := bind_some q19347
        refine ev_slice (kl := .i64) (kh := .i64) rfl rfl rfl rfl Tryz.underlying22 T45 r19323 q19365 ?_
        intro v19366 r19367
        exact ⟨_, (Option.some.inj q19347).symm, v19366, (.c rfl .n), ⟨rfl, r19367⟩⟩
      ·
        have q19347 := cond_f q19347 hc
        apply go
        have q19368 := congrArg some (q19348 _ (Option.some.inj q19347).symm)
        obtain rfl := Option.some.inj q19368
        exact ⟨(x19321, v19322), (.c rfl .n), rfl, rfl, r19323⟩
  ·
    rintro ⟨x19297, v19298⟩ _ ⟨hy, rfl, r19299⟩
    replace hy := hy.symm
    subst hy
    apply go
    apply go
    refine ev_litON (d := (dI .u32)) (xs := ([] : List Int)) (cs := []) hp rfl rfl Tryz.underlying22 T45 (by decide) (by decide) rfl rfl (Elems.nil _ _ _ _) ?_
    intro v19369 e19371 w19370 hp hs o19372
    replace r19299 := r19299.step hs
    obtain ⟨x19373, q19374, h⟩ := bind_some h
    refine ev_append hp (i := 0) rfl rfl rfl rfl Tryz.underlying22 T45 rfl rfl o19372 r19299 q19374 ?_
    rintro v19375 e19376 w19377 hp hs o19378
    apply go
    obtain rfl := Option.some.inj h
    exact ⟨I0, v19375, e19376, rfl, hp, o19378⟩

end Go.Proofs.YthhghkcopfnbiaaGreatDoor

namespace Go.Proofs.YthhghkcopfnbiaaGreatDoor
open Go Go.Proofs.YthhghkcopfnbiaaGreatDoor.Gw Go.RowKit
set_option linter.unusedVariables false
attribute [local irreducible] Ev EvQ EvS EvH
def ref01_Norm_S (f : Int_2 → Option Int_2) : Prop := ∀ (w0 : World) (I0 : Nat → Prop) (x19379 : Int_2) (v19380 : Value) (r19381 : RepS (dI .u32) w0 I0 v19380 x19379.Mag) (hI : ∀ g, I0 g → g < w0.heap.size) (r : Int_2), f x19379 = some r →
    Ret Tryz.prog 28 #[(.agg #[(.bool x19379.Neg), v19380])] w0 fun v w1 => ∃ (I1 : Nat → Prop) (u19382 : Value), v = (.agg #[(.bool r.Neg), u19382]) ∧ Hp ⟨w0, I0, []⟩ I1 [] w1 ∧ RepS (dI .u32) w1 I1 u19382 r.Mag
theorem ref01_Norm_ok (n : Nat) : ref01_Norm_S (ref01_Norm n) := by
  intro w0 I0 x19379 v19380 r19381 hI r h
  unfold ref01_Norm at h
  refine enter Tryz.func28 rfl (Nat.le_of_ble_eq_true rfl) ?_
  have hp : Hp ⟨w0, I0, []⟩ I0 [] w0 := Hp.start hI
  apply go
  apply go
  refine ev_boxI hp rfl rfl ?_
  intro p19385 I19386 w19384 hp hs a19387
  replace r19381 := r19381.step hs
  refine ev_alloc hp rfl T24 ?_
  intro g19388 w19389 hp hs
  replace a19387 := a19387.step hs
  replace r19381 := r19381.step hs
  apply go
  apply go
  refine ev0 (rn_field rfl rfl FO24_1) ?_
  refine ev (rn_load rfl rfl (run_loadVar1 T22 (a19387.2 1 _ rfl))) ?_
  obtain ⟨x19390, q19391, h⟩ := bind_some h
  refine ev_call rfl rfl C47 (((ref01_trim_ok n) _ _  x19379.Mag v19380 r19381 hp.imm _ q19391).mono ?_)
  rintro _ w19392 ⟨I19393, v19394, e19395, hv, hq, o19396⟩
  replace hv := hv.symm
  subst hv
  have hs := hq.st
  have hp := hp.join0 hq
  replace a19387 := a19387.step hs
  replace r19381 := r19381.step hs
  obtain ⟨y19413, q19414, h⟩ := bind_some h
  refine W.cut (γ := (Bool × (List Int) × Value × Ent)) (fun g => [(2, (.pointer (some ⟨g19388, 0, none⟩)))]) (fun g w' => y19413 = ((g.1), (g.2.1)) ∧ Hp ⟨w0, I0, []⟩ I19393 [(g.2.2.2), some (g19388, [(.bool (g.1)), (g.2.2.1)], 24)] w' ∧ OwnS (dI .u32) 45 w' I19393 (g.2.2.1) (g.2.2.2) (g.2.1)) ?_ ?_
  ·
    apply go
    refine ev0 (rn_field rfl rfl FO24_0) ?_
    refine ev (rn_load rfl rfl (run_loadVar1 T4 (a19387.2 0 _ rfl))) ?_
    refine sel_of (fun hc => ?_) (fun hc => ?_)
    ·
      have q19414 := cond_t q19414 hc
      refine ev0 (x_lenO rfl rfl Tryz.underlying22 o19396) ?_
      obtain ⟨A19415, m19416, m19417, rfl⟩ := o19396.isSl
      refine ev0 (fun w => rn_build (cs := [(.bool (decide ((x19390.length : Int) > 0))), (.slice A19415 m19416 m19417)]) rfl rfl T24 PL24 rfl) ?_
      refine ev_storeA hp (i := 1) (off := 0) (vs := [(.bool (decide ((x19390.length : Int) > 0))), (.slice A19415 m19416 m19417)]) rfl rfl rfl rfl T24 rfl (Nat.le_of_ble_eq_true rfl) (ones_cons rfl (ones_cons o19396.one ones_nil)) ?_
      intro w19419 hp hs
      replace o19396 := o19396.step hs
      obtain rfl := Option.some.inj q19414
      exact ⟨((decide ((x19390.length : Int) > 0)), x19390, (.slice A19415 m19416 m19417), e19395), (.c rfl .n), rfl, hp, o19396⟩
    ·
      have q19414 := cond_f q19414 hc
      obtain ⟨A19420, m19421, m19422, rfl⟩ := o19396.isSl
      refine ev0 (fun w => rn_build (cs := [(.bool false), (.slice A19420 m19421 m19422)]) rfl rfl T24 PL24 rfl) ?_
      refine ev_storeA hp (i := 1) (off := 0) (vs := [(.bool false), (.slice A19420 m19421 m19422)]) rfl rfl rfl rfl T24 rfl (Nat.le_of_ble_eq_true rfl) (ones_cons rfl (ones_cons o19396.one ones_nil)) ?_
      intro w19424 hp hs
      replace o19396 := o19396.step hs
      obtain rfl := Option.some.inj q19414
      exact ⟨(false, x19390, (.slice A19420 m19421 m19422), e19395), (.c rfl .n), rfl, hp, o19396⟩
  ·
    rintro ⟨x19407, x19408, v19409, e19410⟩ w19412 ⟨hy, hp, o19411⟩
    replace hy := hy.symm
    subst hy
    apply go
    obtain rfl := Option.some.inj h
    have r19425 := o19411.frz hp (i := 0) rfl
    obtain ⟨hp, hs⟩ := freeze_hp hp (i := 0) rfl
    have hp := hp.sel [1] (by decide)
    refine ⟨_, run_loadVarA T24 rfl (hp.at_ (i := 0) rfl), ?_⟩
    have hp := hp.sel [] (by decide)
    exact ⟨(Ad I19393 e19410), v19409, rfl, hp, r19425⟩

end Go.Proofs.YthhghkcopfnbiaaGreatDoor

namespace Go.Proofs.YthhghkcopfnbiaaGreatDoor
open Go Go.Proofs.YthhghkcopfnbiaaGreatDoor.Gw Go.RowKit
set_option linter.unusedVariables false
attribute [local irreducible] Ev EvQ EvS EvH
def ref01_Of_S (f : Int → Option Int_2) : Prop := ∀ (w0 : World) (I0 : Nat → Prop) (x19426 : Int) (hI : ∀ g, I0 g → g < w0.heap.size) (r : Int_2), f x19426 = some r →
    Ret Tryz.prog 45 #[(.int .i64 x19426)] w0 fun v w1 => ∃ (I1 : Nat → Prop) (u19427 : Value), v = (.agg #[(.bool r.Neg), u19427]) ∧ Hp ⟨w0, I0, []⟩ I1 [] w1 ∧ RepS (dI .u32) w1 I1 u19427 r.Mag
theorem ref01_Of_ok (n : Nat) : ref01_Of_S (ref01_Of n) := by
  intro w0 I0 x19426 hI r h
  unfold ref01_Of at h
  refine enter Tryz.func45 rfl (Nat.le_of_ble_eq_true rfl) ?_
  have hp : Hp ⟨w0, I0, []⟩ I0 [] w0 := Hp.start hI
  apply go
  apply go
  refine ev_alloc hp rfl T24 ?_
  intro g19428 w19429 hp hs
  apply go
  apply go
  refine ev0 (rn_conv rfl rfl U3 Tryz.underlying49) ?_
  obtain ⟨y19431, q19432, h⟩ := bind_some h
  refine W.cut (γ := Int) (fun g => [(0, (.int .i64 x19426)), (2, (.pointer (some ⟨g19428, 0, none⟩))), (3, (.int .u64 (g)))]) (fun g w' => y19431 = (g) ∧ w19429 = w') ?_ ?_
  ·
    apply go
    apply go
    apply go
    refine sel_of (fun hc => ?_) (fun hc => ?_)
    ·
      have q19432 := cond_t q19432 hc
      apply go
      obtain rfl := Option.some.inj q19432
      exact ⟨(IntKind.u64.wrap (0 - (IntKind.u64.wrap x19426))), (.c rfl (.c rfl (.c rfl .n))), rfl, rfl⟩
    ·
      have q19432 := cond_f q19432 hc
      apply go
      obtain rfl := Option.some.inj q19432
      exact ⟨(IntKind.u64.wrap x19426), (.c rfl (.c rfl (.c rfl .n))), rfl, rfl⟩
  ·
    rintro x19430 _ ⟨hy, rfl⟩
    replace hy := hy.symm
    subst hy
    apply go
    apply go
    refine ev0 (rn_conv rfl rfl U49 Tryz.underlying45) ?_
    refine ⟨by decide, ?_⟩
    refine ev0 (rn_conv rfl rfl U49 Tryz.underlying45) ?_
    refine ev_litN (d := (dI .u32)) (xs := [(IntKind.u32.wrap x19430), (IntKind.u32.wrap (x19430.fdiv (2 ^ min (32 : Int).toNat (IntKind.u64).bits)))]) (cs := [(.int .u32 (IntKind.u32.wrap x19430)), (.int .u32 (IntKind.u32.wrap (x19430.fdiv (2 ^ min (32 : Int).toNat (IntKind.u64).bits))))]) hp rfl rfl Tryz.underlying22 T45 (by decide) rfl rfl (Elems.cons (d := (dI .u32)) (xs := _) rfl (Elems.cons (d := (dI .u32)) (xs := _) rfl (Elems.nil _ _ _ _))) ?_
    intro v19433 I19435 w19434 hp hs r19436
    obtain ⟨A19437, m19438, m19439, rfl⟩ := r19436.isSl
    refine ev0 (fun w => rn_build (cs := [(.bool (decide (x19426 < 0))), (.slice A19437 m19438 m19439)]) rfl rfl T24 PL24 rfl) ?_
    obtain ⟨x19441, q19442, h⟩ := bind_some h
    refine ev_call rfl rfl C28 (((ref01_Norm_ok n) _ _  (Int_2.mk (decide (x19426 < 0)) [(IntKind.u32.wrap x19430), (IntKind.u32.wrap (x19430.fdiv (2 ^ min (32 : Int).toNat (IntKind.u64).bits)))]) (.slice A19437 m19438 m19439) r19436 hp.imm _ q19442).mono ?_)
    rintro _ w19443 ⟨I19444, v19445, hv, hq, r19446⟩
    replace hv := hv.symm
    subst hv
    have hs := hq.st
    have hp := hp.join0 hq
    refine ev_storeA hp (i := 0) (off := 0) (vs := [(.bool x19441.Neg), v19445]) rfl rfl rfl rfl T24 rfl (Nat.le_of_ble_eq_true rfl) (ones_cons rfl (ones_cons r19446.one ones_nil)) ?_
    intro w19447 hp hs
    replace r19446 := r19446.step hs
    apply go
    obtain rfl := Option.some.inj h
    refine ⟨_, run_loadVarA T24 rfl (hp.at_ (i := 0) rfl), ?_⟩
    have hp := hp.sel [] (by decide)
    exact ⟨I19444, v19445, rfl, hp, r19446⟩

end Go.Proofs.YthhghkcopfnbiaaGreatDoor

namespace Go.Proofs.YthhghkcopfnbiaaGreatDoor
open Go Go.Proofs.YthhghkcopfnbiaaGreatDoor.Gw Go.RowKit
set_option linter.unusedVariables false
attribute [local irreducible] Ev EvQ EvS EvH vch
def law01_awake_S (f : Option Bool) : Prop := ∀ (w0 : World) (I0 : Nat → Prop) (tb : Tb w0 I0 1 .u64 pow10)  (hI : ∀ g, I0 g → g < w0.heap.size) (r : Bool), f  = some r →
    Ret Tryz.prog 13 #[] w0 fun v w1 => v = (.bool r) ∧ Ch [] w0 w1
theorem law01_awake_ok (n : Nat) : law01_awake_S (law01_awake n) := by
  intro w0 I0 tb hI r h
  unfold law01_awake at h
  refine enter Tryz.func13 rfl (Nat.le_of_ble_eq_true rfl) ?_
  have hp : Hp ⟨w0, I0, []⟩ I0 [] w0 := Hp.start hI
  apply go
  apply go
  apply go
  apply go
  obtain ⟨x22008, q22009, h⟩ := bind_some h
  refine ev_call rfl rfl C18 (((integer_Of_ok n) _ _  (-7) hp.imm _ q22009).mono ?_)
  rintro _ w22010 ⟨I22011, v22012, hv, hq, r22013⟩
  replace hv := hv.symm
  subst hv
  have hs := hq.st
  have hp := hp.join0 hq
  replace tb := tb.step hs
  obtain ⟨x22014, q22015, h⟩ := bind_some h
  refine ev_call rfl rfl C18 (((integer_Of_ok n) _ _  2 hp.imm _ q22015).mono ?_)
  rintro _ w22016 ⟨I22017, v22018, hv, hq, r22019⟩
  replace hv := hv.symm
  subst hv
  have hs := hq.st
  have hp := hp.join0 hq
  replace r22013 := r22013.step hs
  replace tb := tb.step hs
  obtain ⟨⟨x22020, x22021, x22022⟩, q22023, h⟩ := bind_some h
  refine ev_call rfl rfl C24 (((integer_DivMod_ok n) _ _  x22008 v22012 r22013 x22014 v22018 r22019 hp.imm _ q22023).mono ?_)
  rintro _ w22024 ⟨I22025, v22026, v22028, hv, hq, r22027, r22029⟩
  replace hv := hv.symm
  subst hv
  have hs := hq.st
  have hp := hp.join0 hq
  replace tb := tb.step hs
  refine ev_alloc hp rfl T24 ?_
  intro g22030 w22031 hp hs
  replace r22027 := r22027.step hs
  replace r22029 := r22029.step hs
  replace tb := tb.step hs
  refine ev_alloc hp rfl T24 ?_
  intro g22032 w22033 hp hs
  replace r22027 := r22027.step hs
  replace r22029 := r22029.step hs
  replace tb := tb.step hs
  refine ev_storeA hp (i := 1) (off := 0) (vs := [(.bool x22020.Neg), v22026]) rfl rfl rfl rfl T24 rfl (Nat.le_of_ble_eq_true rfl) (ones_cons rfl (ones_cons r22027.one ones_nil)) ?_
  intro w22034 hp hs
  replace r22029 := r22029.step hs
  replace r22027 := r22027.step hs
  replace tb := tb.step hs
  refine ev_storeA hp (i := 0) (off := 0) (vs := [(.bool x22021.Neg), v22028]) rfl rfl rfl rfl T24 rfl (Nat.le_of_ble_eq_true rfl) (ones_cons rfl (ones_cons r22029.one ones_nil)) ?_
  intro w22035 hp hs
  replace r22029 := r22029.step hs
  replace r22027 := r22027.step hs
  replace tb := tb.step hs
  apply go
  apply go
  refine ev (rn_load rfl rfl (run_loadVarA T24 rfl (hp.at_ (i := 1) rfl))) ?_
  refine ev_litN (d := (dI .u32)) (xs := [0]) (cs := [(.int .u32 0)]) hp rfl rfl Tryz.underlying22 T45 (by decide) rfl rfl (Elems.cons (d := (dI .u32)) (xs := _) rfl (Elems.nil _ _ _ _)) ?_
  intro v22036 I22038 w22037 hp hs r22039
  replace r22027 := r22027.step hs
  replace r22029 := r22029.step hs
  replace tb := tb.step hs
  obtain ⟨A22040, m22041, m22042, rfl⟩ := r22039.isSl
  refine ev0 (fun w => rn_build (cs := [(.bool true), (.slice A22040 m22041 m22042)]) rfl rfl T24 PL24 rfl) ?_
  obtain ⟨⟨x22044, x22045, x22046⟩, q22047, h⟩ := bind_some h
  refine ev_call rfl rfl C24 (((integer_DivMod_ok n) _ _  (Int_2.mk x22020.Neg x22020.Mag) v22026 r22027 (Int_2.mk true [0]) (.slice A22040 m22041 m22042) r22039 hp.imm _ q22047).mono ?_)
  rintro _ w22048 ⟨I22049, v22050, v22052, hv, hq, r22051, r22053⟩
  replace hv := hv.symm
  subst hv
  have hs := hq.st
  have hp := hp.join0 hq
  replace r22029 := r22029.step hs
  replace r22027 := r22027.step hs
  replace tb := tb.step hs
  refine ev_alloc hp rfl T24 ?_
  intro g22054 w22055 hp hs
  replace r22051 := r22051.step hs
  replace r22053 := r22053.step hs
  replace r22029 := r22029.step hs
  replace r22027 := r22027.step hs
  replace tb := tb.step hs
  refine ev_alloc hp rfl T24 ?_
  intro g22056 w22057 hp hs
  replace r22051 := r22051.step hs
  replace r22053 := r22053.step hs
  replace r22029 := r22029.step hs
  replace r22027 := r22027.step hs
  replace tb := tb.step hs
  refine ev_storeA hp (i := 1) (off := 0) (vs := [(.bool x22044.Neg), v22050]) rfl rfl rfl rfl T24 rfl (Nat.le_of_ble_eq_true rfl) (ones_cons rfl (ones_cons r22051.one ones_nil)) ?_
  intro w22058 hp hs
  replace r22053 := r22053.step hs
  replace r22051 := r22051.step hs
  replace r22029 := r22029.step hs
  replace r22027 := r22027.step hs
  replace tb := tb.step hs
  refine ev_storeA hp (i := 0) (off := 0) (vs := [(.bool x22045.Neg), v22052]) rfl rfl rfl rfl T24 rfl (Nat.le_of_ble_eq_true rfl) (ones_cons rfl (ones_cons r22053.one ones_nil)) ?_
  intro w22059 hp hs
  replace r22053 := r22053.step hs
  replace r22051 := r22051.step hs
  replace r22029 := r22029.step hs
  replace r22027 := r22027.step hs
  replace tb := tb.step hs
  apply go
  apply go
  refine ev_litN (d := (dI .u32)) (xs := [7, 0]) (cs := [(.int .u32 7), (.int .u32 0)]) hp rfl rfl Tryz.underlying22 T45 (by decide) rfl rfl (Elems.cons (d := (dI .u32)) (xs := _) rfl (Elems.cons (d := (dI .u32)) (xs := _) rfl (Elems.nil _ _ _ _))) ?_
  intro v22060 I22062 w22061 hp hs r22063
  replace r22053 := r22053.step hs
  replace r22051 := r22051.step hs
  replace r22029 := r22029.step hs
  replace r22027 := r22027.step hs
  replace tb := tb.step hs
  obtain ⟨A22064, m22065, m22066, rfl⟩ := r22063.isSl
  refine ev0 (fun w => rn_build (cs := [(.bool true), (.slice A22064 m22065 m22066)]) rfl rfl T24 PL24 rfl) ?_
  obtain ⟨⟨x22068, x22069⟩, q22070, h⟩ := bind_some h
  refine ev_call rfl rfl C15 (((integer_Small_ok n) _ _  (Int_2.mk true [7, 0]) (.slice A22064 m22065 m22066) r22063 hp.imm _ q22070).mono ?_)
  rintro _ w22071 ⟨rfl, hc⟩
  have hs := hp.stp hc
  replace hp := hp.ext hc
  replace r22053 := r22053.step hs
  replace r22051 := r22051.step hs
  replace r22029 := r22029.step hs
  replace r22027 := r22027.step hs
  replace tb := tb.step hs
  apply go
  apply go
  obtain ⟨x22072, q22073, h⟩ := bind_some h
  refine ev_call rfl rfl C18 (((integer_Of_ok n) _ _  24 hp.imm _ q22073).mono ?_)
  rintro _ w22074 ⟨I22075, v22076, hv, hq, r22077⟩
  replace hv := hv.symm
  subst hv
  have hs := hq.st
  have hp := hp.join0 hq
  replace r22053 := r22053.step hs
  replace r22051 := r22051.step hs
  replace r22029 := r22029.step hs
  replace r22027 := r22027.step hs
  replace tb := tb.step hs
  obtain ⟨⟨x22078, x22079⟩, q22080, h⟩ := bind_some h
  refine ev_call rfl rfl C33 (((integer_Sqrt_ok n) _ _  x22072 v22076 r22077 hp.imm _ q22080).mono ?_)
  rintro _ w22081 ⟨I22082, v22083, hv, hq, r22084⟩
  replace hv := hv.symm
  subst hv
  have hs := hq.st
  have hp := hp.join0 hq
  replace r22053 := r22053.step hs
  replace r22051 := r22051.step hs
  replace r22029 := r22029.step hs
  replace r22027 := r22027.step hs
  replace tb := tb.step hs
  refine ev_alloc hp rfl T24 ?_
  intro g22085 w22086 hp hs
  replace r22084 := r22084.step hs
  replace r22053 := r22053.step hs
  replace r22051 := r22051.step hs
  replace r22029 := r22029.step hs
  replace r22027 := r22027.step hs
  replace tb := tb.step hs
  refine ev_storeA hp (i := 0) (off := 0) (vs := [(.bool x22078.Neg), v22083]) rfl rfl rfl rfl T24 rfl (Nat.le_of_ble_eq_true rfl) (ones_cons rfl (ones_cons r22084.one ones_nil)) ?_
  intro w22087 hp hs
  replace r22084 := r22084.step hs
  replace r22053 := r22053.step hs
  replace r22051 := r22051.step hs
  replace r22029 := r22029.step hs
  replace r22027 := r22027.step hs
  replace tb := tb.step hs
  apply go
  apply go
  obtain ⟨⟨x22088, x22089⟩, q22090, h⟩ := bind_some h
  refine ev_call rfl rfl C26 (((integer_Parse_ok n) _ _ tb (ByteArray.mk #[45, 48]) hp.imm _ q22090).mono ?_)
  rintro _ w22091 ⟨I22092, v22093, hv, hq, r22094⟩
  replace hv := hv.symm
  subst hv
  have hs := hq.st
  have hp := hp.join0 hq
  replace r22084 := r22084.step hs
  replace r22053 := r22053.step hs
  replace r22051 := r22051.step hs
  replace r22029 := r22029.step hs
  replace r22027 := r22027.step hs
  replace tb := tb.step hs
  refine ev_alloc hp rfl T24 ?_
  intro g22095 w22096 hp hs
  replace r22094 := r22094.step hs
  replace r22084 := r22084.step hs
  replace r22053 := r22053.step hs
  replace r22051 := r22051.step hs
  replace r22029 := r22029.step hs
  replace r22027 := r22027.step hs
  replace tb := tb.step hs
  refine ev_storeA hp (i := 0) (off := 0) (vs := [(.bool x22088.Neg), v22093]) rfl rfl rfl rfl T24 rfl (Nat.le_of_ble_eq_true rfl) (ones_cons rfl (ones_cons r22094.one ones_nil)) ?_
  intro w22097 hp hs
  replace r22094 := r22094.step hs
  replace r22084 := r22084.step hs
  replace r22053 := r22053.step hs
  replace r22051 := r22051.step hs
  replace r22029 := r22029.step hs
  replace r22027 := r22027.step hs
  replace tb := tb.step hs
  obtain ⟨y22273, q22274, h⟩ := bind_some h
  refine W.cut (γ := (Bool × (Nat → Prop))) (fun g => [(0, (.bool (g.1)))]) (fun g w' => y22273 = (g.1) ∧ Hp ⟨w0, I0, []⟩ (g.2) [] w' ∧ Tb w' (g.2) 1 .u64 pow10) ?_ ?_
  ·
    have hs := hp.stp (Ch.drew [] w22097)
    have hp := hp.drew
    replace r22094 := r22094.step hs
    replace r22084 := r22084.step hs
    replace r22053 := r22053.step hs
    replace r22051 := r22051.step hs
    replace r22029 := r22029.step hs
    replace r22027 := r22027.step hs
    replace tb := tb.step hs
    refine W.heldT [(0, true), (1, false), (2, false), (3, true), (4, true), (5, false), (6, false), (7, true), (8, true), (9, true), (10, true), (11, true), (12, true), (13, true), (14, true), (15, true), (16, true), (17, true), (18, true), (19, true), (20, true), (21, true), (22, true), (23, true), (24, true), (25, false), (26, false), (27, true), (28, true), (29, true), (30, true), (31, true), (32, true), (33, true), (34, true), (35, true), (36, true), (37, true), (38, true), (39, true), (40, true), (41, true), (42, true), (43, false), (44, true), (45, false), (46, true), (47, true), (48, true), (49, false), (50, false), (51, false), (52, false), (53, false), (54, true), (55, true), (56, false), (57, false), (58, true), (59, true), (60, true)] (fun x => Stp I22092 w22097.drew I22092 x ∧ OwnK [(g22030, [(.bool x22020.Neg), v22026], 24), (g22032, [(.bool x22021.Neg), v22028], 24), (g22085, [(.bool x22078.Neg), v22083], 24), (g22095, [(.bool x22088.Neg), v22093], 24)] x) MX (by kernel_rfl) ⟨Stp.refl _ _, (OwnK.cons (hp.own 5 _ _ _ rfl).1 (OwnK.cons (hp.own 4 _ _ _ rfl).1 (OwnK.cons (hp.own 1 _ _ _ rfl).1 (OwnK.cons (hp.own 0 _ _ _ rfl).1 OwnK.nil))))⟩ ?_
    have hz := Stp.refl I22092 w22097.drew
    intro ops hops
    have e0 : nthO ops 0 = some _ := (hops 0).trans rfl
    have e1 : nthO ops 1 = some _ := (hops 1).trans rfl
    have e2 : nthO ops 2 = some _ := (hops 2).trans rfl
    have e3 : nthO ops 3 = some _ := (hops 3).trans rfl
    have e4 : nthO ops 4 = some _ := (hops 4).trans rfl
    have e5 : nthO ops 5 = some _ := (hops 5).trans rfl
    have e6 : nthO ops 6 = some _ := (hops 6).trans rfl
    have e7 : nthO ops 7 = some _ := (hops 7).trans rfl
    have e8 : nthO ops 8 = some _ := (hops 8).trans rfl
    have e9 : nthO ops 9 = some _ := (hops 9).trans rfl
    have e10 : nthO ops 10 = some _ := (hops 10).trans rfl
    have e11 : nthO ops 11 = some _ := (hops 11).trans rfl
    have e12 : nthO ops 12 = some _ := (hops 12).trans rfl
    have e13 : nthO ops 13 = some _ := (hops 13).trans rfl
    have e14 : nthO ops 14 = some _ := (hops 14).trans rfl
    have e15 : nthO ops 15 = some _ := (hops 15).trans rfl
    have e16 : nthO ops 16 = some _ := (hops 16).trans rfl
    have e17 : nthO ops 17 = some _ := (hops 17).trans rfl
    have e18 : nthO ops 18 = some _ := (hops 18).trans rfl
    have e19 : nthO ops 19 = some _ := (hops 19).trans rfl
    have e20 : nthO ops 20 = some _ := (hops 20).trans rfl
    have e21 : nthO ops 21 = some _ := (hops 21).trans rfl
    have e22 : nthO ops 22 = some _ := (hops 22).trans rfl
    have e23 : nthO ops 23 = some _ := (hops 23).trans rfl
    have e24 : nthO ops 24 = some _ := (hops 24).trans rfl
    have e25 : nthO ops 25 = some _ := (hops 25).trans rfl
    have e26 : nthO ops 26 = some _ := (hops 26).trans rfl
    have e27 : nthO ops 27 = some _ := (hops 27).trans rfl
    have e28 : nthO ops 28 = some _ := (hops 28).trans rfl
    have e29 : nthO ops 29 = some _ := (hops 29).trans rfl
    have e30 : nthO ops 30 = some _ := (hops 30).trans rfl
    have e31 : nthO ops 31 = some _ := (hops 31).trans rfl
    have e32 : nthO ops 32 = some _ := (hops 32).trans rfl
    have e33 : nthO ops 33 = some _ := (hops 33).trans rfl
    have e34 : nthO ops 34 = some _ := (hops 34).trans rfl
    have e35 : nthO ops 35 = some _ := (hops 35).trans rfl
    have e36 : nthO ops 36 = some _ := (hops 36).trans rfl
    have e37 : nthO ops 37 = some _ := (hops 37).trans rfl
    have e38 : nthO ops 38 = some _ := (hops 38).trans rfl
    have e39 : nthO ops 39 = some _ := (hops 39).trans rfl
    have e40 : nthO ops 40 = some _ := (hops 40).trans rfl
    have e41 : nthO ops 41 = some _ := (hops 41).trans rfl
    have e42 : nthO ops 42 = some _ := (hops 42).trans rfl
    have e43 : nthO ops 43 = some _ := (hops 43).trans rfl
    have e44 : nthO ops 44 = some _ := (hops 44).trans rfl
    have e45 : nthO ops 45 = some _ := (hops 45).trans rfl
    have e46 : nthO ops 46 = some _ := (hops 46).trans rfl
    have e47 : nthO ops 47 = some _ := (hops 47).trans rfl
    have e48 : nthO ops 48 = some _ := (hops 48).trans rfl
    have e49 : nthO ops 49 = some _ := (hops 49).trans rfl
    have e50 : nthO ops 50 = some _ := (hops 50).trans rfl
    have e51 : nthO ops 51 = some _ := (hops 51).trans rfl
    have e52 : nthO ops 52 = some _ := (hops 52).trans rfl
    have e53 : nthO ops 53 = some _ := (hops 53).trans rfl
    have e54 : nthO ops 54 = some _ := (hops 54).trans rfl
    have e55 : nthO ops 55 = some _ := (hops 55).trans rfl
    have e56 : nthO ops 56 = some _ := (hops 56).trans rfl
    have e57 : nthO ops 57 = some _ := (hops 57).trans rfl
    have e58 : nthO ops 58 = some _ := (hops 58).trans rfl
    have e59 : nthO ops 59 = some _ := (hops 59).trans rfl
    have e60 : nthO ops 60 = some _ := (hops 60).trans rfl
    clear hops
    refine vch_q e0 rfl ?_
    refine evh (fun w' hw => rn_load rfl rfl (run_loadVarA T24 rfl (hw.2.at_ (i := 0) rfl))) ?_
    refine vch_l e1 rfl ?_
    obtain ⟨x22361, q22362, q22274⟩ := bind_some q22274
    refine ev_call rfl rfl C45 (((ref01_Of_ok n) _ _  (-4) hp.imm _ q22362).mono ?_)
    rintro _ w22363 ⟨I22364, v22365, hv, hq, r22366⟩
    replace hv := hv.symm
    subst hv
    have hs := hq.st
    have hp := hp.join0 hq
    replace hz := hz.trans hs
    replace r22027 := r22027.step hs
    replace r22094 := r22094.step hs
    replace r22084 := r22084.step hs
    replace r22053 := r22053.step hs
    replace r22051 := r22051.step hs
    replace r22029 := r22029.step hs
    replace tb := tb.step hs
    refine ⟨fun x => Stp I22364 w22363 I22364 x ∧ OwnK [(g22030, [(.bool x22020.Neg), v22026], 24), (g22032, [(.bool x22021.Neg), v22028], 24), (g22085, [(.bool x22078.Neg), v22083], 24), (g22095, [(.bool x22088.Neg), v22093], 24)] x, ⟨Stp.refl _ _, (OwnK.cons (hp.own 5 _ _ _ rfl).1 (OwnK.cons (hp.own 4 _ _ _ rfl).1 (OwnK.cons (hp.own 1 _ _ _ rfl).1 (OwnK.cons (hp.own 0 _ _ _ rfl).1 OwnK.nil))))⟩, fun x hx => ⟨hz.held hx.1, hx.2⟩, ?_⟩
    have hz := Stp.refl I22364 w22363
    refine vch_l e2 rfl ?_
    obtain ⟨x22367, q22368, q22274⟩ := bind_some q22274
    refine ev_call rfl rfl C21 (((ref01_Same_ok n) _ _  (Int_2.mk x22020.Neg x22020.Mag) v22026 r22027 x22361 v22365 r22366 hp.imm _ q22368).mono ?_)
    rintro _ w22369 ⟨rfl, hc⟩
    have hs := hp.stp hc
    replace hp := hp.ext hc
    replace hz := hz.trans hs
    replace r22094 := r22094.step hs
    replace r22084 := r22084.step hs
    replace r22053 := r22053.step hs
    replace r22051 := r22051.step hs
    replace r22029 := r22029.step hs
    replace r22027 := r22027.step hs
    replace tb := tb.step hs
    refine ⟨fun x => Stp I22364 w22369 I22364 x ∧ OwnK [(g22030, [(.bool x22020.Neg), v22026], 24), (g22032, [(.bool x22021.Neg), v22028], 24), (g22085, [(.bool x22078.Neg), v22083], 24), (g22095, [(.bool x22088.Neg), v22093], 24)] x, ⟨Stp.refl _ _, (OwnK.cons (hp.own 5 _ _ _ rfl).1 (OwnK.cons (hp.own 4 _ _ _ rfl).1 (OwnK.cons (hp.own 1 _ _ _ rfl).1 (OwnK.cons (hp.own 0 _ _ _ rfl).1 OwnK.nil))))⟩, fun x hx => ⟨hz.held hx.1, hx.2⟩, ?_⟩
    have hz := Stp.refl I22364 w22369
    refine vch_q e3 rfl ?_
    obtain ⟨q22370, _, q22274⟩ := need_some q22274
    refine vch_qt e4 rfl e3 rfl rfl q22370 ?_
    refine evh (fun w' hw => rn_load rfl rfl (run_loadVarA T24 rfl (hw.2.at_ (i := 1) rfl))) ?_
    refine vch_lt e5 rfl e3 rfl rfl rfl ?_
    obtain ⟨x22371, q22372, q22274⟩ := bind_some q22274
    refine ev_call rfl rfl C45 (((ref01_Of_ok n) _ _  1 hp.imm _ q22372).mono ?_)
    rintro _ w22373 ⟨I22374, v22375, hv, hq, r22376⟩
    replace hv := hv.symm
    subst hv
    have hs := hq.st
    have hp := hp.join0 hq
    replace hz := hz.trans hs
    replace r22029 := r22029.step hs
    replace r22094 := r22094.step hs
    replace r22084 := r22084.step hs
    replace r22053 := r22053.step hs
    replace r22051 := r22051.step hs
    replace r22027 := r22027.step hs
    replace tb := tb.step hs
    refine ⟨fun x => Stp I22374 w22373 I22374 x ∧ OwnK [(g22030, [(.bool x22020.Neg), v22026], 24), (g22032, [(.bool x22021.Neg), v22028], 24), (g22085, [(.bool x22078.Neg), v22083], 24), (g22095, [(.bool x22088.Neg), v22093], 24)] x, ⟨Stp.refl _ _, (OwnK.cons (hp.own 5 _ _ _ rfl).1 (OwnK.cons (hp.own 4 _ _ _ rfl).1 (OwnK.cons (hp.own 1 _ _ _ rfl).1 (OwnK.cons (hp.own 0 _ _ _ rfl).1 OwnK.nil))))⟩, fun x hx => ⟨hz.held hx.1, hx.2⟩, ?_⟩
    have hz := Stp.refl I22374 w22373
    refine vch_lt e6 rfl e3 rfl rfl rfl ?_
    obtain ⟨x22377, q22378, q22274⟩ := bind_some q22274
    refine ev_call rfl rfl C21 (((ref01_Same_ok n) _ _  (Int_2.mk x22021.Neg x22021.Mag) v22028 r22029 x22371 v22375 r22376 hp.imm _ q22378).mono ?_)
    rintro _ w22379 ⟨rfl, hc⟩
    have hs := hp.stp hc
    replace hp := hp.ext hc
    replace hz := hz.trans hs
    replace r22094 := r22094.step hs
    replace r22084 := r22084.step hs
    replace r22053 := r22053.step hs
    replace r22051 := r22051.step hs
    replace r22029 := r22029.step hs
    replace r22027 := r22027.step hs
    replace tb := tb.step hs
    refine ⟨fun x => Stp I22374 w22379 I22374 x ∧ OwnK [(g22030, [(.bool x22020.Neg), v22026], 24), (g22032, [(.bool x22021.Neg), v22028], 24), (g22085, [(.bool x22078.Neg), v22083], 24), (g22095, [(.bool x22088.Neg), v22093], 24)] x, ⟨Stp.refl _ _, (OwnK.cons (hp.own 5 _ _ _ rfl).1 (OwnK.cons (hp.own 4 _ _ _ rfl).1 (OwnK.cons (hp.own 1 _ _ _ rfl).1 (OwnK.cons (hp.own 0 _ _ _ rfl).1 OwnK.nil))))⟩, fun x hx => ⟨hz.held hx.1, hx.2⟩, ?_⟩
    have hz := Stp.refl I22374 w22379
    refine vch_q e7 rfl ?_
    refine vch_q e8 rfl ?_
    obtain ⟨q22380, _, q22274⟩ := need_some q22274
    refine vch_qt e9 rfl e8 rfl rfl q22380 ?_
    refine vch_qt e10 rfl e8 rfl rfl rfl ?_
    refine vch_q e11 rfl ?_
    refine vch_q e12 rfl ?_
    obtain ⟨q22381, _, q22274⟩ := need_some q22274
    refine vch_qt e13 rfl e12 rfl rfl q22381 ?_
    refine vch_qt e14 rfl e12 rfl rfl rfl ?_
    refine vch_q e15 rfl ?_
    refine vch_q e16 rfl ?_
    obtain ⟨q22382, _, q22274⟩ := need_some q22274
    refine vch_qt e17 rfl e16 rfl rfl q22382 ?_
    refine vch_qt e18 rfl e16 rfl rfl rfl ?_
    refine vch_q e19 rfl ?_
    refine vch_q e20 rfl ?_
    obtain ⟨q22383, _, q22274⟩ := need_some q22274
    refine vch_qt e21 rfl e20 rfl rfl q22383 ?_
    refine vch_q e22 rfl ?_
    refine vch_q e23 rfl ?_
    obtain ⟨q22384, _, q22274⟩ := need_some q22274
    refine vch_qt e24 rfl e23 rfl rfl q22384 ?_
    refine evh (fun w' hw => rn_load rfl rfl (run_loadVarA T24 rfl (hw.2.at_ (i := 2) rfl))) ?_
    refine vch_lt e25 rfl e23 rfl rfl rfl ?_
    obtain ⟨x22385, q22386, q22274⟩ := bind_some q22274
    refine ev_call rfl rfl C45 (((ref01_Of_ok n) _ _  4 hp.imm _ q22386).mono ?_)
    rintro _ w22387 ⟨I22388, v22389, hv, hq, r22390⟩
    replace hv := hv.symm
    subst hv
    have hs := hq.st
    have hp := hp.join0 hq
    replace hz := hz.trans hs
    replace r22084 := r22084.step hs
    replace r22094 := r22094.step hs
    replace r22053 := r22053.step hs
    replace r22051 := r22051.step hs
    replace r22029 := r22029.step hs
    replace r22027 := r22027.step hs
    replace tb := tb.step hs
    refine ⟨fun x => Stp I22388 w22387 I22388 x ∧ OwnK [(g22030, [(.bool x22020.Neg), v22026], 24), (g22032, [(.bool x22021.Neg), v22028], 24), (g22085, [(.bool x22078.Neg), v22083], 24), (g22095, [(.bool x22088.Neg), v22093], 24)] x, ⟨Stp.refl _ _, (OwnK.cons (hp.own 5 _ _ _ rfl).1 (OwnK.cons (hp.own 4 _ _ _ rfl).1 (OwnK.cons (hp.own 1 _ _ _ rfl).1 (OwnK.cons (hp.own 0 _ _ _ rfl).1 OwnK.nil))))⟩, fun x hx => ⟨hz.held hx.1, hx.2⟩, ?_⟩
    have hz := Stp.refl I22388 w22387
    refine vch_lt e26 rfl e23 rfl rfl rfl ?_
    obtain ⟨x22391, q22392, q22274⟩ := bind_some q22274
    refine ev_call rfl rfl C21 (((ref01_Same_ok n) _ _  (Int_2.mk x22078.Neg x22078.Mag) v22083 r22084 x22385 v22389 r22390 hp.imm _ q22392).mono ?_)
    rintro _ w22393 ⟨rfl, hc⟩
    have hs := hp.stp hc
    replace hp := hp.ext hc
    replace hz := hz.trans hs
    replace r22094 := r22094.step hs
    replace r22084 := r22084.step hs
    replace r22053 := r22053.step hs
    replace r22051 := r22051.step hs
    replace r22029 := r22029.step hs
    replace r22027 := r22027.step hs
    replace tb := tb.step hs
    refine ⟨fun x => Stp I22388 w22393 I22388 x ∧ OwnK [(g22030, [(.bool x22020.Neg), v22026], 24), (g22032, [(.bool x22021.Neg), v22028], 24), (g22085, [(.bool x22078.Neg), v22083], 24), (g22095, [(.bool x22088.Neg), v22093], 24)] x, ⟨Stp.refl _ _, (OwnK.cons (hp.own 5 _ _ _ rfl).1 (OwnK.cons (hp.own 4 _ _ _ rfl).1 (OwnK.cons (hp.own 1 _ _ _ rfl).1 (OwnK.cons (hp.own 0 _ _ _ rfl).1 OwnK.nil))))⟩, fun x hx => ⟨hz.held hx.1, hx.2⟩, ?_⟩
    have hz := Stp.refl I22388 w22393
    refine vch_q e27 rfl ?_
    refine vch_q e28 rfl ?_
    obtain ⟨q22394, _, q22274⟩ := need_some q22274
    refine vch_qt e29 rfl e28 rfl rfl q22394 ?_
    refine vch_qt e30 rfl e28 rfl rfl rfl ?_
    refine vch_q e31 rfl ?_
    refine vch_q e32 rfl ?_
    obtain ⟨q22395, _, q22274⟩ := need_some q22274
    refine vch_qt e33 rfl e32 rfl rfl q22395 ?_
    refine vch_qt e34 rfl e32 rfl rfl rfl ?_
    refine vch_q e35 rfl ?_
    refine vch_q e36 rfl ?_
    obtain ⟨q22396, _, q22274⟩ := need_some q22274
    refine vch_qt e37 rfl e36 rfl rfl q22396 ?_
    refine evh0 (rn_field rfl rfl FO24_1) ?_
    refine vch_qt e38 rfl e36 rfl rfl rfl ?_
    refine evh (fun w' hw => rn_load rfl rfl (run_loadVar1 T22 (hw.2.cell (i := 3) (off := 1) rfl rfl))) ?_
    refine vch_qt e39 rfl e36 rfl rfl rfl ?_
    refine evh0 (rn_len rfl rfl Tryz.underlying22 r22094) ?_
    refine vch_qt e40 rfl e36 rfl rfl rfl ?_
    refine vch_q e41 rfl ?_
    refine vch_q e42 rfl ?_
    obtain ⟨q22397, _, q22274⟩ := need_some q22274
    refine vch_lt e43 rfl e42 rfl rfl q22397 ?_
    refine ev_litN (d := (dI .u32)) (xs := [0, 1]) (cs := [(.int .u32 0), (.int .u32 1)]) hp rfl rfl Tryz.underlying22 T45 (by decide) rfl rfl (Elems.cons (d := (dI .u32)) (xs := _) rfl (Elems.cons (d := (dI .u32)) (xs := _) rfl (Elems.nil _ _ _ _))) ?_
    intro v22398 I22400 w22399 hp hs r22401
    replace hz := hz.trans hs
    replace r22094 := r22094.step hs
    replace r22084 := r22084.step hs
    replace r22053 := r22053.step hs
    replace r22051 := r22051.step hs
    replace r22029 := r22029.step hs
    replace r22027 := r22027.step hs
    replace tb := tb.step hs
    refine ⟨fun x => Stp I22400 w22399 I22400 x ∧ OwnK [(g22030, [(.bool x22020.Neg), v22026], 24), (g22032, [(.bool x22021.Neg), v22028], 24), (g22085, [(.bool x22078.Neg), v22083], 24), (g22095, [(.bool x22088.Neg), v22093], 24)] x, ⟨Stp.refl _ _, (OwnK.cons (hp.own 5 _ _ _ rfl).1 (OwnK.cons (hp.own 4 _ _ _ rfl).1 (OwnK.cons (hp.own 1 _ _ _ rfl).1 (OwnK.cons (hp.own 0 _ _ _ rfl).1 OwnK.nil))))⟩, fun x hx => ⟨hz.held hx.1, hx.2⟩, ?_⟩
    have hz := Stp.refl I22400 w22399
    refine vch_qt e44 rfl e42 rfl rfl rfl ?_
    obtain ⟨A22402, m22403, m22404, rfl⟩ := r22401.isSl
    refine evh0 (fun w => rn_build (cs := [(.bool true), (.slice A22402 m22403 m22404)]) rfl rfl T24 PL24 rfl) ?_
    refine vch_lt e45 rfl e42 rfl rfl rfl ?_
    obtain ⟨x22406, q22407, q22274⟩ := bind_some q22274
    refine ev_call rfl rfl C25 (((integer_Text_ok n) _ _ tb (Int_2.mk true [0, 1]) (.slice A22402 m22403 m22404) r22401 hp.imm _ q22407).mono ?_)
    rintro _ w22408 ⟨rfl, hc⟩
    have hs := hp.stp hc
    replace hp := hp.ext hc
    replace hz := hz.trans hs
    replace r22094 := r22094.step hs
    replace r22084 := r22084.step hs
    replace r22053 := r22053.step hs
    replace r22051 := r22051.step hs
    replace r22029 := r22029.step hs
    replace r22027 := r22027.step hs
    replace tb := tb.step hs
    refine ⟨fun x => Stp I22400 w22408 I22400 x ∧ OwnK [(g22030, [(.bool x22020.Neg), v22026], 24), (g22032, [(.bool x22021.Neg), v22028], 24), (g22085, [(.bool x22078.Neg), v22083], 24), (g22095, [(.bool x22088.Neg), v22093], 24)] x, ⟨Stp.refl _ _, (OwnK.cons (hp.own 5 _ _ _ rfl).1 (OwnK.cons (hp.own 4 _ _ _ rfl).1 (OwnK.cons (hp.own 1 _ _ _ rfl).1 (OwnK.cons (hp.own 0 _ _ _ rfl).1 OwnK.nil))))⟩, fun x hx => ⟨hz.held hx.1, hx.2⟩, ?_⟩
    have hz := Stp.refl I22400 w22408
    refine vch_qt e46 rfl e42 rfl rfl rfl ?_
    refine vch_q e47 rfl ?_
    refine vch_q e48 rfl ?_
    obtain ⟨q22409, _, q22274⟩ := need_some q22274
    refine vch_lt e49 rfl e48 rfl rfl q22409 ?_
    obtain ⟨x22410, q22411, q22274⟩ := bind_some q22274
    refine ev_call rfl rfl C18 (((integer_Of_ok n) _ _  (-12) hp.imm _ q22411).mono ?_)
    rintro _ w22412 ⟨I22413, v22414, hv, hq, r22415⟩
    replace hv := hv.symm
    subst hv
    have hs := hq.st
    have hp := hp.join0 hq
    replace hz := hz.trans hs
    replace r22094 := r22094.step hs
    replace r22084 := r22084.step hs
    replace r22053 := r22053.step hs
    replace r22051 := r22051.step hs
    replace r22029 := r22029.step hs
    replace r22027 := r22027.step hs
    replace tb := tb.step hs
    refine ⟨fun x => Stp I22413 w22412 I22413 x ∧ OwnK [(g22030, [(.bool x22020.Neg), v22026], 24), (g22032, [(.bool x22021.Neg), v22028], 24), (g22085, [(.bool x22078.Neg), v22083], 24), (g22095, [(.bool x22088.Neg), v22093], 24)] x, ⟨Stp.refl _ _, (OwnK.cons (hp.own 5 _ _ _ rfl).1 (OwnK.cons (hp.own 4 _ _ _ rfl).1 (OwnK.cons (hp.own 1 _ _ _ rfl).1 (OwnK.cons (hp.own 0 _ _ _ rfl).1 OwnK.nil))))⟩, fun x hx => ⟨hz.held hx.1, hx.2⟩, ?_⟩
    have hz := Stp.refl I22413 w22412
    refine vch_lt e50 rfl e48 rfl rfl rfl ?_
    obtain ⟨x22416, q22417, q22274⟩ := bind_some q22274
    refine ev_call rfl rfl C18 (((integer_Of_ok n) _ _  18 hp.imm _ q22417).mono ?_)
    rintro _ w22418 ⟨I22419, v22420, hv, hq, r22421⟩
    replace hv := hv.symm
    subst hv
    have hs := hq.st
    have hp := hp.join0 hq
    replace hz := hz.trans hs
    replace r22415 := r22415.step hs
    replace r22094 := r22094.step hs
    replace r22084 := r22084.step hs
    replace r22053 := r22053.step hs
    replace r22051 := r22051.step hs
    replace r22029 := r22029.step hs
    replace r22027 := r22027.step hs
    replace tb := tb.step hs
    refine ⟨fun x => Stp I22419 w22418 I22419 x ∧ OwnK [(g22030, [(.bool x22020.Neg), v22026], 24), (g22032, [(.bool x22021.Neg), v22028], 24), (g22085, [(.bool x22078.Neg), v22083], 24), (g22095, [(.bool x22088.Neg), v22093], 24)] x, ⟨Stp.refl _ _, (OwnK.cons (hp.own 5 _ _ _ rfl).1 (OwnK.cons (hp.own 4 _ _ _ rfl).1 (OwnK.cons (hp.own 1 _ _ _ rfl).1 (OwnK.cons (hp.own 0 _ _ _ rfl).1 OwnK.nil))))⟩, fun x hx => ⟨hz.held hx.1, hx.2⟩, ?_⟩
    have hz := Stp.refl I22419 w22418
    refine vch_lt e51 rfl e48 rfl rfl rfl ?_
    obtain ⟨x22422, q22423, q22274⟩ := bind_some q22274
    refine ev_call rfl rfl C20 (((integer_Gcd_ok n) _ _  x22410 v22414 r22415 x22416 v22420 r22421 hp.imm _ q22423).mono ?_)
    rintro _ w22424 ⟨I22425, v22426, hv, hq, r22427⟩
    replace hv := hv.symm
    subst hv
    have hs := hq.st
    have hp := hp.join0 hq
    replace hz := hz.trans hs
    replace r22094 := r22094.step hs
    replace r22084 := r22084.step hs
    replace r22053 := r22053.step hs
    replace r22051 := r22051.step hs
    replace r22029 := r22029.step hs
    replace r22027 := r22027.step hs
    replace tb := tb.step hs
    refine ⟨fun x => Stp I22425 w22424 I22425 x ∧ OwnK [(g22030, [(.bool x22020.Neg), v22026], 24), (g22032, [(.bool x22021.Neg), v22028], 24), (g22085, [(.bool x22078.Neg), v22083], 24), (g22095, [(.bool x22088.Neg), v22093], 24)] x, ⟨Stp.refl _ _, (OwnK.cons (hp.own 5 _ _ _ rfl).1 (OwnK.cons (hp.own 4 _ _ _ rfl).1 (OwnK.cons (hp.own 1 _ _ _ rfl).1 (OwnK.cons (hp.own 0 _ _ _ rfl).1 OwnK.nil))))⟩, fun x hx => ⟨hz.held hx.1, hx.2⟩, ?_⟩
    have hz := Stp.refl I22425 w22424
    refine vch_lt e52 rfl e48 rfl rfl rfl ?_
    obtain ⟨x22428, q22429, q22274⟩ := bind_some q22274
    refine ev_call rfl rfl C45 (((ref01_Of_ok n) _ _  6 hp.imm _ q22429).mono ?_)
    rintro _ w22430 ⟨I22431, v22432, hv, hq, r22433⟩
    replace hv := hv.symm
    subst hv
    have hs := hq.st
    have hp := hp.join0 hq
    replace hz := hz.trans hs
    replace r22427 := r22427.step hs
    replace r22094 := r22094.step hs
    replace r22084 := r22084.step hs
    replace r22053 := r22053.step hs
    replace r22051 := r22051.step hs
    replace r22029 := r22029.step hs
    replace r22027 := r22027.step hs
    replace tb := tb.step hs
    refine ⟨fun x => Stp I22431 w22430 I22431 x ∧ OwnK [(g22030, [(.bool x22020.Neg), v22026], 24), (g22032, [(.bool x22021.Neg), v22028], 24), (g22085, [(.bool x22078.Neg), v22083], 24), (g22095, [(.bool x22088.Neg), v22093], 24)] x, ⟨Stp.refl _ _, (OwnK.cons (hp.own 5 _ _ _ rfl).1 (OwnK.cons (hp.own 4 _ _ _ rfl).1 (OwnK.cons (hp.own 1 _ _ _ rfl).1 (OwnK.cons (hp.own 0 _ _ _ rfl).1 OwnK.nil))))⟩, fun x hx => ⟨hz.held hx.1, hx.2⟩, ?_⟩
    have hz := Stp.refl I22431 w22430
    refine vch_lt e53 rfl e48 rfl rfl rfl ?_
    obtain ⟨x22434, q22435, q22274⟩ := bind_some q22274
    refine ev_call rfl rfl C21 (((ref01_Same_ok n) _ _  x22422 v22426 r22427 x22428 v22432 r22433 hp.imm _ q22435).mono ?_)
    rintro _ w22436 ⟨rfl, hc⟩
    have hs := hp.stp hc
    replace hp := hp.ext hc
    replace hz := hz.trans hs
    replace r22094 := r22094.step hs
    replace r22084 := r22084.step hs
    replace r22053 := r22053.step hs
    replace r22051 := r22051.step hs
    replace r22029 := r22029.step hs
    replace r22027 := r22027.step hs
    replace tb := tb.step hs
    refine ⟨fun x => Stp I22431 w22436 I22431 x ∧ OwnK [(g22030, [(.bool x22020.Neg), v22026], 24), (g22032, [(.bool x22021.Neg), v22028], 24), (g22085, [(.bool x22078.Neg), v22083], 24), (g22095, [(.bool x22088.Neg), v22093], 24)] x, ⟨Stp.refl _ _, (OwnK.cons (hp.own 5 _ _ _ rfl).1 (OwnK.cons (hp.own 4 _ _ _ rfl).1 (OwnK.cons (hp.own 1 _ _ _ rfl).1 (OwnK.cons (hp.own 0 _ _ _ rfl).1 OwnK.nil))))⟩, fun x hx => ⟨hz.held hx.1, hx.2⟩, ?_⟩
    have hz := Stp.refl I22431 w22436
    refine vch_q e54 rfl ?_
    refine vch_q e55 rfl ?_
    obtain ⟨q22437, _, q22274⟩ := need_some q22274
    refine vch_lt e56 rfl e55 rfl rfl q22437 ?_
    obtain ⟨x22438, q22439, q22274⟩ := bind_some q22274
    refine ev_call rfl rfl C18 (((integer_Of_ok n) _ _  (-8) hp.imm _ q22439).mono ?_)
    rintro _ w22440 ⟨I22441, v22442, hv, hq, r22443⟩
    replace hv := hv.symm
    subst hv
    have hs := hq.st
    have hp := hp.join0 hq
    replace hz := hz.trans hs
    replace r22094 := r22094.step hs
    replace r22084 := r22084.step hs
    replace r22053 := r22053.step hs
    replace r22051 := r22051.step hs
    replace r22029 := r22029.step hs
    replace r22027 := r22027.step hs
    replace tb := tb.step hs
    refine ⟨fun x => Stp I22441 w22440 I22441 x ∧ OwnK [(g22030, [(.bool x22020.Neg), v22026], 24), (g22032, [(.bool x22021.Neg), v22028], 24), (g22085, [(.bool x22078.Neg), v22083], 24), (g22095, [(.bool x22088.Neg), v22093], 24)] x, ⟨Stp.refl _ _, (OwnK.cons (hp.own 5 _ _ _ rfl).1 (OwnK.cons (hp.own 4 _ _ _ rfl).1 (OwnK.cons (hp.own 1 _ _ _ rfl).1 (OwnK.cons (hp.own 0 _ _ _ rfl).1 OwnK.nil))))⟩, fun x hx => ⟨hz.held hx.1, hx.2⟩, ?_⟩
    have hz := Stp.refl I22441 w22440
    refine vch_lt e57 rfl e55 rfl rfl rfl ?_
    obtain ⟨x22444, q22445, q22274⟩ := bind_some q22274
    refine ev_call rfl rfl C19 (((integer_Bits_ok n) _ _  x22438 v22442 r22443 hp.imm _ q22445).mono ?_)
    rintro _ w22446 ⟨rfl, hc⟩
    have hs := hp.stp hc
    replace hp := hp.ext hc
    replace hz := hz.trans hs
    replace r22094 := r22094.step hs
    replace r22084 := r22084.step hs
    replace r22053 := r22053.step hs
    replace r22051 := r22051.step hs
    replace r22029 := r22029.step hs
    replace r22027 := r22027.step hs
    replace tb := tb.step hs
    refine ⟨fun x => Stp I22441 w22446 I22441 x ∧ OwnK [(g22030, [(.bool x22020.Neg), v22026], 24), (g22032, [(.bool x22021.Neg), v22028], 24), (g22085, [(.bool x22078.Neg), v22083], 24), (g22095, [(.bool x22088.Neg), v22093], 24)] x, ⟨Stp.refl _ _, (OwnK.cons (hp.own 5 _ _ _ rfl).1 (OwnK.cons (hp.own 4 _ _ _ rfl).1 (OwnK.cons (hp.own 1 _ _ _ rfl).1 (OwnK.cons (hp.own 0 _ _ _ rfl).1 OwnK.nil))))⟩, fun x hx => ⟨hz.held hx.1, hx.2⟩, ?_⟩
    have hz := Stp.refl I22441 w22446
    refine vch_qt e58 rfl e55 rfl rfl rfl ?_
    refine vch_q e59 rfl ?_
    refine vch_q e60 rfl ?_
    refine vch_end ?_
    obtain rfl := Option.some.inj q22274
    have hp := hp.sel [] (by decide)
    exact ⟨((x22444 == 4), I22441), (.c rfl .n), rfl, hp, tb⟩
  ·
    rintro ⟨x22270, I22271⟩ w22272 ⟨hy, hp, tb⟩
    replace hy := hy.symm
    subst hy
    apply go
    obtain rfl := Option.some.inj h
    exact ⟨rfl, hp.ch⟩

end Go.Proofs.YthhghkcopfnbiaaGreatDoor

namespace Go.Proofs.YthhghkcopfnbiaaGreatDoor
open Go Go.Proofs.YthhghkcopfnbiaaGreatDoor.Gw Go.RowKit
set_option linter.unusedVariables false
attribute [local irreducible] Ev EvQ EvS EvH
def integer_Mul_S (f : Int_2 → Int_2 → Option Int_2) : Prop := ∀ (w0 : World) (I0 : Nat → Prop) (x29107 : Int_2) (v29108 : Value) (r29109 : RepS (dI .u32) w0 I0 v29108 x29107.Mag) (x29110 : Int_2) (v29111 : Value) (r29112 : RepS (dI .u32) w0 I0 v29111 x29110.Mag) (hI : ∀ g, I0 g → g < w0.heap.size) (r : Int_2), f x29107 x29110 = some r →
    Ret Tryz.prog 31 #[(.agg #[(.bool x29107.Neg), v29108]), (.agg #[(.bool x29110.Neg), v29111])] w0 fun v w1 => ∃ (I1 : Nat → Prop) (u29113 : Value), v = (.agg #[(.bool r.Neg), u29113]) ∧ Hp ⟨w0, I0, []⟩ I1 [] w1 ∧ RepS (dI .u32) w1 I1 u29113 r.Mag
theorem integer_Mul_ok (n : Nat) : integer_Mul_S (integer_Mul n) := by
  intro w0 I0 x29107 v29108 r29109 x29110 v29111 r29112 hI r h
  unfold integer_Mul at h
  refine enter Tryz.func31 rfl (Nat.le_of_ble_eq_true rfl) ?_
  have hp : Hp ⟨w0, I0, []⟩ I0 [] w0 := Hp.start hI
  apply go
  apply go
  refine ev_boxI hp rfl rfl ?_
  intro p29116 I29117 w29115 hp hs a29118
  replace r29112 := r29112.step hs
  replace r29109 := r29109.step hs
  refine ev_boxI hp rfl rfl ?_
  intro p29121 I29122 w29120 hp hs a29123
  replace a29118 := a29118.step hs
  replace r29109 := r29109.step hs
  replace r29112 := r29112.step hs
  refine ev_alloc hp rfl T24 ?_
  intro g29124 w29125 hp hs
  replace a29118 := a29118.step hs
  replace r29109 := r29109.step hs
  replace a29123 := a29123.step hs
  replace r29112 := r29112.step hs
  apply go
  have hs := hp.stp (Ch.drew [] w29125)
  have hp := hp.drew
  replace a29118 := a29118.step hs
  replace r29109 := r29109.step hs
  replace a29123 := a29123.step hs
  replace r29112 := r29112.step hs
  refine W.held [(0, true), (1, true), (2, true), (3, true), (4, true), (5, true), (6, true), (8, true), (9, true), (7, false), (10, false), (11, false), (12, false), (13, false)] (Stp I29122 w29125.drew I29122) MX (by kernel_rfl) (Stp.refl _ _) ?_
  have hz := Stp.refl I29122 w29125.drew
  refine evh0 (rn_field rfl rfl FO24_0) ?_
  refine evh (fun w' hw => rn_load rfl rfl (run_loadVar1 T4 ((a29118.step hw).2 0 _ rfl))) ?_
  refine evh0 (rn_field rfl rfl FO24_0) ?_
  refine evh (fun w' hw => rn_load rfl rfl (run_loadVar1 T4 ((a29123.step hw).2 0 _ rfl))) ?_
  refine evh0 (rn_neB rfl rfl rfl Tryz.underlying4) ?_
  refine evh0 (rn_field rfl rfl FO24_1) ?_
  refine evh (fun w' hw => rn_load rfl rfl (run_loadVar1 T22 ((a29118.step hw).2 1 _ rfl))) ?_
  refine evh0 (rn_field rfl rfl FO24_1) ?_
  refine evh (fun w' hw => rn_load rfl rfl (run_loadVar1 T22 ((a29123.step hw).2 1 _ rfl))) ?_
  obtain ⟨x29151, q29152, h⟩ := bind_some h
  refine ev_call rfl rfl C46 (((integer_trim_ok n) _ _  x29107.Mag v29108 r29109 hp.imm _ q29152).mono ?_)
  rintro _ w29153 ⟨I29154, v29155, hv, hq, r29156⟩
  replace hv := hv.symm
  subst hv
  have hs := hq.st
  have hp := hp.join0 hq
  replace hz := hz.trans hs
  replace r29112 := r29112.step hs
  refine ⟨Stp I29154 w29153 I29154, Stp.refl _ _, fun x hx => hz.held hx, ?_⟩
  have hz := Stp.refl I29154 w29153
  obtain ⟨x29157, q29158, h⟩ := bind_some h
  refine ev_call rfl rfl C46 (((integer_trim_ok n) _ _  x29110.Mag v29111 r29112 hp.imm _ q29158).mono ?_)
  rintro _ w29159 ⟨I29160, v29161, hv, hq, r29162⟩
  replace hv := hv.symm
  subst hv
  have hs := hq.st
  have hp := hp.join0 hq
  replace hz := hz.trans hs
  replace r29156 := r29156.step hs
  refine ⟨Stp I29160 w29159 I29160, Stp.refl _ _, fun x hx => hz.held hx, ?_⟩
  have hz := Stp.refl I29160 w29159
  obtain ⟨x29163, q29164, h⟩ := bind_some h
  refine ev_call rfl rfl C66 (((integer_times_ok n) _ _  x29151 v29155 r29156 x29157 v29161 r29162 hp.imm _ q29164).mono ?_)
  rintro _ w29165 ⟨I29166, v29167, hv, hq, r29168⟩
  replace hv := hv.symm
  subst hv
  have hs := hq.st
  have hp := hp.join0 hq
  replace hz := hz.trans hs
  refine ⟨Stp I29166 w29165 I29166, Stp.refl _ _, fun x hx => hz.held hx, ?_⟩
  have hz := Stp.refl I29166 w29165
  obtain ⟨x29169, q29170, h⟩ := bind_some h
  refine ev_call rfl rfl C49 (((integer_made_ok n) _ _  (!(x29107.Neg == x29110.Neg)) x29163 v29167 r29168 hp.imm _ q29170).mono ?_)
  rintro _ w29171 ⟨I29172, v29173, hv, hq, r29174⟩
  replace hv := hv.symm
  subst hv
  have hs := hq.st
  have hp := hp.join0 hq
  replace hz := hz.trans hs
  refine ⟨Stp I29172 w29171 I29172, Stp.refl _ _, fun x hx => hz.held hx, ?_⟩
  have hz := Stp.refl I29172 w29171
  refine ev_storeA hp (i := 0) (off := 0) (vs := [(.bool x29169.Neg), v29173]) rfl rfl rfl rfl T24 rfl (Nat.le_of_ble_eq_true rfl) (ones_cons rfl (ones_cons r29174.one ones_nil)) ?_
  intro w29175 hp hs
  replace hz := hz.trans hs
  replace r29174 := r29174.step hs
  refine ⟨Stp I29172 w29175 I29172, Stp.refl _ _, fun x hx => hz.held hx, ?_⟩
  have hz := Stp.refl I29172 w29175
  apply go
  obtain rfl := Option.some.inj h
  refine ⟨_, run_loadVarA T24 rfl (hp.at_ (i := 0) rfl), ?_⟩
  have hp := hp.sel [] (by decide)
  exact ⟨I29172, v29173, rfl, hp, r29174⟩

end Go.Proofs.YthhghkcopfnbiaaGreatDoor

namespace Go.Proofs.YthhghkcopfnbiaaGreatDoor
open Go Go.Proofs.YthhghkcopfnbiaaGreatDoor.Gw Go.RowKit
set_option linter.unusedVariables false
attribute [local irreducible] Ev EvQ EvS EvH vch
def law01_IntegerRoots_S (f : Int_2 → Option Bool) : Prop := ∀ (w0 : World) (I0 : Nat → Prop) (tb : Tb w0 I0 1 .u64 pow10) (x29500 : Int_2) (v29501 : Value) (r29502 : RepS (dI .u32) w0 I0 v29501 x29500.Mag) (hI : ∀ g, I0 g → g < w0.heap.size) (r : Bool), f x29500 = some r →
    Ret Tryz.prog 8 #[(.agg #[(.bool x29500.Neg), v29501])] w0 fun v w1 => v = (.bool r) ∧ Ch [] w0 w1
theorem law01_IntegerRoots_ok (n : Nat) : law01_IntegerRoots_S (law01_IntegerRoots n) := by
  intro w0 I0 tb x29500 v29501 r29502 hI r h
  unfold law01_IntegerRoots at h
  refine enter Tryz.func8 rfl (Nat.le_of_ble_eq_true rfl) ?_
  have hp : Hp ⟨w0, I0, []⟩ I0 [] w0 := Hp.start hI
  apply go
  apply go
  refine ev_boxI hp rfl rfl ?_
  intro p29505 I29506 w29504 hp hs a29507
  replace r29502 := r29502.step hs
  replace tb := tb.step hs
  apply go
  obtain ⟨y29513, q29514, h⟩ := bind_some h
  refine W.cut (γ := Bool) (fun g => [(1, (.pointer (some (p29505)))), (13, (.bool (g)))]) (fun g w' => y29513 = (g) ∧ Hp ⟨w0, I0, []⟩ I29506 [] w' ∧ RepS (dI .u32) w' I29506 v29501 x29500.Mag ∧ At w' I29506 p29505 [(.bool x29500.Neg), v29501] ∧ Tb w' I29506 1 .u64 pow10) ?_ ?_
  ·
    apply go
    obtain ⟨x29515, q29516, q29514⟩ := bind_some q29514
    refine ev_call rfl rfl C13 (((law01_awake_ok n) _ _ tb  hp.imm _ q29516).mono ?_)
    rintro _ w29517 ⟨rfl, hc⟩
    have hs := hp.stp hc
    replace hp := hp.ext hc
    replace a29507 := a29507.step hs
    replace r29502 := r29502.step hs
    replace tb := tb.step hs
    refine sel_of (fun hc => ?_) (fun hc => ?_)
    ·
      have q29514 := cond_t q29514 hc
      obtain rfl := Option.some.inj q29514
      exact ⟨true, (.c rfl (.c rfl .n)), rfl, hp, r29502, a29507, tb⟩
    ·
      have q29514 := cond_f q29514 hc
      refine ev0 (rn_field rfl rfl FO24_1) ?_
      refine ev (rn_load rfl rfl (run_loadVar1 T22 (a29507.2 1 _ rfl))) ?_
      refine ev0 (rn_len rfl rfl Tryz.underlying22 r29502) ?_
      obtain rfl := Option.some.inj q29514
      exact ⟨(decide ((x29500.Mag.length : Int) > 6)), (.c rfl (.c rfl .n)), rfl, hp, r29502, a29507, tb⟩
  ·
    rintro x29511 w29512 ⟨hy, hp, r29502, a29507, tb⟩
    replace hy := hy.symm
    subst hy
    apply go
    refine sel_of (fun hc => ?_) (fun hc => ?_)
    ·
      have h := cond_t h hc
      apply go
      apply go
      obtain ⟨x29518, q29519, h⟩ := bind_some h
      refine ev_call rfl rfl C13 (((law01_awake_ok n) _ _ tb  hp.imm _ q29519).mono ?_)
      rintro _ w29520 ⟨rfl, hc⟩
      have hs := hp.stp hc
      replace hp := hp.ext hc
      replace tb := tb.step hs
      apply go
      obtain rfl := Option.some.inj h
      exact ⟨rfl, hp.ch⟩
    ·
      have h := cond_f h hc
      apply go
      apply go
      apply go
      refine ev (rn_load rfl rfl (run_loadVarA T24 rfl a29507)) ?_
      obtain ⟨⟨x29521, x29522⟩, q29523, h⟩ := bind_some h
      refine ev_call rfl rfl C33 (((integer_Sqrt_ok n) _ _  (Int_2.mk x29500.Neg x29500.Mag) v29501 r29502 hp.imm _ q29523).mono ?_)
      rintro _ w29524 ⟨I29525, v29526, hv, hq, r29527⟩
      replace hv := hv.symm
      subst hv
      have hs := hq.st
      have hp := hp.join0 hq
      replace a29507 := a29507.step hs
      replace r29502 := r29502.step hs
      replace tb := tb.step hs
      refine ev_alloc hp rfl T24 ?_
      intro g29528 w29529 hp hs
      replace a29507 := a29507.step hs
      replace r29502 := r29502.step hs
      replace r29527 := r29527.step hs
      replace tb := tb.step hs
      refine ev_storeA hp (i := 0) (off := 0) (vs := [(.bool x29521.Neg), v29526]) rfl rfl rfl rfl T24 rfl (Nat.le_of_ble_eq_true rfl) (ones_cons rfl (ones_cons r29527.one ones_nil)) ?_
      intro w29530 hp hs
      replace a29507 := a29507.step hs
      replace r29502 := r29502.step hs
      replace r29527 := r29527.step hs
      replace tb := tb.step hs
      apply go
      apply go
      apply go
      refine ev (rn_load rfl rfl (run_loadVarA T24 rfl a29507)) ?_
      obtain ⟨x29531, q29532, h⟩ := bind_some h
      refine ev_call rfl rfl C23 (((integer_Sign_ok n) _ _  (Int_2.mk x29500.Neg x29500.Mag) v29501 r29502 hp.imm _ q29532).mono ?_)
      rintro _ w29533 ⟨rfl, hc⟩
      have hs := hp.stp hc
      replace hp := hp.ext hc
      replace a29507 := a29507.step hs
      replace r29502 := r29502.step hs
      replace r29527 := r29527.step hs
      replace tb := tb.step hs
      apply go
      refine sel_of (fun hc => ?_) (fun hc => ?_)
      ·
        have h := cond_t h hc
        obtain ⟨y29535, q29536, h⟩ := bind_some h
        refine W.cut (γ := Bool) (fun g => [(2, (.bool (g)))]) (fun g w' => y29535 = (g) ∧ w29533 = w') ?_ ?_
        ·
          apply go
          refine sel_of (fun hc => ?_) (fun hc => ?_)
          ·
            have q29536 := cond_t q29536 hc
            refine ev0 (rn_field rfl rfl FO24_1) ?_
            refine ev (rn_load rfl rfl (run_loadVar1 T22 (hp.cell (i := 0) (off := 1) rfl rfl))) ?_
            refine ev0 (rn_len rfl rfl Tryz.underlying22 r29527) ?_
            obtain rfl := Option.some.inj q29536
            exact ⟨((x29521.Mag.length : Int) == 0), (.c rfl .n), rfl, rfl⟩
          ·
            have q29536 := cond_f q29536 hc
            obtain rfl := Option.some.inj q29536
            exact ⟨false, (.c rfl .n), rfl, rfl⟩
        ·
          rintro x29534 _ ⟨hy, rfl⟩
          replace hy := hy.symm
          subst hy
          apply go
          obtain rfl := Option.some.inj h
          exact ⟨rfl, hp.ch⟩
      ·
        have h := cond_f h hc
        apply go
        obtain ⟨y29622, q29623, h⟩ := bind_some h
        refine W.cut (γ := (Bool × (List Int) × Nat × Value × (Nat → Prop))) (fun g => [(1, (.pointer (some (p29505)))), (3, (.pointer (some ⟨g29528, 0, none⟩))), (4, (.int .i64 x29522)), (5, (.pointer (some ⟨(g.2.2.1), 0, none⟩)))]) (fun g w' => y29622 = ((g.1), (g.2.1)) ∧ Hp ⟨w0, I0, []⟩ (g.2.2.2.2) [some (g29528, [(.bool x29521.Neg), v29526], 24), some ((g.2.2.1), [(.bool (g.1)), (g.2.2.2.1)], 24)] w' ∧ RepS (dI .u32) w' (g.2.2.2.2) v29501 x29500.Mag ∧ At w' (g.2.2.2.2) p29505 [(.bool x29500.Neg), v29501] ∧ RepS (dI .u32) w' (g.2.2.2.2) v29526 x29521.Mag ∧ RepS (dI .u32) w' (g.2.2.2.2) (g.2.2.2.1) (g.2.1) ∧ Tb w' (g.2.2.2.2) 1 .u64 pow10) ?_ ?_
        ·
          have hs := hp.stp (Ch.drew [] w29533)
          have hp := hp.drew
          replace a29507 := a29507.step hs
          replace r29502 := r29502.step hs
          replace r29527 := r29527.step hs
          replace tb := tb.step hs
          refine W.heldG (.q 0 (.l 1 (.l 2 (.l 3 (.l 4 .done .no) .no) (.l 3 (.l 2 (.l 4 .done .no) .no) .no)) (.l 3 (.l 1 (.l 2 (.l 4 .done .no) .no) .no) .no))) (SK (Stp I29525 w29533.drew I29525) [(g29528, [(.bool x29521.Neg), v29526], 24)] [[]]) MX (by kernel_rfl) ⟨Stp.refl _ _, (kp_cons (fun _ => (hp.own 0 _ _ _ rfl).1) kp_nil)⟩ ?_
          have hz := Stp.refl I29525 w29533.drew
          refine ⟨SK.same (by kernel_rfl), ?_⟩
          refine evh (fun w' hw => rn_load rfl rfl (run_loadVarA T24 rfl ((S0.keep (p := 0) hw rfl rfl (by kernel_rfl)).at_ (i := 0) rfl))) ?_
          refine ⟨?_, ?_⟩
          ·
            obtain ⟨x29663, q29664, q29623⟩ := bind_some q29623
            refine ev_call rfl rfl C18 (((integer_Of_ok n) _ _  1 hp.imm _ q29664).mono ?_)
            rintro _ w29665 ⟨I29666, v29667, hv, hq, r29668⟩
            replace hv := hv.symm
            subst hv
            have hs := hq.st
            have hp := hp.join0 hq
            replace hz := hz.trans hs
            replace a29507 := a29507.step hs
            replace r29502 := r29502.step hs
            replace r29527 := r29527.step hs
            replace tb := tb.step hs
            refine ⟨SK (Stp I29666 w29665 I29666) [(g29528, [(.bool x29521.Neg), v29526], 24)] [[]], ⟨Stp.refl _ _, (kp_cons (fun _ => (hp.own 0 _ _ _ rfl).1) kp_nil)⟩, fun L x h => ⟨hz.held h.1, h.2⟩, ?_⟩
            have hz := Stp.refl I29666 w29665
            refine ⟨?_, ?_⟩
            ·
              obtain ⟨x29669, q29670, q29623⟩ := bind_some q29623
              refine ev_call rfl rfl C30 (((integer_Add_ok n) _ _  (Int_2.mk x29521.Neg x29521.Mag) v29526 r29527 x29663 v29667 r29668 hp.imm _ q29670).mono ?_)
              rintro _ w29671 ⟨I29672, v29673, hv, hq, r29674⟩
              replace hv := hv.symm
              subst hv
              have hs := hq.st
              have hp := hp.join0 hq
              replace hz := hz.trans hs
              replace a29507 := a29507.step hs
              replace r29502 := r29502.step hs
              replace r29527 := r29527.step hs
              replace tb := tb.step hs
              refine ⟨SK (Stp I29672 w29671 I29672) [(g29528, [(.bool x29521.Neg), v29526], 24)] [[]], ⟨Stp.refl _ _, (kp_cons (fun _ => (hp.own 0 _ _ _ rfl).1) kp_nil)⟩, fun L x h => ⟨hz.held h.1, h.2⟩, ?_⟩
              have hz := Stp.refl I29672 w29671
              refine ⟨?_, trivial⟩
              refine ev_alloc hp rfl T24 ?_
              intro g29675 w29676 hp hs
              replace hz := hz.trans hs
              replace a29507 := a29507.step hs
              replace r29502 := r29502.step hs
              replace r29674 := r29674.step hs
              replace r29527 := r29527.step hs
              replace tb := tb.step hs
              refine ⟨SK (Stp I29672 w29676 I29672) [(g29528, [(.bool x29521.Neg), v29526], 24)] [[]], ⟨Stp.refl _ _, (kp_cons (fun _ => (hp.own 1 _ _ _ rfl).1) kp_nil)⟩, fun L x h => ⟨hz.held h.1, h.2⟩, ?_⟩
              have hz := Stp.refl I29672 w29676
              refine ⟨?_, trivial⟩
              refine ev_storeA hp (i := 0) (off := 0) (vs := [(.bool x29669.Neg), v29673]) rfl rfl rfl rfl T24 rfl (Nat.le_of_ble_eq_true rfl) (ones_cons rfl (ones_cons r29674.one ones_nil)) ?_
              intro w29677 hp hs
              replace hz := hz.trans hs
              replace a29507 := a29507.step hs
              replace r29502 := r29502.step hs
              replace r29674 := r29674.step hs
              replace r29527 := r29527.step hs
              replace tb := tb.step hs
              refine ⟨SK (Stp I29672 w29677 I29672) [(g29528, [(.bool x29521.Neg), v29526], 24)] [[]], ⟨Stp.refl _ _, (kp_cons (fun _ => (hp.own 1 _ _ _ rfl).1) kp_nil)⟩, fun L x h => ⟨hz.held h.1, h.2⟩, ?_⟩
              have hz := Stp.refl I29672 w29677
              obtain rfl := Option.some.inj q29623
              have hp := hp.perm [1, 0] (by decide)
              exact ⟨(x29669.Neg, x29669.Mag, g29675, v29673, I29672), (.c rfl (.c rfl (.c rfl (.c rfl .n)))), rfl, hp, r29502, a29507, r29527, r29674, tb⟩
            refine ⟨?_, trivial⟩
            refine ev_alloc hp rfl T24 ?_
            intro g29678 w29679 hp hs
            replace hz := hz.trans hs
            replace a29507 := a29507.step hs
            replace r29502 := r29502.step hs
            replace r29527 := r29527.step hs
            replace r29668 := r29668.step hs
            replace tb := tb.step hs
            refine ⟨SK (Stp I29666 w29679 I29666) [(g29528, [(.bool x29521.Neg), v29526], 24)] [[]], ⟨Stp.refl _ _, (kp_cons (fun _ => (hp.own 1 _ _ _ rfl).1) kp_nil)⟩, fun L x h => ⟨hz.held h.1, h.2⟩, ?_⟩
            have hz := Stp.refl I29666 w29679
            refine ⟨?_, trivial⟩
            obtain ⟨x29680, q29681, q29623⟩ := bind_some q29623
            refine ev_call rfl rfl C30 (((integer_Add_ok n) _ _  (Int_2.mk x29521.Neg x29521.Mag) v29526 r29527 x29663 v29667 r29668 hp.imm _ q29681).mono ?_)
            rintro _ w29682 ⟨I29683, v29684, hv, hq, r29685⟩
            replace hv := hv.symm
            subst hv
            have hs := hq.st
            have hp := hp.join0 hq
            replace hz := hz.trans hs
            replace a29507 := a29507.step hs
            replace r29502 := r29502.step hs
            replace r29527 := r29527.step hs
            replace tb := tb.step hs
            refine ⟨SK (Stp I29683 w29682 I29683) [(g29528, [(.bool x29521.Neg), v29526], 24)] [[]], ⟨Stp.refl _ _, (kp_cons (fun _ => (hp.own 1 _ _ _ rfl).1) kp_nil)⟩, fun L x h => ⟨hz.held h.1, h.2⟩, ?_⟩
            have hz := Stp.refl I29683 w29682
            refine ⟨?_, trivial⟩
            refine ev_storeA hp (i := 0) (off := 0) (vs := [(.bool x29680.Neg), v29684]) rfl rfl rfl rfl T24 rfl (Nat.le_of_ble_eq_true rfl) (ones_cons rfl (ones_cons r29685.one ones_nil)) ?_
            intro w29686 hp hs
            replace hz := hz.trans hs
            replace a29507 := a29507.step hs
            replace r29502 := r29502.step hs
            replace r29685 := r29685.step hs
            replace r29527 := r29527.step hs
            replace tb := tb.step hs
            refine ⟨SK (Stp I29683 w29686 I29683) [(g29528, [(.bool x29521.Neg), v29526], 24)] [[]], ⟨Stp.refl _ _, (kp_cons (fun _ => (hp.own 1 _ _ _ rfl).1) kp_nil)⟩, fun L x h => ⟨hz.held h.1, h.2⟩, ?_⟩
            have hz := Stp.refl I29683 w29686
            obtain rfl := Option.some.inj q29623
            have hp := hp.perm [1, 0] (by decide)
            exact ⟨(x29680.Neg, x29680.Mag, g29678, v29684, I29683), (.c rfl (.c rfl (.c rfl (.c rfl .n)))), rfl, hp, r29502, a29507, r29527, r29685, tb⟩
          refine ⟨?_, trivial⟩
          refine ev_alloc hp rfl T24 ?_
          intro g29687 w29688 hp hs
          replace hz := hz.trans hs
          replace a29507 := a29507.step hs
          replace r29502 := r29502.step hs
          replace r29527 := r29527.step hs
          replace tb := tb.step hs
          refine ⟨SK (Stp I29525 w29688 I29525) [(g29528, [(.bool x29521.Neg), v29526], 24)] [[]], ⟨Stp.refl _ _, (kp_cons (fun _ => (hp.own 1 _ _ _ rfl).1) kp_nil)⟩, fun L x h => ⟨hz.held h.1, h.2⟩, ?_⟩
          have hz := Stp.refl I29525 w29688
          refine ⟨?_, trivial⟩
          obtain ⟨x29689, q29690, q29623⟩ := bind_some q29623
          refine ev_call rfl rfl C18 (((integer_Of_ok n) _ _  1 hp.imm _ q29690).mono ?_)
          rintro _ w29691 ⟨I29692, v29693, hv, hq, r29694⟩
          replace hv := hv.symm
          subst hv
          have hs := hq.st
          have hp := hp.join0 hq
          replace hz := hz.trans hs
          replace a29507 := a29507.step hs
          replace r29502 := r29502.step hs
          replace r29527 := r29527.step hs
          replace tb := tb.step hs
          refine ⟨SK (Stp I29692 w29691 I29692) [(g29528, [(.bool x29521.Neg), v29526], 24)] [[]], ⟨Stp.refl _ _, (kp_cons (fun _ => (hp.own 1 _ _ _ rfl).1) kp_nil)⟩, fun L x h => ⟨hz.held h.1, h.2⟩, ?_⟩
          have hz := Stp.refl I29692 w29691
          refine ⟨?_, trivial⟩
          obtain ⟨x29695, q29696, q29623⟩ := bind_some q29623
          refine ev_call rfl rfl C30 (((integer_Add_ok n) _ _  (Int_2.mk x29521.Neg x29521.Mag) v29526 r29527 x29689 v29693 r29694 hp.imm _ q29696).mono ?_)
          rintro _ w29697 ⟨I29698, v29699, hv, hq, r29700⟩
          replace hv := hv.symm
          subst hv
          have hs := hq.st
          have hp := hp.join0 hq
          replace hz := hz.trans hs
          replace a29507 := a29507.step hs
          replace r29502 := r29502.step hs
          replace r29527 := r29527.step hs
          replace tb := tb.step hs
          refine ⟨SK (Stp I29698 w29697 I29698) [(g29528, [(.bool x29521.Neg), v29526], 24)] [[]], ⟨Stp.refl _ _, (kp_cons (fun _ => (hp.own 1 _ _ _ rfl).1) kp_nil)⟩, fun L x h => ⟨hz.held h.1, h.2⟩, ?_⟩
          have hz := Stp.refl I29698 w29697
          refine ⟨?_, trivial⟩
          refine ev_storeA hp (i := 0) (off := 0) (vs := [(.bool x29695.Neg), v29699]) rfl rfl rfl rfl T24 rfl (Nat.le_of_ble_eq_true rfl) (ones_cons rfl (ones_cons r29700.one ones_nil)) ?_
          intro w29701 hp hs
          replace hz := hz.trans hs
          replace a29507 := a29507.step hs
          replace r29502 := r29502.step hs
          replace r29700 := r29700.step hs
          replace r29527 := r29527.step hs
          replace tb := tb.step hs
          refine ⟨SK (Stp I29698 w29701 I29698) [(g29528, [(.bool x29521.Neg), v29526], 24)] [[]], ⟨Stp.refl _ _, (kp_cons (fun _ => (hp.own 1 _ _ _ rfl).1) kp_nil)⟩, fun L x h => ⟨hz.held h.1, h.2⟩, ?_⟩
          have hz := Stp.refl I29698 w29701
          obtain rfl := Option.some.inj q29623
          have hp := hp.perm [1, 0] (by decide)
          exact ⟨(x29695.Neg, x29695.Mag, g29687, v29699, I29698), (.c rfl (.c rfl (.c rfl (.c rfl .n)))), rfl, hp, r29502, a29507, r29527, r29700, tb⟩
        ·
          rintro ⟨x29616, x29617, g29615, v29618, I29620⟩ w29621 ⟨hy, hp, r29502, a29507, r29527, r29619, tb⟩
          replace hy := hy.symm
          subst hy
          obtain ⟨y29747, q29748, h⟩ := bind_some h
          refine W.cut (γ := (Bool × (Nat → Prop))) (fun g => [(2, (.bool (g.1)))]) (fun g w' => y29747 = (g.1) ∧ Hp ⟨w0, I0, []⟩ (g.2) [] w' ∧ Tb w' (g.2) 1 .u64 pow10) ?_ ?_
          ·
            have hs := hp.stp (Ch.drew [] w29621)
            have hp := hp.drew
            replace a29507 := a29507.step hs
            replace r29502 := r29502.step hs
            replace r29527 := r29527.step hs
            replace r29619 := r29619.step hs
            replace tb := tb.step hs
            refine W.heldT [(0, true), (1, true), (2, true), (3, true), (4, false), (5, true), (6, true), (7, true), (8, true), (9, true), (11, true), (10, false), (12, false), (13, true), (14, true), (15, true), (16, true), (17, true), (19, true), (18, false), (20, false), (21, true), (22, true), (23, true)] (fun x => Stp I29620 w29621.drew I29620 x ∧ OwnK [(g29528, [(.bool x29521.Neg), v29526], 24), (g29615, [(.bool x29616), v29618], 24)] x) MX (by kernel_rfl) ⟨Stp.refl _ _, (OwnK.cons (hp.own 0 _ _ _ rfl).1 (OwnK.cons (hp.own 1 _ _ _ rfl).1 OwnK.nil))⟩ ?_
            have hz := Stp.refl I29620 w29621.drew
            intro ops hops
            have e0 : nthO ops 0 = some _ := (hops 0).trans rfl
            have e1 : nthO ops 1 = some _ := (hops 1).trans rfl
            have e2 : nthO ops 2 = some _ := (hops 2).trans rfl
            have e3 : nthO ops 3 = some _ := (hops 3).trans rfl
            have e4 : nthO ops 4 = some _ := (hops 4).trans rfl
            have e5 : nthO ops 5 = some _ := (hops 5).trans rfl
            have e6 : nthO ops 6 = some _ := (hops 6).trans rfl
            have e7 : nthO ops 7 = some _ := (hops 7).trans rfl
            have e8 : nthO ops 8 = some _ := (hops 8).trans rfl
            have e9 : nthO ops 9 = some _ := (hops 9).trans rfl
            have e10 : nthO ops 10 = some _ := (hops 10).trans rfl
            have e11 : nthO ops 11 = some _ := (hops 11).trans rfl
            have e12 : nthO ops 12 = some _ := (hops 12).trans rfl
            have e13 : nthO ops 13 = some _ := (hops 13).trans rfl
            have e14 : nthO ops 14 = some _ := (hops 14).trans rfl
            have e15 : nthO ops 15 = some _ := (hops 15).trans rfl
            have e16 : nthO ops 16 = some _ := (hops 16).trans rfl
            have e17 : nthO ops 17 = some _ := (hops 17).trans rfl
            have e18 : nthO ops 18 = some _ := (hops 18).trans rfl
            have e19 : nthO ops 19 = some _ := (hops 19).trans rfl
            have e20 : nthO ops 20 = some _ := (hops 20).trans rfl
            have e21 : nthO ops 21 = some _ := (hops 21).trans rfl
            have e22 : nthO ops 22 = some _ := (hops 22).trans rfl
            have e23 : nthO ops 23 = some _ := (hops 23).trans rfl
            clear hops
            refine vch_q e0 rfl ?_
            refine vch_q e1 rfl ?_
            refine vch_q e2 rfl ?_
            rcases Bool.eq_false_or_eq_true (x29522 == 0) with hc | hc
            ·
              have q29748 := cond_t q29748 hc
              refine vch_qt e3 rfl e2 rfl rfl hc ?_
              refine evh (fun w' hw => rn_load rfl rfl (run_loadVarA T24 rfl (hw.2.at_ (i := 0) rfl))) ?_
              refine vch_lt e4 rfl e2 rfl rfl rfl ?_
              obtain ⟨x29770, q29771, q29748⟩ := bind_some q29748
              refine ev_call rfl rfl C23 (((integer_Sign_ok n) _ _  (Int_2.mk x29521.Neg x29521.Mag) v29526 r29527 hp.imm _ q29771).mono ?_)
              rintro _ w29772 ⟨rfl, hc⟩
              have hs := hp.stp hc
              replace hp := hp.ext hc
              replace hz := hz.trans hs
              replace a29507 := a29507.step hs
              replace r29502 := r29502.step hs
              replace r29527 := r29527.step hs
              replace r29619 := r29619.step hs
              replace tb := tb.step hs
              refine ⟨fun x => Stp I29620 w29772 I29620 x ∧ OwnK [(g29528, [(.bool x29521.Neg), v29526], 24), (g29615, [(.bool x29616), v29618], 24)] x, ⟨Stp.refl _ _, (OwnK.cons (hp.own 0 _ _ _ rfl).1 (OwnK.cons (hp.own 1 _ _ _ rfl).1 OwnK.nil))⟩, fun x hx => ⟨hz.held hx.1, hx.2⟩, ?_⟩
              have hz := Stp.refl I29620 w29772
              refine vch_qt e5 rfl e2 rfl rfl rfl ?_
              refine vch_q e6 rfl ?_
              refine vch_q e7 rfl ?_
              rcases Bool.eq_false_or_eq_true (decide (x29770 ≥ 0)) with hc | hc
              ·
                have q29748 := cond_t q29748 hc
                refine vch_qt e8 rfl e7 rfl rfl hc ?_
                refine evh (fun w' hw => rn_load rfl rfl (run_loadVarA T24 rfl (hw.2.at_ (i := 0) rfl))) ?_
                refine vch_qt e9 rfl e7 rfl rfl rfl ?_
                refine evh (fun w' hw => rn_load rfl rfl (run_loadVarA T24 rfl (hw.2.at_ (i := 0) rfl))) ?_
                refine vch_qt e11 rfl e7 rfl rfl rfl ?_
                refine evh (fun w' hw => rn_load rfl rfl (run_loadVarA T24 rfl (a29507.step hw.1))) ?_
                refine vch_lt e10 rfl e7 rfl rfl rfl ?_
                obtain ⟨x29773, q29774, q29748⟩ := bind_some q29748
                refine ev_call rfl rfl C31 (((integer_Mul_ok n) _ _  (Int_2.mk x29521.Neg x29521.Mag) v29526 r29527 (Int_2.mk x29521.Neg x29521.Mag) v29526 r29527 hp.imm _ q29774).mono ?_)
                rintro _ w29775 ⟨I29776, v29777, hv, hq, r29778⟩
                replace hv := hv.symm
                subst hv
                have hs := hq.st
                have hp := hp.join0 hq
                replace hz := hz.trans hs
                replace a29507 := a29507.step hs
                replace r29502 := r29502.step hs
                replace r29527 := r29527.step hs
                replace r29619 := r29619.step hs
                replace tb := tb.step hs
                refine ⟨fun x => Stp I29776 w29775 I29776 x ∧ OwnK [(g29528, [(.bool x29521.Neg), v29526], 24), (g29615, [(.bool x29616), v29618], 24)] x, ⟨Stp.refl _ _, (OwnK.cons (hp.own 0 _ _ _ rfl).1 (OwnK.cons (hp.own 1 _ _ _ rfl).1 OwnK.nil))⟩, fun x hx => ⟨hz.held hx.1, hx.2⟩, ?_⟩
                have hz := Stp.refl I29776 w29775
                refine vch_lt e12 rfl e7 rfl rfl rfl ?_
                obtain ⟨x29779, q29780, q29748⟩ := bind_some q29748
                refine ev_call rfl rfl C17 (((integer_Cmp_ok n) _ _  x29773 v29777 r29778 (Int_2.mk x29500.Neg x29500.Mag) v29501 r29502 hp.imm _ q29780).mono ?_)
                rintro _ w29781 ⟨rfl, hc⟩
                have hs := hp.stp hc
                replace hp := hp.ext hc
                replace hz := hz.trans hs
                replace a29507 := a29507.step hs
                replace r29502 := r29502.step hs
                replace r29527 := r29527.step hs
                replace r29619 := r29619.step hs
                replace tb := tb.step hs
                refine ⟨fun x => Stp I29776 w29781 I29776 x ∧ OwnK [(g29528, [(.bool x29521.Neg), v29526], 24), (g29615, [(.bool x29616), v29618], 24)] x, ⟨Stp.refl _ _, (OwnK.cons (hp.own 0 _ _ _ rfl).1 (OwnK.cons (hp.own 1 _ _ _ rfl).1 OwnK.nil))⟩, fun x hx => ⟨hz.held hx.1, hx.2⟩, ?_⟩
                have hz := Stp.refl I29776 w29781
                refine vch_qt e13 rfl e7 rfl rfl rfl ?_
                refine vch_q e14 rfl ?_
                refine vch_q e15 rfl ?_
                rcases Bool.eq_false_or_eq_true (decide (x29779 ≤ 0)) with hc | hc
                ·
                  have q29748 := cond_t q29748 hc
                  refine vch_qt e16 rfl e15 rfl rfl hc ?_
                  refine evh (fun w' hw => rn_load rfl rfl (run_loadVarA T24 rfl (hw.2.at_ (i := 1) rfl))) ?_
                  refine vch_qt e17 rfl e15 rfl rfl rfl ?_
                  refine evh (fun w' hw => rn_load rfl rfl (run_loadVarA T24 rfl (hw.2.at_ (i := 1) rfl))) ?_
                  refine vch_qt e19 rfl e15 rfl rfl rfl ?_
                  refine evh (fun w' hw => rn_load rfl rfl (run_loadVarA T24 rfl (a29507.step hw.1))) ?_
                  refine vch_lt e18 rfl e15 rfl rfl rfl ?_
                  obtain ⟨x29782, q29783, q29748⟩ := bind_some q29748
                  refine ev_call rfl rfl C31 (((integer_Mul_ok n) _ _  (Int_2.mk x29616 x29617) v29618 r29619 (Int_2.mk x29616 x29617) v29618 r29619 hp.imm _ q29783).mono ?_)
                  rintro _ w29784 ⟨I29785, v29786, hv, hq, r29787⟩
                  replace hv := hv.symm
                  subst hv
                  have hs := hq.st
                  have hp := hp.join0 hq
                  replace hz := hz.trans hs
                  replace r29502 := r29502.step hs
                  replace r29527 := r29527.step hs
                  replace r29619 := r29619.step hs
                  replace tb := tb.step hs
                  refine ⟨fun x => Stp I29785 w29784 I29785 x ∧ OwnK [(g29528, [(.bool x29521.Neg), v29526], 24), (g29615, [(.bool x29616), v29618], 24)] x, ⟨Stp.refl _ _, (OwnK.cons (hp.own 0 _ _ _ rfl).1 (OwnK.cons (hp.own 1 _ _ _ rfl).1 OwnK.nil))⟩, fun x hx => ⟨hz.held hx.1, hx.2⟩, ?_⟩
                  have hz := Stp.refl I29785 w29784
                  refine vch_lt e20 rfl e15 rfl rfl rfl ?_
                  obtain ⟨x29788, q29789, q29748⟩ := bind_some q29748
                  refine ev_call rfl rfl C17 (((integer_Cmp_ok n) _ _  x29782 v29786 r29787 (Int_2.mk x29500.Neg x29500.Mag) v29501 r29502 hp.imm _ q29789).mono ?_)
                  rintro _ w29790 ⟨rfl, hc⟩
                  have hs := hp.stp hc
                  replace hp := hp.ext hc
                  replace hz := hz.trans hs
                  replace r29527 := r29527.step hs
                  replace r29619 := r29619.step hs
                  replace tb := tb.step hs
                  refine ⟨fun x => Stp I29785 w29790 I29785 x ∧ OwnK [(g29528, [(.bool x29521.Neg), v29526], 24), (g29615, [(.bool x29616), v29618], 24)] x, ⟨Stp.refl _ _, (OwnK.cons (hp.own 0 _ _ _ rfl).1 (OwnK.cons (hp.own 1 _ _ _ rfl).1 OwnK.nil))⟩, fun x hx => ⟨hz.held hx.1, hx.2⟩, ?_⟩
                  have hz := Stp.refl I29785 w29790
                  refine vch_qt e21 rfl e15 rfl rfl rfl ?_
                  refine vch_q e22 rfl ?_
                  refine vch_q e23 rfl ?_
                  refine vch_end ?_
                  obtain rfl := Option.some.inj q29748
                  have hp := hp.sel [] (by decide)
                  exact ⟨((decide (x29788 > 0)), I29785), (.c rfl .n), rfl, hp, tb⟩
                ·
                  have q29748 := cond_f q29748 hc
                  refine vch_qf e16 rfl e15 rfl rfl hc ?_
                  refine vch_qf e17 rfl e15 rfl rfl rfl ?_
                  refine vch_qf e19 rfl e15 rfl rfl rfl ?_
                  refine vch_lf e18 rfl e15 rfl rfl rfl ?_
                  refine ⟨fun x => Stp I29776 w29781 I29776 x ∧ OwnK [(g29528, [(.bool x29521.Neg), v29526], 24), (g29615, [(.bool x29616), v29618], 24)] x, ⟨Stp.refl _ _, (OwnK.cons (hp.own 0 _ _ _ rfl).1 (OwnK.cons (hp.own 1 _ _ _ rfl).1 OwnK.nil))⟩, fun x hx => ⟨hz.held hx.1, hx.2⟩, ?_⟩
                  have hz := Stp.refl I29776 w29781
                  refine vch_lf e20 rfl e15 rfl rfl rfl ?_
                  refine ⟨fun x => Stp I29776 w29781 I29776 x ∧ OwnK [(g29528, [(.bool x29521.Neg), v29526], 24), (g29615, [(.bool x29616), v29618], 24)] x, ⟨Stp.refl _ _, (OwnK.cons (hp.own 0 _ _ _ rfl).1 (OwnK.cons (hp.own 1 _ _ _ rfl).1 OwnK.nil))⟩, fun x hx => ⟨hz.held hx.1, hx.2⟩, ?_⟩
                  have hz := Stp.refl I29776 w29781
                  refine vch_qf e21 rfl e15 rfl rfl rfl ?_
                  refine vch_q e22 rfl ?_
                  refine vch_q e23 rfl ?_
                  refine vch_end ?_
                  obtain rfl := Option.some.inj q29748
                  have hp := hp.sel [] (by decide)
                  exact ⟨(false, I29776), (.c rfl .n), rfl, hp, tb⟩
              ·
                have q29748 := cond_f q29748 hc
                refine vch_qf e8 rfl e7 rfl rfl hc ?_
                refine vch_qf e9 rfl e7 rfl rfl rfl ?_
                refine vch_qf e11 rfl e7 rfl rfl rfl ?_
                refine vch_lf e10 rfl e7 rfl rfl rfl ?_
                refine ⟨fun x => Stp I29620 w29772 I29620 x ∧ OwnK [(g29528, [(.bool x29521.Neg), v29526], 24), (g29615, [(.bool x29616), v29618], 24)] x, ⟨Stp.refl _ _, (OwnK.cons (hp.own 0 _ _ _ rfl).1 (OwnK.cons (hp.own 1 _ _ _ rfl).1 OwnK.nil))⟩, fun x hx => ⟨hz.held hx.1, hx.2⟩, ?_⟩
                have hz := Stp.refl I29620 w29772
                refine vch_lf e12 rfl e7 rfl rfl rfl ?_
                refine ⟨fun x => Stp I29620 w29772 I29620 x ∧ OwnK [(g29528, [(.bool x29521.Neg), v29526], 24), (g29615, [(.bool x29616), v29618], 24)] x, ⟨Stp.refl _ _, (OwnK.cons (hp.own 0 _ _ _ rfl).1 (OwnK.cons (hp.own 1 _ _ _ rfl).1 OwnK.nil))⟩, fun x hx => ⟨hz.held hx.1, hx.2⟩, ?_⟩
                have hz := Stp.refl I29620 w29772
                refine vch_qf e13 rfl e7 rfl rfl rfl ?_
                refine vch_q e14 rfl ?_
                refine vch_q e15 rfl ?_
                refine vch_qf e16 rfl e15 rfl rfl rfl ?_
                refine vch_qf e17 rfl e15 rfl rfl rfl ?_
                refine vch_qf e19 rfl e15 rfl rfl rfl ?_
                refine vch_lf e18 rfl e15 rfl rfl rfl ?_
                refine ⟨fun x => Stp I29620 w29772 I29620 x ∧ OwnK [(g29528, [(.bool x29521.Neg), v29526], 24), (g29615, [(.bool x29616), v29618], 24)] x, ⟨Stp.refl _ _, (OwnK.cons (hp.own 0 _ _ _ rfl).1 (OwnK.cons (hp.own 1 _ _ _ rfl).1 OwnK.nil))⟩, fun x hx => ⟨hz.held hx.1, hx.2⟩, ?_⟩
                have hz := Stp.refl I29620 w29772
                refine vch_lf e20 rfl e15 rfl rfl rfl ?_
                refine ⟨fun x => Stp I29620 w29772 I29620 x ∧ OwnK [(g29528, [(.bool x29521.Neg), v29526], 24), (g29615, [(.bool x29616), v29618], 24)] x, ⟨Stp.refl _ _, (OwnK.cons (hp.own 0 _ _ _ rfl).1 (OwnK.cons (hp.own 1 _ _ _ rfl).1 OwnK.nil))⟩, fun x hx => ⟨hz.held hx.1, hx.2⟩, ?_⟩
                have hz := Stp.refl I29620 w29772
                refine vch_qf e21 rfl e15 rfl rfl rfl ?_
                refine vch_q e22 rfl ?_
                refine vch_q e23 rfl ?_
                refine vch_end ?_
                obtain rfl := Option.some.inj q29748
                have hp := hp.sel [] (by decide)
                exact ⟨(false, I29620), (.c rfl .n), rfl, hp, tb⟩
            ·
              have q29748 := cond_f q29748 hc
              refine vch_qf e3 rfl e2 rfl rfl hc ?_
              refine vch_lf e4 rfl e2 rfl rfl rfl ?_
              refine ⟨fun x => Stp I29620 w29621.drew I29620 x ∧ OwnK [(g29528, [(.bool x29521.Neg), v29526], 24), (g29615, [(.bool x29616), v29618], 24)] x, ⟨Stp.refl _ _, (OwnK.cons (hp.own 0 _ _ _ rfl).1 (OwnK.cons (hp.own 1 _ _ _ rfl).1 OwnK.nil))⟩, fun x hx => ⟨hz.held hx.1, hx.2⟩, ?_⟩
              have hz := Stp.refl I29620 w29621.drew
              refine vch_qf e5 rfl e2 rfl rfl rfl ?_
              refine vch_q e6 rfl ?_
              refine vch_q e7 rfl ?_
              refine vch_qf e8 rfl e7 rfl rfl rfl ?_
              refine vch_qf e9 rfl e7 rfl rfl rfl ?_
              refine vch_qf e11 rfl e7 rfl rfl rfl ?_
              refine vch_lf e10 rfl e7 rfl rfl rfl ?_
              refine ⟨fun x => Stp I29620 w29621.drew I29620 x ∧ OwnK [(g29528, [(.bool x29521.Neg), v29526], 24), (g29615, [(.bool x29616), v29618], 24)] x, ⟨Stp.refl _ _, (OwnK.cons (hp.own 0 _ _ _ rfl).1 (OwnK.cons (hp.own 1 _ _ _ rfl).1 OwnK.nil))⟩, fun x hx => ⟨hz.held hx.1, hx.2⟩, ?_⟩
              have hz := Stp.refl I29620 w29621.drew
              refine vch_lf e12 rfl e7 rfl rfl rfl ?_
              refine ⟨fun x => Stp I29620 w29621.drew I29620 x ∧ OwnK [(g29528, [(.bool x29521.Neg), v29526], 24), (g29615, [(.bool x29616), v29618], 24)] x, ⟨Stp.refl _ _, (OwnK.cons (hp.own 0 _ _ _ rfl).1 (OwnK.cons (hp.own 1 _ _ _ rfl).1 OwnK.nil))⟩, fun x hx => ⟨hz.held hx.1, hx.2⟩, ?_⟩
              have hz := Stp.refl I29620 w29621.drew
              refine vch_qf e13 rfl e7 rfl rfl rfl ?_
              refine vch_q e14 rfl ?_
              refine vch_q e15 rfl ?_
              refine vch_qf e16 rfl e15 rfl rfl rfl ?_
              refine vch_qf e17 rfl e15 rfl rfl rfl ?_
              refine vch_qf e19 rfl e15 rfl rfl rfl ?_
              refine vch_lf e18 rfl e15 rfl rfl rfl ?_
              refine ⟨fun x => Stp I29620 w29621.drew I29620 x ∧ OwnK [(g29528, [(.bool x29521.Neg), v29526], 24), (g29615, [(.bool x29616), v29618], 24)] x, ⟨Stp.refl _ _, (OwnK.cons (hp.own 0 _ _ _ rfl).1 (OwnK.cons (hp.own 1 _ _ _ rfl).1 OwnK.nil))⟩, fun x hx => ⟨hz.held hx.1, hx.2⟩, ?_⟩
              have hz := Stp.refl I29620 w29621.drew
              refine vch_lf e20 rfl e15 rfl rfl rfl ?_
              refine ⟨fun x => Stp I29620 w29621.drew I29620 x ∧ OwnK [(g29528, [(.bool x29521.Neg), v29526], 24), (g29615, [(.bool x29616), v29618], 24)] x, ⟨Stp.refl _ _, (OwnK.cons (hp.own 0 _ _ _ rfl).1 (OwnK.cons (hp.own 1 _ _ _ rfl).1 OwnK.nil))⟩, fun x hx => ⟨hz.held hx.1, hx.2⟩, ?_⟩
              have hz := Stp.refl I29620 w29621.drew
              refine vch_qf e21 rfl e15 rfl rfl rfl ?_
              refine vch_q e22 rfl ?_
              refine vch_q e23 rfl ?_
              refine vch_end ?_
              obtain rfl := Option.some.inj q29748
              have hp := hp.sel [] (by decide)
              exact ⟨(false, I29620), (.c rfl .n), rfl, hp, tb⟩
          ·
            rintro ⟨x29744, I29745⟩ w29746 ⟨hy, hp, tb⟩
            replace hy := hy.symm
            subst hy
            apply go
            obtain rfl := Option.some.inj h
            exact ⟨rfl, hp.ch⟩

end Go.Proofs.YthhghkcopfnbiaaGreatDoor
