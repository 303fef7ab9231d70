/-
  Each function of the program computes the plain function of its name.
-/
import Derived.Test.YtepadjfmcbjkmaaDoorFactsA
import Derived.Test.YtepadjfmcbjkmaaDoorWalkA
import Derived.Lib.Walk
import Derived.BigCall
import Derived.BigGuard
import Derived.Test.YtepadjfmcbjkmaaDoorCoreA
namespace Go.Proofs.YtepadjfmcbjkmaaDoor
open Go Go.Proofs.YtepadjfmcbjkmaaDoor.Gw Go.RowKit
set_option linter.unusedVariables false
attribute [local irreducible] Ev EvQ EvS EvH
def rational_one_S (f : Int_2 → Option Bool) : Prop := ∀ (w0 : World) (I0 : Nat → Prop) (x17386 : Int_2) (v17387 : Value) (r17388 : RepS (dI .u32) w0 I0 v17387 x17386.Mag) (hI : ∀ g, I0 g → g < w0.heap.size) (r : Bool), f x17386 = some r →
    Ret Tryd.prog 52 #[(.agg #[(.bool x17386.Neg), v17387])] w0 fun v w1 => v = (.bool r) ∧ Ch [] w0 w1
theorem rational_one_ok (n : Nat) : rational_one_S (rational_one n) := by
  intro w0 I0 x17386 v17387 r17388 hI r h
  unfold rational_one at h
  refine enter Tryd.func52 rfl (Nat.le_of_ble_eq_true rfl) ?_
  have hp : Hp ⟨w0, I0, []⟩ I0 [] w0 := Hp.start hI
  apply go
  apply go
  refine ev_boxI hp rfl rfl ?_
  intro p17391 I17392 w17390 hp hs a17393
  replace r17388 := r17388.step hs
  apply go
  have hs := hp.stp (Ch.drew [] w17390)
  have hp := hp.drew
  replace a17393 := a17393.step hs
  replace r17388 := r17388.step hs
  refine W.held [(0, true), (1, false), (2, false), (3, true), (4, true)] (Stp I17392 w17390.drew I17392) MX (by kernel_rfl) (Stp.refl _ _) ?_
  have hz := Stp.refl I17392 w17390.drew
  refine evh (fun w' hw => rn_load rfl rfl (run_loadVarA T24 rfl (a17393.step hw))) ?_
  obtain ⟨x17403, q17404, h⟩ := bind_some h
  refine ev_call rfl rfl C38 (((integer_Of_ok n) _ _  1 hp.imm _ q17404).mono ?_)
  rintro _ w17405 ⟨I17406, v17407, hv, hq, r17408⟩
  replace hv := hv.symm
  subst hv
  have hs := hq.st
  have hp := hp.join0 hq
  replace hz := hz.trans hs
  replace r17388 := r17388.step hs
  refine ⟨Stp I17406 w17405 I17406, Stp.refl _ _, fun x hx => hz.held hx, ?_⟩
  have hz := Stp.refl I17406 w17405
  obtain ⟨x17409, q17410, h⟩ := bind_some h
  refine ev_call rfl rfl C51 (((integer_Cmp_ok n) _ _  (Int_2.mk x17386.Neg x17386.Mag) v17387 r17388 x17403 v17407 r17408 hp.imm _ q17410).mono ?_)
  rintro _ w17411 ⟨rfl, hc⟩
  have hs := hp.stp hc
  replace hp := hp.ext hc
  replace hz := hz.trans hs
  refine ⟨Stp I17406 w17411 I17406, Stp.refl _ _, fun x hx => hz.held hx, ?_⟩
  have hz := Stp.refl I17406 w17411
  apply go
  obtain rfl := Option.some.inj h
  exact ⟨rfl, hp.ch⟩

end Go.Proofs.YtepadjfmcbjkmaaDoor

namespace Go.Proofs.YtepadjfmcbjkmaaDoor
open Go Go.Proofs.YtepadjfmcbjkmaaDoor.Gw Go.RowKit
set_option linter.unusedVariables false
attribute [local irreducible] Ev EvQ EvS EvH
def strconv_FormatUint_S (f : Int → Int → Option ByteArray) : Prop := ∀ (w0 : World) (I0 : Nat → Prop) (tb : Tb w0 I0 1 .u64 pow10) (x17427 : Int) (x17428 : Int) (hI : ∀ g, I0 g → g < w0.heap.size) (r : ByteArray), f x17427 x17428 = some r →
    Ret Tryd.prog 73 #[(.int .u64 x17427), (.int .i64 x17428)] w0 fun v w1 => v = (.string r) ∧ Ch [] w0 w1

open Go.Sort in
theorem fmt_zero (w : World) (nd : Nat) (hs : nd ≤ 24) : Holds (fun (b : UInt8) => Value.int .u8 (b.toNat : Int)) (w.alloc (.cells Lib.zeros24 103)) w.heap.size 0 (Array.replicate nd (0 : UInt8)) := fun j hj => by
  have hj' : j < nd := by simpa using hj
  refine ⟨?_, World.frozen?_alloc_new _ _ _ _⟩
  rw [World.cell?_alloc_new, Lib.zeros24_at _ (by omega), getElem!_pos _ j hj]
  simp
open Go.Sort in
theorem fmt_below (w : World) (o : Obj) (dk : Array UInt8) (k : Nat) : Below w.heap.size w ((putRow (fun (b : UInt8) => Value.int .u8 (b.toNat : Int)) (w.alloc o) w.heap.size 0 dk).drewN k) := by
  have h1 : Below w.heap.size w (putRow (fun (b : UInt8) => Value.int .u8 (b.toNat : Int)) (w.alloc o) w.heap.size 0 dk) := by
    refine ⟨rfl, rfl, rfl, by rw [size_putRow]; exact (Below.alloc (Below.refl w.heap.size w) (Nat.le_refl _) o).size, fun g hg => ?_⟩
    rw [← Below.heap_alloc w o g hg]
    unfold putRow mapBlock
    dsimp only
    rw [Array.getElem?_modify, if_neg (by omega)]
  refine ⟨?_, ?_, ?_, ?_, ?_⟩
  · exact h1.os
  · exact h1.tape
  · exact h1.output
  · exact h1.size
  · exact h1.block
set_option maxHeartbeats 6400000 in
set_option maxRecDepth 100000 in
theorem fmt_big (u : Nat) (h100 : 100 ≤ u) (hu64 : u < 18446744073709551616) (w : World) (htab : Lib.TabIs Tryd.prog w "internal/strconv.uint64pow10" .u64 Lib.pow10Tab) :
    Calls Tryd.prog 85 #[.int .u64 u, .int .i64 10] w fun e w' => e = .returned (.string ⟨(Lib.decDigits u).toArray⟩) ∧ Below w.heap.size w w' := by
  have hu1 : 1 ≤ u := by omega
  have hnd20 : Lib.nDigits u ≤ 20 := by have := Lib.numDigits_eq u hu1 hu64; split at this <;> omega
  have hb3 : Lib.nDigits u ≤ 24 := by omega
  have hal : Tryd.prog.arrayLen 103 = 24 := by simp [Program.arrayLen, Tryd.underlying103]
  have hsl : ∀ W, (Instr.sliceAt 103 (.pointer (some ⟨w.heap.size, 0, none⟩)) none (some (.int .i64 (Lib.nDigits u : Int))) none).run Tryd.prog W = .ok (.slice (some ⟨w.heap.size, 0, none⟩) (Lib.nDigits u) 24) W := fun W => by
    rw [run_sliceAt_array_h W 103 ⟨w.heap.size, 0, none⟩ (by simp [Program.arrayLen, Program.elem, Tryd.underlying103]) .i64 (Lib.nDigits u : Int) (by omega) (by rw [hal]; omega)]
    go_simp
  have hH0 := fmt_zero w (Lib.nDigits u) (by omega)
  have hfmt := sh_internal_strconv_formatBase10 w.heap.size 0 24 u (Array.replicate (Lib.nDigits u) 0) (w.alloc (.cells Lib.zeros24 103)) hH0 (by rw [Array.size_replicate]; exact Lib.lt_pow_nDigits u) hu64 (by rw [Array.size_replicate]; omega)
  rw [Array.size_replicate] at hfmt
  have HH0 := Lib.hid hH0
  clear hH0 hal
  go_enter Tryd.func85, Tryd.ntmps85
  go_wp2_with (first
    | (go_at_call 96; refine (sh_internal_strconv_numDigits u hu1 hu64 _ (Lib.tabIs_alloc htab _)).mono ?_; rintro e w' ⟨rfl, rfl⟩))
  go_at_call 97
  refine hfmt.mono ?_
  rintro e w' ⟨rfl, k, v', dk, rfl, hF⟩
  have hcv : (convert 92 9 (.slice (some ⟨w.heap.size, 0, none⟩) (Lib.nDigits u) 24)).run Tryd.prog ((Go.Sort.putRow (fun (b : UInt8) => Value.int .u8 (b.toNat : Int)) (w.alloc (.cells Lib.zeros24 103)) w.heap.size 0 dk).drewN k) = .ok (.string ⟨(Lib.decDigits u).toArray⟩) ((Go.Sort.putRow (fun (b : UInt8) => Value.int .u8 (b.toNat : Int)) (w.alloc (.cells Lib.zeros24 103)) w.heap.size 0 dk).drewN k) := by
    have h := run_convert_bytes_back (P := Tryd.prog) ((Go.Sort.putRow (fun (b : UInt8) => Value.int .u8 (b.toNat : Int)) (w.alloc (.cells Lib.zeros24 103)) w.heap.size 0 dk).drewN k) 92 9 5 ⟨w.heap.size, 0, none⟩ 24 (Lib.decDigits u) Tryd.underlying92 Tryd.underlying5 Tryd.underlying9 (fun j hj => by
      rw [Lib.row_is_numeral hF j hj, Lib.add_plain, World.cell?_drewN]
      exact Go.Sort.cell?_putRow (fun (b : UInt8) => Value.int .u8 (b.toNat : Int)) _ w.heap.size 0 _ dk HH0.out (by rw [hF.size, Array.size_replicate]) j (by rw [hF.size]; rw [Lib.decDigits_length] at hj; exact hj))
    rw [Lib.decDigits_length] at h
    exact h
  go_wp2
  go_ret
  exact ⟨rfl, fmt_below w _ dk k⟩
theorem fmt_inner (u : Nat) (hu64 : u < 18446744073709551616) (w : World) (htab : Lib.TabIs Tryd.prog w "internal/strconv.uint64pow10" .u64 Lib.pow10Tab) :
    Calls Tryd.prog 85 #[.int .u64 u, .int .i64 10] w fun e w' => e = .returned (.string ⟨(Lib.decDigits u).toArray⟩) ∧ Below w.heap.size w w' := by
  by_cases h100 : u < 100
  · go_enter Tryd.func85, Tryd.ntmps85
    go_wp2_with (first
      | (go_at_call 95; refine (sh_internal_strconv_small u h100 _).mono ?_; rintro e w' ⟨rfl, rfl⟩))
    go_ret
    exact ⟨rfl, Below.refl _ _⟩
  · exact fmt_big u (by omega) hu64 w htab
theorem strconv_FormatUint_ok (n : Nat) : strconv_FormatUint_S (strconv_FormatUint n) := by
  intro w0 I0 tb x b hI r h
  obtain ⟨rfl, ⟨u, rfl, hu⟩, rfl⟩ := fmtU_some h
  have htab : Lib.TabIs Tryd.prog w0 "internal/strconv.uint64pow10" .u64 Lib.pow10Tab := tb.tab (zs := Lib.pow10Tab) (by kernel_rfl)
  apply ret_below
  go_enter Tryd.func73, Tryd.ntmps73
  go_wp2_with (first
    | (go_at_call 85; refine (fmt_inner u hu _ htab).mono ?_; rintro e w' ⟨rfl, hb⟩))
  go_ret
  exact ⟨rfl, hb⟩

end Go.Proofs.YtepadjfmcbjkmaaDoor

namespace Go.Proofs.YtepadjfmcbjkmaaDoor
open Go Go.Proofs.YtepadjfmcbjkmaaDoor.Gw Go.RowKit
set_option linter.unusedVariables false
attribute [local irreducible] Ev EvQ EvS EvH
def bits_Mul32_S (f : Int → Int → Option (Int × Int)) : Prop := ∀ (w0 : World) (I0 : Nat → Prop) (x17429 : Int) (x17430 : Int) (hI : ∀ g, I0 g → g < w0.heap.size) (r : (Int × Int)), f x17429 x17430 = some r →
    Ret Tryd.prog 99 #[(.int .u32 x17429), (.int .u32 x17430)] w0 fun v w1 => v = (.tuple #[(.int .u32 r.1), (.int .u32 r.2)]) ∧ Ch [] w0 w1
theorem bits_Mul32_ok (n : Nat) : bits_Mul32_S (bits_Mul32 n) := by
  intro w0 I0 x17429 x17430 hI r h
  unfold bits_Mul32 at h
  refine enter Tryd.func99 rfl (Nat.le_of_ble_eq_true rfl) ?_
  have hp : Hp ⟨w0, I0, []⟩ I0 [] w0 := Hp.start hI
  apply go
  apply go
  apply go
  apply go
  refine ev0 (rn_conv rfl rfl U42 Tryd.underlying68) ?_
  refine ev0 (rn_conv rfl rfl U42 Tryd.underlying68) ?_
  apply go
  apply go
  refine ⟨by decide, ?_⟩
  refine ev0 (rn_conv rfl rfl U68 Tryd.underlying42) ?_
  refine ev0 (rn_conv rfl rfl U68 Tryd.underlying42) ?_
  apply go
  obtain rfl := Option.some.inj h
  exact ⟨rfl, hp.ch⟩

end Go.Proofs.YtepadjfmcbjkmaaDoor

namespace Go.Proofs.YtepadjfmcbjkmaaDoor
open Go Go.Proofs.YtepadjfmcbjkmaaDoor.Gw Go.RowKit
set_option linter.unusedVariables false
attribute [local irreducible] Ev EvQ EvS EvH
def bits_Mul64_S (f : Int → Int → Option (Int × Int)) : Prop := ∀ (w0 : World) (I0 : Nat → Prop) (x17431 : Int) (x17432 : Int) (hI : ∀ g, I0 g → g < w0.heap.size) (r : (Int × Int)), f x17431 x17432 = some r →
    Ret Tryd.prog 100 #[(.int .u64 x17431), (.int .u64 x17432)] w0 fun v w1 => v = (.tuple #[(.int .u64 r.1), (.int .u64 r.2)]) ∧ Ch [] w0 w1
theorem bits_Mul64_ok (n : Nat) : bits_Mul64_S (bits_Mul64 n) := by
  intro w0 I0 x17431 x17432 hI r h
  unfold bits_Mul64 at h
  refine enter Tryd.func100 rfl (Nat.le_of_ble_eq_true rfl) ?_
  have hp : Hp ⟨w0, I0, []⟩ I0 [] w0 := Hp.start hI
  apply go
  apply go
  apply go
  apply go
  apply go
  apply go
  refine ⟨by decide, ?_⟩
  apply go
  apply go
  apply go
  apply go
  refine ⟨by decide, ?_⟩
  apply go
  apply go
  apply go
  apply go
  refine ⟨by decide, ?_⟩
  apply go
  apply go
  apply go
  apply go
  refine ⟨by decide, ?_⟩
  apply go
  apply go
  apply go
  apply go
  refine ⟨by decide, ?_⟩
  apply go
  apply go
  apply go
  obtain rfl := Option.some.inj h
  exact ⟨rfl, hp.ch⟩

end Go.Proofs.YtepadjfmcbjkmaaDoor

namespace Go.Proofs.YtepadjfmcbjkmaaDoor
open Go Go.Proofs.YtepadjfmcbjkmaaDoor.Gw Go.RowKit
set_option linter.unusedVariables false
attribute [local irreducible] Ev EvQ EvS EvH
def bits_Mul_S (f : Int → Int → Option (Int × Int)) : Prop := ∀ (w0 : World) (I0 : Nat → Prop) (x17433 : Int) (x17434 : Int) (hI : ∀ g, I0 g → g < w0.heap.size) (r : (Int × Int)), f x17433 x17434 = some r →
    Ret Tryd.prog 86 #[(.int .u64 x17433), (.int .u64 x17434)] w0 fun v w1 => v = (.tuple #[(.int .u64 r.1), (.int .u64 r.2)]) ∧ Ch [] w0 w1
theorem bits_Mul_ok (n : Nat) : bits_Mul_S (bits_Mul n) := by
  intro w0 I0 x17433 x17434 hI r h
  unfold bits_Mul at h
  refine enter Tryd.func86 rfl (Nat.le_of_ble_eq_true rfl) ?_
  have hp : Hp ⟨w0, I0, []⟩ I0 [] w0 := Hp.start hI
  apply go
  apply go
  apply go
  apply go
  apply go
  apply go
  apply go
  obtain ⟨⟨x17435, x17436⟩, q17437, h⟩ := bind_some h
  refine ev_call rfl rfl C100 (((bits_Mul64_ok n) _ _  x17433 x17434 hp.imm _ q17437).mono ?_)
  rintro _ w17438 ⟨rfl, hc⟩
  have hs := hp.stp hc
  replace hp := hp.ext hc
  apply go
  apply go
  apply go
  obtain rfl := Option.some.inj h
  exact ⟨rfl, hp.ch⟩

end Go.Proofs.YtepadjfmcbjkmaaDoor

namespace Go.Proofs.YtepadjfmcbjkmaaDoor
open Go Go.Proofs.YtepadjfmcbjkmaaDoor.Gw Go.RowKit
set_option linter.unusedVariables false
attribute [local irreducible] Ev EvQ EvS EvH
def strings_Repeat_S (f : ByteArray → Int → Option ByteArray) : Prop := ∀ (w0 : World) (I0 : Nat → Prop) (x17439 : ByteArray) (x17440 : Int) (hI : ∀ g, I0 g → g < w0.heap.size) (r : ByteArray), f x17439 x17440 = some r →
    Ret Tryd.prog 74 #[(.string x17439), (.int .i64 x17440)] w0 fun v w1 => v = (.string r) ∧ Ch [] w0 w1

theorem strings_Repeat_ok (n : Nat) : strings_Repeat_S (strings_Repeat n) := by
  intro w0 I0 s c hI r h
  obtain ⟨⟨k, rfl, hk⟩, hs, rfl⟩ := repS_some h
  have hm : s.size * k ≤ 1000000 * 1000000 := Nat.mul_le_mul hs hk
  exact ret_below (sh_strings_Repeat s k w0 (by omega) (by omega))

end Go.Proofs.YtepadjfmcbjkmaaDoor

namespace Go.Proofs.YtepadjfmcbjkmaaDoor
open Go Go.Proofs.YtepadjfmcbjkmaaDoor.Gw Go.RowKit
set_option linter.unusedVariables false
attribute [local irreducible] Ev EvQ EvS EvH vch
def slices_Reversestring_string__S (f : (List ByteArray) → Option (List ByteArray)) : Prop := ∀ (w0 : World) (I0 : Nat → Prop) (x17530 : (List ByteArray)) (v17531 : Value) (e17532 : Ent) (o17533 : OwnS dS 9 w0 I0 v17531 e17532 x17530) (hp : Hp ⟨w0, I0, (blk e17532)⟩ I0 [e17532] w0) (r : (List ByteArray)), f x17530 = some r →
    Ret Tryd.prog 75 #[v17531] w0 fun v w1 => ∃ (I1 : Nat → Prop) (u17534 : Ent), v = (.tuple #[]) ∧ Hp ⟨w0, I0, (blk e17532)⟩ I1 [u17534] w1 ∧ OwnS dS 9 w1 I1 v17531 u17534 r ∧ blk u17534 = blk e17532
theorem slices_Reversestring_string__ok (n : Nat) : slices_Reversestring_string__S (slices_Reversestring_string_ n) := by
  intro w0 I0 x17530 v17531 e17532 o17533 hp r h
  unfold slices_Reversestring_string_ at h
  refine enter Tryd.func75 rfl (Nat.le_of_ble_eq_true rfl) ?_
  have o17533z := o17533
  apply go
  apply go
  refine ev0 (x_lenO rfl rfl Tryd.underlying77 o17533) ?_
  apply go
  refine W.loop h (γ := Ent) (fun s g => [(0, v17531), (2, (.int .i64 (s.2.1))), (3, (.int .i64 (s.2.2)))]) (fun s g w' => Hp ⟨w0, I0, (blk e17532)⟩ I0 [(g)] w' ∧ OwnS dS 9 w' I0 v17531 (g) (s.1)) e17532 (.c rfl (.c rfl (.c rfl .n))) ⟨hp, o17533⟩ ?_
  rintro ⟨x17846, x17850, x17851⟩ e17848 w18169 y18170 ⟨hp, o17849⟩ q18171 q18172
  unfold slices_Reversestring_string__L0 at q18171
  apply go
  apply go
  apply go
  apply go
  refine sel_of (fun hc => ?_) (fun hc => ?_)
  ·
    have q18171 := cond_t q18171 hc
    apply go
    obtain ⟨y18330, q18331, q18171⟩ := bind_some q18171
    refine W.cut (γ := ((List ByteArray) × Ent)) (fun g => [(0, v17531), (2, (.int .i64 x17850)), (3, (.int .i64 x17851))]) (fun g w' => y18330 = (g.1) ∧ Hp ⟨w0, I0, (blk e17532)⟩ I0 [(g.2)] w' ∧ OwnS dS 9 w' I0 v17531 (g.2) (g.1)) ?_ ?_
    ·
      apply go
      have hs := hp.stp (Ch.drew [] w18169)
      have hp := hp.drew
      replace o17849 := o17849.step hs
      refine W.heldG (.q 0 (.q 1 (.q 2 (.q 3 (.q 4 (.q 5 (.q 6 (.q 8 (.q 9 (.q 10 (.l 7 (.l 11 (.q 12 (.l 13 (.q 14 (.l 15 .done .no)) .no)) .no) (.l 11 (.l 7 (.q 12 (.l 13 (.q 14 (.l 15 .done .no)) .no)) .no) .no)))))))))))) (SK (Stp I0 w18169.drew I0) [] []) MX (by kernel_rfl) ⟨Stp.refl _ _, kp_nil⟩ ?_
      have hz := Stp.refl I0 w18169.drew
      refine ⟨SK.same (by kernel_rfl), ?_⟩
      refine ⟨SK.same (by kernel_rfl), ?_⟩
      refine ⟨SK.same (by kernel_rfl), ?_⟩
      refine ⟨SK.same (by kernel_rfl), ?_⟩
      refine ⟨SK.same (by kernel_rfl), ?_⟩
      refine ⟨SK.same (by kernel_rfl), ?_⟩
      refine ⟨SK.same (by kernel_rfl), ?_⟩
      obtain ⟨x18416, q18417, q18331⟩ := bind_some q18331
      refine evh_indexO rfl rfl rfl Tryd.underlying77 T9 o17849 q18417 ?_
      intro g18418 c18419 h18422 d18420 l18421
      refine ⟨SK.same (by kernel_rfl), ?_⟩
      refine ⟨SK.same (by kernel_rfl), ?_⟩
      refine ⟨SK.same (by kernel_rfl), ?_⟩
      obtain ⟨x18424, q18425, q18331⟩ := bind_some q18331
      refine evh_indexO rfl rfl rfl Tryd.underlying77 T9 o17849 q18425 ?_
      intro g18426 c18427 h18430 d18428 l18429
      refine ⟨?_, ?_⟩
      ·
        refine ev (rn_load rfl rfl (run_loadVar1 T9 (hp.cellE (i := 0) rfl h18422 d18420 (j := 0) rfl))) ?_
        refine ⟨SK (Stp I0 w18169.drew I0) [] [], ⟨Stp.refl _ _, kp_nil⟩, fun L x h => ⟨hz.held h.1, h.2⟩, ?_⟩
        have hz := Stp.refl I0 w18169.drew
        refine ⟨?_, trivial⟩
        refine ev (rn_load rfl rfl (run_loadVar1 T9 (hp.cellE (i := 0) rfl h18430 d18428 (j := 0) rfl))) ?_
        refine ⟨SK (Stp I0 w18169.drew I0) [] [], ⟨Stp.refl _ _, kp_nil⟩, fun L x h => ⟨hz.held h.1, h.2⟩, ?_⟩
        have hz := Stp.refl I0 w18169.drew
        refine ⟨SK.same (by kernel_rfl), ?_⟩
        obtain ⟨x18432, q18433, q18331⟩ := bind_some q18331
        refine evh_indexO rfl rfl rfl Tryd.underlying77 T9 o17849 q18433 ?_
        intro g18434 c18435 h18438 d18436 l18437
        refine ⟨?_, trivial⟩
        refine ev_storeE hp (i := 0) rfl h18438 rfl rfl rfl T9 o17849 q18433 (x0 := x18416) rfl ?_
        intro e18441 w18440 hp hs o18442
        replace hz := hz.trans hs
        refine ⟨SK (Stp I0 w18440 I0) [] [], ⟨Stp.refl _ _, kp_nil⟩, fun L x h => ⟨hz.held h.1, h.2⟩, ?_⟩
        have hz := Stp.refl I0 w18440
        refine ⟨SK.same (by kernel_rfl), ?_⟩
        obtain ⟨x18445, q18446, q18331⟩ := bind_some q18331
        refine evh_indexO rfl rfl rfl Tryd.underlying77 T9 o18442 q18446 ?_
        intro g18447 c18448 h18451 d18449 l18450
        refine ⟨?_, trivial⟩
        refine ev_storeE hp (i := 0) rfl h18451 rfl rfl rfl T9 o18442 q18446 (x0 := x18424) rfl ?_
        intro e18454 w18453 hp hs o18455
        replace hz := hz.trans hs
        refine ⟨SK (Stp I0 w18453 I0) [] [], ⟨Stp.refl _ _, kp_nil⟩, fun L x h => ⟨hz.held h.1, h.2⟩, ?_⟩
        have hz := Stp.refl I0 w18453
        obtain rfl := Option.some.inj q18331
        exact ⟨((upd (upd x17846 x17850 x18416) x17851 x18424), e18454), (.c rfl (.c rfl (.c rfl .n))), rfl, hp, o18455⟩
      refine ⟨?_, trivial⟩
      refine ev (rn_load rfl rfl (run_loadVar1 T9 (hp.cellE (i := 0) rfl h18430 d18428 (j := 0) rfl))) ?_
      refine ⟨SK (Stp I0 w18169.drew I0) [] [], ⟨Stp.refl _ _, kp_nil⟩, fun L x h => ⟨hz.held h.1, h.2⟩, ?_⟩
      have hz := Stp.refl I0 w18169.drew
      refine ⟨?_, trivial⟩
      refine ev (rn_load rfl rfl (run_loadVar1 T9 (hp.cellE (i := 0) rfl h18422 d18420 (j := 0) rfl))) ?_
      refine ⟨SK (Stp I0 w18169.drew I0) [] [], ⟨Stp.refl _ _, kp_nil⟩, fun L x h => ⟨hz.held h.1, h.2⟩, ?_⟩
      have hz := Stp.refl I0 w18169.drew
      refine ⟨SK.same (by kernel_rfl), ?_⟩
      obtain ⟨x18458, q18459, q18331⟩ := bind_some q18331
      refine evh_indexO rfl rfl rfl Tryd.underlying77 T9 o17849 q18459 ?_
      intro g18460 c18461 h18464 d18462 l18463
      refine ⟨?_, trivial⟩
      refine ev_storeE hp (i := 0) rfl h18464 rfl rfl rfl T9 o17849 q18459 (x0 := x18416) rfl ?_
      intro e18467 w18466 hp hs o18468
      replace hz := hz.trans hs
      refine ⟨SK (Stp I0 w18466 I0) [] [], ⟨Stp.refl _ _, kp_nil⟩, fun L x h => ⟨hz.held h.1, h.2⟩, ?_⟩
      have hz := Stp.refl I0 w18466
      refine ⟨SK.same (by kernel_rfl), ?_⟩
      obtain ⟨x18471, q18472, q18331⟩ := bind_some q18331
      refine evh_indexO rfl rfl rfl Tryd.underlying77 T9 o18468 q18472 ?_
      intro g18473 c18474 h18477 d18475 l18476
      refine ⟨?_, trivial⟩
      refine ev_storeE hp (i := 0) rfl h18477 rfl rfl rfl T9 o18468 q18472 (x0 := x18424) rfl ?_
      intro e18480 w18479 hp hs o18481
      replace hz := hz.trans hs
      refine ⟨SK (Stp I0 w18479 I0) [] [], ⟨Stp.refl _ _, kp_nil⟩, fun L x h => ⟨hz.held h.1, h.2⟩, ?_⟩
      have hz := Stp.refl I0 w18479
      obtain rfl := Option.some.inj q18331
      exact ⟨((upd (upd x17846 x17850 x18416) x17851 x18424), e18480), (.c rfl (.c rfl (.c rfl .n))), rfl, hp, o18481⟩
    ·
      rintro ⟨x18325, e18327⟩ w18329 ⟨hy, hp, o18328⟩
      replace hy := hy.symm
      subst hy
      apply go
      exact ⟨_, (Option.some.inj q18171).symm, e18327, (.c rfl (.c rfl (.c rfl .n))), ⟨hp, o18328⟩⟩
  ·
    have q18171 := cond_f q18171 hc
    apply go
    have q18484 := congrArg some (q18172 _ (Option.some.inj q18171).symm)
    obtain rfl := Option.some.inj q18484
    exact ⟨I0, e17848, rfl, hp, o17849, (OwnS.blk o17533z o17849)⟩

end Go.Proofs.YtepadjfmcbjkmaaDoor

namespace Go.Proofs.YtepadjfmcbjkmaaDoor
open Go Go.Proofs.YtepadjfmcbjkmaaDoor.Gw Go.RowKit
set_option linter.unusedVariables false
attribute [local irreducible] Ev EvQ EvS EvH
def strings_Join_S (f : (List ByteArray) → ByteArray → Option ByteArray) : Prop := ∀ (w0 : World) (I0 : Nat → Prop) (x18485 : (List ByteArray)) (v18486 : Value) (r18487 : RepS dS w0 I0 v18486 x18485) (x18488 : ByteArray) (hI : ∀ g, I0 g → g < w0.heap.size) (r : ByteArray), f x18485 x18488 = some r →
    Ret Tryd.prog 76 #[v18486, (.string x18488)] w0 fun v w1 => v = (.string r) ∧ Ch [] w0 w1

theorem strings_Join_ok (n : Nat) : strings_Join_S (strings_Join n) := by
  intro w0 I0 xs v hr sep hI r h
  obtain ⟨hN, hL, rfl⟩ := joinS_some h
  rcases Nat.eq_zero_or_pos xs.length with h0 | h0
  · obtain rfl := List.eq_nil_of_length_eq_zero h0
    obtain ⟨a, c, rfl, _, _⟩ := hr
    exact ret_same (sh_strings_Join_none a c sep w0)
  · obtain ⟨b, o, c, rfl, hc, hb, hcells⟩ := hr.strs h0
    exact ret_below (sh_strings_Join b o c xs sep w0 hcells (hI b hb) hN hc hL)

end Go.Proofs.YtepadjfmcbjkmaaDoor

namespace Go.Proofs.YtepadjfmcbjkmaaDoor
open Go Go.Proofs.YtepadjfmcbjkmaaDoor.Gw Go.RowKit
set_option linter.unusedVariables false
attribute [local irreducible] Ev EvQ EvS EvH
def integer_Text_S (f : Int_2 → Option ByteArray) : Prop := ∀ (w0 : World) (I0 : Nat → Prop) (tb : Tb w0 I0 1 .u64 pow10) (x18489 : Int_2) (v18490 : Value) (r18491 : RepS (dI .u32) w0 I0 v18490 x18489.Mag) (hI : ∀ g, I0 g → g < w0.heap.size) (r : ByteArray), f x18489 = some r →
    Ret Tryd.prog 54 #[(.agg #[(.bool x18489.Neg), v18490])] w0 fun v w1 => v = (.string r) ∧ Ch [] w0 w1
theorem integer_Text_ok (n : Nat) : integer_Text_S (integer_Text n) := by
  intro w0 I0 tb x18489 v18490 r18491 hI r h
  unfold integer_Text at h
  refine enter Tryd.func54 rfl (Nat.le_of_ble_eq_true rfl) ?_
  have hp : Hp ⟨w0, I0, []⟩ I0 [] w0 := Hp.start hI
  apply go
  apply go
  refine ev_boxI hp rfl rfl ?_
  intro p18494 I18495 w18493 hp hs a18496
  replace r18491 := r18491.step hs
  replace tb := tb.step hs
  apply go
  apply go
  refine ev0 (rn_field rfl rfl FO24_1) ?_
  refine ev (rn_load rfl rfl (run_loadVar1 T22 (a18496.2 1 _ rfl))) ?_
  obtain ⟨x18497, q18498, h⟩ := bind_some h
  refine ev_call rfl rfl C60 (((integer_trim_ok n) _ _  x18489.Mag v18490 r18491 hp.imm _ q18498).mono ?_)
  rintro _ w18499 ⟨I18500, v18501, hv, hq, r18502⟩
  replace hv := hv.symm
  subst hv
  have hs := hq.st
  have hp := hp.join0 hq
  replace a18496 := a18496.step hs
  replace r18491 := r18491.step hs
  replace tb := tb.step hs
  obtain ⟨x18503, q18504, h⟩ := bind_some h
  refine ev_call rfl rfl C61 (((slices_Cloneuint32_uint32__ok n) _ _  x18497 v18501 r18502 hp.imm _ q18504).mono ?_)
  rintro _ w18505 ⟨I18506, v18507, hv, hq, r18508⟩
  replace hv := hv.symm
  subst hv
  have hs := hq.st
  have hp := hp.join0 hq
  replace a18496 := a18496.step hs
  replace r18491 := r18491.step hs
  replace tb := tb.step hs
  apply go
  apply go
  apply go
  refine ev0 (rn_len rfl rfl Tryd.underlying22 r18508) ?_
  apply go
  refine sel_of (fun hc => ?_) (fun hc => ?_)
  ·
    have h := cond_t h hc
    apply go
    apply go
    apply go
    obtain rfl := Option.some.inj h
    exact ⟨rfl, hp.ch⟩
  ·
    have h := cond_f h hc
    apply go
    apply go
    apply go
    obtain ⟨y18652, q18653, h⟩ := bind_some h
    refine W.cut (γ := ((List ByteArray) × Value × Ent × (Nat → Prop))) (fun g => [(1, (.pointer (some (p18494)))), (4, (g.2.1))]) (fun g w' => y18652 = (g.1) ∧ Hp ⟨w0, I0, []⟩ (g.2.2.2) [(g.2.2.1)] w' ∧ RepS (dI .u32) w' (g.2.2.2) v18490 x18489.Mag ∧ At w' (g.2.2.2) p18494 [(.bool x18489.Neg), v18490] ∧ OwnS dS 9 w' (g.2.2.2) (g.2.1) (g.2.2.1) (g.1) ∧ Tb w' (g.2.2.2) 1 .u64 pow10) ?_ ?_
    ·
      apply go
      have hp := hp.none_
      have o18748 := OwnS.nil dS 9 w18505 I18506
      refine W.loop q18653 (γ := (Value × Value × Ent × (Nat → Prop))) (fun s g => [(1, (.pointer (some (p18494)))), (3, (g.1)), (4, (g.2.1))]) (fun s g w' => Hp ⟨w0, I0, []⟩ (g.2.2.2) [(g.2.2.1)] w' ∧ RepS (dI .u32) w' (g.2.2.2) v18490 x18489.Mag ∧ At w' (g.2.2.2) p18494 [(.bool x18489.Neg), v18490] ∧ RepS (dI .u32) w' (g.2.2.2) (g.1) (s.1) ∧ OwnS dS 9 w' (g.2.2.2) (g.2.1) (g.2.2.1) (s.2) ∧ Tb w' (g.2.2.2) 1 .u64 pow10) (v18507, (.slice none 0 0), none, I18506) (.c rfl (.c rfl (.c rfl .n))) ⟨hp, r18491, a18496, r18508, o18748, tb⟩ ?_
      rintro ⟨x18693, x18696⟩ ⟨v18694, v18697, e18698, I18700⟩ w18747 y18749 ⟨hp, r18491, a18496, r18695, o18699, tb⟩ q18750 q18751
      unfold integer_Text_L1 at q18750
      apply go
      apply go
      apply go
      refine ev0 (rn_len rfl rfl Tryd.underlying22 r18695) ?_
      apply go
      refine sel_of (fun hc => ?_) (fun hc => ?_)
      ·
        have q18750 := cond_t q18750 hc
        apply go
        apply go
        apply go
        apply go
        apply go
        apply go
        obtain ⟨⟨x18752, x18753⟩, q18754, q18750⟩ := bind_some q18750
        refine ev_call rfl rfl C72 (((integer_short_ok n) _ _  x18693 v18694 r18695 1000000000 hp.imm _ q18754).mono ?_)
        rintro _ w18755 ⟨I18756, v18757, hv, hq, r18758⟩
        replace hv := hv.symm
        subst hv
        have hs := hq.st
        have hp := hp.join0 hq
        replace a18496 := a18496.step hs
        replace r18491 := r18491.step hs
        replace o18699 := o18699.step hs
        replace tb := tb.step hs
        apply go
        apply go
        obtain ⟨x18759, q18760, q18750⟩ := bind_some q18750
        refine ev_call rfl rfl C60 (((integer_trim_ok n) _ _  x18752 v18757 r18758 hp.imm _ q18760).mono ?_)
        rintro _ w18761 ⟨I18762, v18763, hv, hq, r18764⟩
        replace hv := hv.symm
        subst hv
        have hs := hq.st
        have hp := hp.join0 hq
        replace a18496 := a18496.step hs
        replace r18491 := r18491.step hs
        replace o18699 := o18699.step hs
        replace tb := tb.step hs
        apply go
        apply go
        refine ev0 (rn_conv rfl rfl U42 Tryd.underlying68) ?_
        obtain ⟨x18765, q18766, q18750⟩ := bind_some q18750
        refine ev_call rfl rfl C73 (((strconv_FormatUint_ok n) _ _ tb (IntKind.u64.wrap x18753) 10 hp.imm _ q18766).mono ?_)
        rintro _ w18767 ⟨rfl, hc⟩
        have hs := hp.stp hc
        replace hp := hp.ext hc
        replace a18496 := a18496.step hs
        replace r18491 := r18491.step hs
        replace o18699 := o18699.step hs
        replace r18764 := r18764.step hs
        replace tb := tb.step hs
        obtain ⟨y18774, q18775, q18750⟩ := bind_some q18750
        refine W.cut (γ := ByteArray) (fun g => [(1, (.pointer (some (p18494)))), (3, v18763), (4, v18697), (6, (.string (g)))]) (fun g w' => y18774 = (g) ∧ Hp ⟨w0, I0, []⟩ I18762 [e18698] w' ∧ RepS (dI .u32) w' I18762 v18490 x18489.Mag ∧ At w' I18762 p18494 [(.bool x18489.Neg), v18490] ∧ RepS (dI .u32) w' I18762 v18763 x18759 ∧ OwnS dS 9 w' I18762 v18697 e18698 x18696 ∧ Tb w' I18762 1 .u64 pow10) ?_ ?_
        ·
          apply go
          apply go
          refine ev0 (rn_len rfl rfl Tryd.underlying22 r18764) ?_
          apply go
          refine sel_of (fun hc => ?_) (fun hc => ?_)
          ·
            have q18775 := cond_t q18775 hc
            apply go
            refine ev0 (rn_lenS rfl rfl Tryd.underlying9) ?_
            obtain ⟨x18776, q18777, q18775⟩ := bind_some q18775
            refine ev_call rfl rfl C74 (((strings_Repeat_ok n) _ _  (ByteArray.mk #[48]) (IntKind.i64.wrap (9 - (x18765.size : Int))) hp.imm _ q18777).mono ?_)
            rintro _ w18778 ⟨rfl, hc⟩
            have hs := hp.stp hc
            replace hp := hp.ext hc
            replace a18496 := a18496.step hs
            replace r18491 := r18491.step hs
            replace o18699 := o18699.step hs
            replace r18764 := r18764.step hs
            replace tb := tb.step hs
            obtain ⟨q18779, _, q18775⟩ := need_some q18775
            refine ⟨q18779, ?_⟩
            obtain rfl := Option.some.inj q18775
            exact ⟨(x18776 ++ x18765), (.c rfl (.c rfl (.c rfl (.c rfl .n)))), rfl, hp, r18491, a18496, r18764, o18699, tb⟩
          ·
            have q18775 := cond_f q18775 hc
            apply go
            obtain rfl := Option.some.inj q18775
            exact ⟨x18765, (.c rfl (.c rfl (.c rfl (.c rfl .n)))), rfl, hp, r18491, a18496, r18764, o18699, tb⟩
        ·
          rintro x18772 w18773 ⟨hy, hp, r18491, a18496, r18764, o18699, tb⟩
          replace hy := hy.symm
          subst hy
          apply go
          refine ev_litN (d := dS) (xs := [x18772]) (cs := [(.string x18772)]) hp rfl rfl Tryd.underlying77 T9 (by decide) rfl rfl (Elems.cons (d := dS) (xs := _) rfl (Elems.nil _ _ _ _)) ?_
          intro v18780 I18782 w18781 hp hs r18783
          replace a18496 := a18496.step hs
          replace r18491 := r18491.step hs
          replace r18764 := r18764.step hs
          replace o18699 := o18699.step hs
          replace tb := tb.step hs
          obtain ⟨x18784, q18785, q18750⟩ := bind_some q18750
          refine ev_append hp (i := 0) rfl rfl rfl rfl Tryd.underlying77 T9 rfl rfl o18699 r18783 q18785 ?_
          rintro v18786 e18787 w18788 hp hs o18789
          replace a18496 := a18496.step hs
          replace r18491 := r18491.step hs
          replace r18764 := r18764.step hs
          replace tb := tb.step hs
          exact ⟨_, (Option.some.inj q18750).symm, (v18763, v18786, e18787, I18782), (.c rfl (.c rfl (.c rfl .n))), ⟨hp, r18491, a18496, r18764, o18789, tb⟩⟩
      ·
        have q18750 := cond_f q18750 hc
        apply go
        have q18790 := congrArg some (q18751 _ (Option.some.inj q18750).symm)
        obtain rfl := Option.some.inj q18790
        exact ⟨(x18696, v18697, e18698, I18700), (.c rfl (.c rfl .n)), rfl, hp, r18491, a18496, o18699, tb⟩
    ·
      rintro ⟨x18646, v18647, e18648, I18650⟩ w18651 ⟨hy, hp, r18491, a18496, o18649, tb⟩
      replace hy := hy.symm
      subst hy
      obtain ⟨y18807, q18808, h⟩ := bind_some h
      refine W.cut (γ := ((List ByteArray) × Value × Ent × (Nat → Prop))) (fun g => [(4, (g.2.1))]) (fun g w' => y18807 = (g.1) ∧ Hp ⟨w0, I0, []⟩ (g.2.2.2) [(g.2.2.1)] w' ∧ OwnS dS 9 w' (g.2.2.2) (g.2.1) (g.2.2.1) (g.1) ∧ Tb w' (g.2.2.2) 1 .u64 pow10) ?_ ?_
      ·
        apply go
        apply go
        refine ev0 (rn_field rfl rfl FO24_0) ?_
        refine ev (rn_load rfl rfl (run_loadVar1 T4 (a18496.2 0 _ rfl))) ?_
        apply go
        refine sel_of (fun hc => ?_) (fun hc => ?_)
        ·
          have q18808 := cond_t q18808 hc
          apply go
          refine ev_litN (d := dS) (xs := [(ByteArray.mk #[45])]) (cs := [(.string (ByteArray.mk #[45]))]) hp rfl rfl Tryd.underlying77 T9 (by decide) rfl rfl (Elems.cons (d := dS) (xs := _) rfl (Elems.nil _ _ _ _)) ?_
          intro v18809 I18811 w18810 hp hs r18812
          replace o18649 := o18649.step hs
          replace tb := tb.step hs
          obtain ⟨x18813, q18814, q18808⟩ := bind_some q18808
          refine ev_append hp (i := 0) rfl rfl rfl rfl Tryd.underlying77 T9 rfl rfl o18649 r18812 q18814 ?_
          rintro v18815 e18816 w18817 hp hs o18818
          replace tb := tb.step hs
          obtain rfl := Option.some.inj q18808
          exact ⟨(x18813, v18815, e18816, I18811), (.c rfl .n), rfl, hp, o18818, tb⟩
        ·
          have q18808 := cond_f q18808 hc
          apply go
          obtain rfl := Option.some.inj q18808
          exact ⟨(x18646, v18647, e18648, I18650), (.c rfl .n), rfl, hp, o18649, tb⟩
      ·
        rintro ⟨x18801, v18802, e18803, I18805⟩ w18806 ⟨hy, hp, o18804, tb⟩
        replace hy := hy.symm
        subst hy
        apply go
        apply go
        obtain ⟨x18819, q18820, h⟩ := bind_some h
        refine ev_call rfl rfl C75 (((slices_Reversestring_string__ok n) _ _  x18801 v18802 e18803 o18804 (hp.lend (i := 0) rfl) _ q18820).mono ?_)
        rintro _ w18821 ⟨I18822, e18823, hv, hq, o18824, hsame⟩
        replace hv := hv.symm
        subst hv
        have hs := hq.st
        have hp := hp.backO (i := 0) rfl hq hsame
        replace tb := tb.step hs
        apply go
        apply go
        have r18825 := o18824.frz hp (i := 0) rfl
        obtain ⟨hp, hs⟩ := freeze_hp hp (i := 0) rfl
        replace tb := tb.step hs
        have hp := hp.sel [] (by decide)
        obtain ⟨x18826, q18827, h⟩ := bind_some h
        refine ev_call rfl rfl C76 (((strings_Join_ok n) _ _  x18819 v18802 r18825 (ByteArray.mk #[]) hp.imm _ q18827).mono ?_)
        rintro _ w18828 ⟨rfl, hc⟩
        have hs := hp.stp hc
        replace hp := hp.ext hc
        replace tb := tb.step hs
        apply go
        obtain rfl := Option.some.inj h
        exact ⟨rfl, hp.ch⟩

end Go.Proofs.YtepadjfmcbjkmaaDoor

namespace Go.Proofs.YtepadjfmcbjkmaaDoor
open Go Go.Proofs.YtepadjfmcbjkmaaDoor.Gw Go.RowKit
set_option linter.unusedVariables false
attribute [local irreducible] Ev EvQ EvS EvH
def rational_Text_S (f : Rational → Option ByteArray) : Prop := ∀ (w0 : World) (I0 : Nat → Prop) (tb : Tb w0 I0 1 .u64 pow10) (x18829 : Rational) (v18830 : Value) (r18831 : RepS (dI .u32) w0 I0 v18830 x18829.Num.Mag) (v18832 : Value) (r18833 : RepS (dI .u32) w0 I0 v18832 x18829.Den.Mag) (hI : ∀ g, I0 g → g < w0.heap.size) (r : ByteArray), f x18829 = some r →
    Ret Tryd.prog 35 #[(.agg #[(.bool x18829.Num.Neg), v18830, (.bool x18829.Den.Neg), v18832])] w0 fun v w1 => v = (.string r) ∧ Ch [] w0 w1
theorem rational_Text_ok (n : Nat) : rational_Text_S (rational_Text n) := by
  intro w0 I0 tb x18829 v18830 r18831 v18832 r18833 hI r h
  unfold rational_Text at h
  refine enter Tryd.func35 rfl (Nat.le_of_ble_eq_true rfl) ?_
  have hp : Hp ⟨w0, I0, []⟩ I0 [] w0 := Hp.start hI
  apply go
  apply go
  refine ev_box hp rfl rfl ?_
  intro g18834 w18835 hp hs
  replace r18831 := r18831.step hs
  replace r18833 := r18833.step hs
  replace tb := tb.step hs
  apply go
  apply go
  refine ev (rn_load rfl rfl (run_loadVarA T26 rfl (hp.at_ (i := 0) rfl))) ?_
  obtain ⟨x18836, q18837, h⟩ := bind_some h
  refine ev_call rfl rfl C16 (((rational_Norm_ok n) _ _  (Rational.mk (Int_2.mk x18829.Num.Neg x18829.Num.Mag) (Int_2.mk x18829.Den.Neg x18829.Den.Mag)) v18830 r18831 v18832 r18833 hp.imm _ q18837).mono ?_)
  rintro _ w18838 ⟨I18839, v18840, v18842, hv, hq, r18841, r18843⟩
  replace hv := hv.symm
  subst hv
  have hs := hq.st
  have hp := hp.join0 hq
  replace r18831 := r18831.step hs
  replace r18833 := r18833.step hs
  replace tb := tb.step hs
  refine ev_storeA hp (i := 0) (off := 0) (vs := [(.bool x18836.Num.Neg), v18840, (.bool x18836.Den.Neg), v18842]) rfl rfl rfl rfl T26 rfl (Nat.le_of_ble_eq_true rfl) (ones_cons rfl (ones_cons r18841.one (ones_cons rfl (ones_cons r18843.one ones_nil)))) ?_
  intro w18844 hp hs
  replace r18841 := r18841.step hs
  replace r18843 := r18843.step hs
  replace tb := tb.step hs
  apply go
  apply go
  apply go
  refine ev0 (rn_field rfl rfl FO26_1) ?_
  refine ev (rn_load rfl rfl (run_loadVarA T24 rfl (((hp.at_ (i := 0) rfl).drop 2).take 2))) ?_
  obtain ⟨x18845, q18846, h⟩ := bind_some h
  refine ev_call rfl rfl C52 (((rational_one_ok n) _ _  (Int_2.mk x18836.Den.Neg x18836.Den.Mag) v18842 r18843 hp.imm _ q18846).mono ?_)
  rintro _ w18847 ⟨rfl, hc⟩
  have hs := hp.stp hc
  replace hp := hp.ext hc
  replace r18841 := r18841.step hs
  replace r18843 := r18843.step hs
  replace tb := tb.step hs
  apply go
  refine sel_of (fun hc => ?_) (fun hc => ?_)
  ·
    have h := cond_t h hc
    apply go
    apply go
    refine ev0 (rn_field rfl rfl FO26_0) ?_
    refine ev (rn_load rfl rfl (run_loadVarA T24 rfl (((hp.at_ (i := 0) rfl).drop 0).take 2))) ?_
    obtain ⟨x18848, q18849, h⟩ := bind_some h
    refine ev_call rfl rfl C54 (((integer_Text_ok n) _ _ tb (Int_2.mk x18836.Num.Neg x18836.Num.Mag) v18840 r18841 hp.imm _ q18849).mono ?_)
    rintro _ w18850 ⟨rfl, hc⟩
    have hs := hp.stp hc
    replace hp := hp.ext hc
    replace r18841 := r18841.step hs
    replace r18843 := r18843.step hs
    replace tb := tb.step hs
    apply go
    obtain rfl := Option.some.inj h
    exact ⟨rfl, hp.ch⟩
  ·
    have h := cond_f h hc
    apply go
    apply go
    refine W.quiet (fun w' => Ch [] w18847 w') MX (by kernel_rfl) (Ch.drew [] w18847) ?_
    refine evq0 (rn_field rfl rfl FO26_0) ?_
    refine evq (fun w' hw => rn_load rfl rfl (run_loadVarA T24 rfl ((((hp.ext hw).at_ (i := 0) rfl).drop 0).take 2))) ?_
    obtain ⟨x18851, q18852, h⟩ := bind_some h
    refine evq_call rfl rfl C54 (fun w' hw => ((integer_Text_ok n) _ _ (tb.step (hp.stp hw)) (Int_2.mk x18836.Num.Neg x18836.Num.Mag) v18840 (r18841.step (hp.stp hw)) (hp.ext hw).imm _ q18852).mono fun _ _ ⟨e, hc⟩ => ⟨e, hw.trans hc⟩) ?_
    obtain ⟨q18853, _, h⟩ := need_some h
    refine ⟨q18853, ?_⟩
    refine evq0 (rn_field rfl rfl FO26_1) ?_
    refine evq (fun w' hw => rn_load rfl rfl (run_loadVarA T24 rfl ((((hp.ext hw).at_ (i := 0) rfl).drop 2).take 2))) ?_
    obtain ⟨x18854, q18855, h⟩ := bind_some h
    refine evq_call rfl rfl C54 (fun w' hw => ((integer_Text_ok n) _ _ (tb.step (hp.stp hw)) (Int_2.mk x18836.Den.Neg x18836.Den.Mag) v18842 (r18843.step (hp.stp hw)) (hp.ext hw).imm _ q18855).mono fun _ _ ⟨e, hc⟩ => ⟨e, hw.trans hc⟩) ?_
    obtain ⟨q18856, _, h⟩ := need_some h
    refine ⟨q18856, ?_⟩
    intro w18857 hc
    have hs := hp.stp hc
    replace hp := hp.ext hc
    replace r18841 := r18841.step hs
    replace r18843 := r18843.step hs
    replace tb := tb.step hs
    apply go
    obtain rfl := Option.some.inj h
    exact ⟨rfl, hp.ch⟩

end Go.Proofs.YtepadjfmcbjkmaaDoor

namespace Go.Proofs.YtepadjfmcbjkmaaDoor
open Go Go.Proofs.YtepadjfmcbjkmaaDoor.Gw Go.RowKit
set_option linter.unusedVariables false
attribute [local irreducible] Ev EvQ EvS EvH
def law02_awake_S (f : Option Bool) : Prop := ∀ (w0 : World) (I0 : Nat → Prop) (tb : Tb w0 I0 1 .u64 pow10)  (hI : ∀ g, I0 g → g < w0.heap.size) (r : Bool), f  = some r →
    Ret Tryd.prog 8 #[] w0 fun v w1 => v = (.bool r) ∧ Ch [] w0 w1
theorem law02_awake_ok (n : Nat) : law02_awake_S (law02_awake n) := by
  intro w0 I0 tb hI r h
  unfold law02_awake at h
  refine enter Tryd.func8 rfl (Nat.le_of_ble_eq_true rfl) ?_
  have hp : Hp ⟨w0, I0, []⟩ I0 [] w0 := Hp.start hI
  apply go
  apply go
  obtain ⟨y21857, q21858, h⟩ := bind_some h
  refine W.cut (γ := (Bool × (Nat → Prop))) (fun g => [(0, (.bool (g.1)))]) (fun g w' => y21857 = (g.1) ∧ Hp ⟨w0, I0, []⟩ (g.2) [] w' ∧ Tb w' (g.2) 1 .u64 pow10) ?_ ?_
  ·
    apply go
    obtain ⟨x21859, q21860, q21858⟩ := bind_some q21858
    refine ev_call rfl rfl C12 (((rational_Of_ok n) _ _  6 (-4) hp.imm _ q21860).mono ?_)
    rintro _ w21861 ⟨I21862, v21863, v21865, hv, hq, r21864, r21866⟩
    replace hv := hv.symm
    subst hv
    have hs := hq.st
    have hp := hp.join0 hq
    replace tb := tb.step hs
    obtain ⟨x21867, q21868, q21858⟩ := bind_some q21858
    refine ev_call rfl rfl C35 (((rational_Text_ok n) _ _ tb x21859 v21863 r21864 v21865 r21866 hp.imm _ q21868).mono ?_)
    rintro _ w21869 ⟨rfl, hc⟩
    have hs := hp.stp hc
    replace hp := hp.ext hc
    replace tb := tb.step hs
    refine sel_of (fun hc => ?_) (fun hc => ?_)
    ·
      have q21858 := cond_t q21858 hc
      obtain ⟨x21870, q21871, q21858⟩ := bind_some q21858
      refine ev_call rfl rfl C12 (((rational_Of_ok n) _ _  1 2 hp.imm _ q21871).mono ?_)
      rintro _ w21872 ⟨I21873, v21874, v21876, hv, hq, r21875, r21877⟩
      replace hv := hv.symm
      subst hv
      have hs := hq.st
      have hp := hp.join0 hq
      replace tb := tb.step hs
      obtain ⟨x21878, q21879, q21858⟩ := bind_some q21858
      refine ev_call rfl rfl C12 (((rational_Of_ok n) _ _  1 3 hp.imm _ q21879).mono ?_)
      rintro _ w21880 ⟨I21881, v21882, v21884, hv, hq, r21883, r21885⟩
      replace hv := hv.symm
      subst hv
      have hs := hq.st
      have hp := hp.join0 hq
      replace r21875 := r21875.step hs
      replace r21877 := r21877.step hs
      replace tb := tb.step hs
      obtain ⟨x21886, q21887, q21858⟩ := bind_some q21858
      refine ev_call rfl rfl C19 (((rational_Add_ok n) _ _  x21870 v21874 r21875 v21876 r21877 x21878 v21882 r21883 v21884 r21885 hp.imm _ q21887).mono ?_)
      rintro _ w21888 ⟨I21889, v21890, v21892, hv, hq, r21891, r21893⟩
      replace hv := hv.symm
      subst hv
      have hs := hq.st
      have hp := hp.join0 hq
      replace tb := tb.step hs
      obtain ⟨x21894, q21895, q21858⟩ := bind_some q21858
      refine ev_call rfl rfl C35 (((rational_Text_ok n) _ _ tb x21886 v21890 r21891 v21892 r21893 hp.imm _ q21895).mono ?_)
      rintro _ w21896 ⟨rfl, hc⟩
      have hs := hp.stp hc
      replace hp := hp.ext hc
      replace tb := tb.step hs
      obtain rfl := Option.some.inj q21858
      exact ⟨((x21894.toList == (ByteArray.mk #[53, 47, 54]).toList), I21889), (.c rfl .n), rfl, hp, tb⟩
    ·
      have q21858 := cond_f q21858 hc
      obtain rfl := Option.some.inj q21858
      exact ⟨(false, I21862), (.c rfl .n), rfl, hp, tb⟩
  ·
    rintro ⟨x21854, I21855⟩ w21856 ⟨hy, hp, tb⟩
    replace hy := hy.symm
    subst hy
    apply go
    obtain rfl := Option.some.inj h
    exact ⟨rfl, hp.ch⟩

end Go.Proofs.YtepadjfmcbjkmaaDoor

namespace Go.Proofs.YtepadjfmcbjkmaaDoor
open Go Go.Proofs.YtepadjfmcbjkmaaDoor.Gw Go.RowKit
set_option linter.unusedVariables false
attribute [local irreducible] Ev EvQ EvS EvH
def ref02_Few_S (f : (List Rational) → Option Bool) : Prop := ∀ (w0 : World) (I0 : Nat → Prop) (x21897 : (List Rational)) (v21898 : Value) (r21899 : RepS dRational w0 I0 v21898 x21897) (hI : ∀ g, I0 g → g < w0.heap.size) (r : Bool), f x21897 = some r →
    Ret Tryd.prog 36 #[v21898] w0 fun v w1 => v = (.bool r) ∧ Ch [] w0 w1
theorem ref02_Few_ok (n : Nat) : ref02_Few_S (ref02_Few n) := by
  intro w0 I0 x21897 v21898 r21899 hI r h
  unfold ref02_Few at h
  refine enter Tryd.func36 rfl (Nat.le_of_ble_eq_true rfl) ?_
  have hp : Hp ⟨w0, I0, []⟩ I0 [] w0 := Hp.start hI
  apply go
  apply go
  apply go
  apply go
  obtain ⟨y21983, q21984, h⟩ := bind_some h
  refine W.cut (γ := Int) (fun g => [(0, v21898), (3, (.int .i64 (g)))]) (fun g w' => y21983 = (g) ∧ Hp ⟨w0, I0, []⟩ I0 [] w' ∧ RepS dRational w' I0 v21898 x21897) ?_ ?_
  ·
    apply go
    apply go
    apply go
    refine W.loop q21984 (γ := Unit) (fun s _ => [(0, v21898), (3, (.int .i64 (s.1))), (4, (.int .i64 (s.2)))]) (fun s _ w' => Hp ⟨w0, I0, []⟩ I0 [] w' ∧ RepS dRational w' I0 v21898 x21897) () (.c rfl (.c rfl (.c rfl .n))) ⟨hp, r21899⟩ ?_
    rintro ⟨x22009, x22010⟩ ⟨⟩ w22037 y22038 ⟨hp, r21899⟩ q22039 q22040
    unfold ref02_Few_L1 at q22039
    apply go
    obtain ⟨y22042, q22043, q22039⟩ := bind_some q22039
    refine W.cut (γ := Bool) (fun g => [(0, v21898), (3, (.int .i64 x22009)), (4, (.int .i64 x22010)), (12, (.bool (g)))]) (fun g w' => y22042 = (g) ∧ w22037 = w') ?_ ?_
    ·
      apply go
      refine ev0 (rn_len rfl rfl Tryd.underlying55 r21899) ?_
      refine sel_of (fun hc => ?_) (fun hc => ?_)
      ·
        have q22043 := cond_t q22043 hc
        obtain rfl := Option.some.inj q22043
        exact ⟨(decide (x22010 < 50)), (.c rfl (.c rfl (.c rfl (.c rfl .n)))), rfl, rfl⟩
      ·
        have q22043 := cond_f q22043 hc
        obtain rfl := Option.some.inj q22043
        exact ⟨false, (.c rfl (.c rfl (.c rfl (.c rfl .n)))), rfl, rfl⟩
    ·
      rintro x22041 _ ⟨hy, rfl⟩
      replace hy := hy.symm
      subst hy
      apply go
      refine sel_of (fun hc => ?_) (fun hc => ?_)
      ·
        have q22039 := cond_t q22039 hc
        apply go
        apply go
        apply go
        refine W.quiet (fun w' => Ch [] w22037 w') MX (by kernel_rfl) (Ch.drew [] w22037) ?_
        obtain ⟨x22044, q22045, q22039⟩ := bind_some q22039
        refine evq_index rfl rfl rfl Tryd.underlying55 T26 r21899 q22045 ?_
        intro p22046 c22047 d22048 a22049
        obtain ⟨v22050, v22052, rfl, r22051, r22053⟩ := dRational_o d22048
        refine evq0 (rn_field rfl rfl FO26_0) ?_
        refine evq0 (rn_field rfl rfl FO24_1) ?_
        refine evq (fun w' hw => rn_load rfl rfl (run_loadVar1 T22 ((a22049.step (hp.stp hw)).2 1 _ rfl))) ?_
        refine evq0 (rn_len rfl rfl Tryd.underlying22 r22051) ?_
        refine evq0 (rn_min rfl rfl rfl) ?_
        obtain ⟨x22054, q22055, q22039⟩ := bind_some q22039
        refine evq_index rfl rfl rfl Tryd.underlying55 T26 r21899 q22055 ?_
        intro p22056 c22057 d22058 a22059
        obtain ⟨v22060, v22062, rfl, r22061, r22063⟩ := dRational_o d22058
        refine evq0 (rn_field rfl rfl FO26_1) ?_
        refine evq0 (rn_fieldAt rfl rfl FO24_1) ?_
        refine evq (fun w' hw => rn_load rfl rfl (run_loadVar1 T22 ((a22059.step (hp.stp hw)).2 3 _ rfl))) ?_
        refine evq0 (rn_len rfl rfl Tryd.underlying22 r22063) ?_
        refine evq0 (rn_min rfl rfl rfl) ?_
        intro w22064 hc
        have hs := hp.stp hc
        replace hp := hp.ext hc
        replace r21899 := r21899.step hs
        apply go
        exact ⟨_, (Option.some.inj q22039).symm, (), (.c rfl (.c rfl (.c rfl .n))), ⟨hp, r21899⟩⟩
      ·
        have q22039 := cond_f q22039 hc
        apply go
        have q22065 := congrArg some (q22040 _ (Option.some.inj q22039).symm)
        obtain rfl := Option.some.inj q22065
        exact ⟨x22009, (.c rfl (.c rfl .n)), rfl, hp, r21899⟩
  ·
    rintro x21981 w21982 ⟨hy, hp, r21899⟩
    replace hy := hy.symm
    subst hy
    obtain ⟨y22067, q22068, h⟩ := bind_some h
    refine W.cut (γ := Bool) (fun g => [(2, (.bool (g)))]) (fun g w' => y22067 = (g) ∧ w21982 = w') ?_ ?_
    ·
      apply go
      refine ev0 (rn_len rfl rfl Tryd.underlying55 r21899) ?_
      refine sel_of (fun hc => ?_) (fun hc => ?_)
      ·
        have q22068 := cond_t q22068 hc
        obtain rfl := Option.some.inj q22068
        exact ⟨(decide (x21981 ≤ 60)), (.c rfl .n), rfl, rfl⟩
      ·
        have q22068 := cond_f q22068 hc
        obtain rfl := Option.some.inj q22068
        exact ⟨false, (.c rfl .n), rfl, rfl⟩
    ·
      rintro x22066 _ ⟨hy, rfl⟩
      replace hy := hy.symm
      subst hy
      apply go
      obtain rfl := Option.some.inj h
      exact ⟨rfl, hp.ch⟩

end Go.Proofs.YtepadjfmcbjkmaaDoor

namespace Go.Proofs.YtepadjfmcbjkmaaDoor
open Go Go.Proofs.YtepadjfmcbjkmaaDoor.Gw Go.RowKit
set_option linter.unusedVariables false
attribute [local irreducible] Ev EvQ EvS EvH
def law02_few_S (f : (List Rational) → Option Bool) : Prop := ∀ (w0 : World) (I0 : Nat → Prop) (x22069 : (List Rational)) (v22070 : Value) (r22071 : RepS dRational w0 I0 v22070 x22069) (hI : ∀ g, I0 g → g < w0.heap.size) (r : Bool), f x22069 = some r →
    Ret Tryd.prog 9 #[v22070] w0 fun v w1 => v = (.bool r) ∧ Ch [] w0 w1
theorem law02_few_ok (n : Nat) : law02_few_S (law02_few n) := by
  intro w0 I0 x22069 v22070 r22071 hI r h
  unfold law02_few at h
  refine enter Tryd.func9 rfl (Nat.le_of_ble_eq_true rfl) ?_
  have hp : Hp ⟨w0, I0, []⟩ I0 [] w0 := Hp.start hI
  apply go
  apply go
  apply go
  apply go
  obtain ⟨x22072, q22073, h⟩ := bind_some h
  refine ev_call rfl rfl C36 (((ref02_Few_ok n) _ _  x22069 v22070 r22071 hp.imm _ q22073).mono ?_)
  rintro _ w22074 ⟨rfl, hc⟩
  have hs := hp.stp hc
  replace hp := hp.ext hc
  apply go
  obtain rfl := Option.some.inj h
  exact ⟨rfl, hp.ch⟩

end Go.Proofs.YtepadjfmcbjkmaaDoor

namespace Go.Proofs.YtepadjfmcbjkmaaDoor
open Go Go.Proofs.YtepadjfmcbjkmaaDoor.Gw Go.RowKit
set_option linter.unusedVariables false
attribute [local irreducible] Ev EvQ EvS EvH
def rational_Mul_S (f : Rational → Rational → Option Rational) : Prop := ∀ (w0 : World) (I0 : Nat → Prop) (x29835 : Rational) (v29836 : Value) (r29837 : RepS (dI .u32) w0 I0 v29836 x29835.Num.Mag) (v29838 : Value) (r29839 : RepS (dI .u32) w0 I0 v29838 x29835.Den.Mag) (x29840 : Rational) (v29841 : Value) (r29842 : RepS (dI .u32) w0 I0 v29841 x29840.Num.Mag) (v29843 : Value) (r29844 : RepS (dI .u32) w0 I0 v29843 x29840.Den.Mag) (hI : ∀ g, I0 g → g < w0.heap.size) (r : Rational), f x29835 x29840 = some r →
    Ret Tryd.prog 23 #[(.agg #[(.bool x29835.Num.Neg), v29836, (.bool x29835.Den.Neg), v29838]), (.agg #[(.bool x29840.Num.Neg), v29841, (.bool x29840.Den.Neg), v29843])] w0 fun v w1 => ∃ (I1 : Nat → Prop) (u29845 : Value) (u29846 : Value), v = (.agg #[(.bool r.Num.Neg), u29845, (.bool r.Den.Neg), u29846]) ∧ Hp ⟨w0, I0, []⟩ I1 [] w1 ∧ RepS (dI .u32) w1 I1 u29845 r.Num.Mag ∧ RepS (dI .u32) w1 I1 u29846 r.Den.Mag
theorem rational_Mul_ok (n : Nat) : rational_Mul_S (rational_Mul n) := by
  intro w0 I0 x29835 v29836 r29837 v29838 r29839 x29840 v29841 r29842 v29843 r29844 hI r h
  unfold rational_Mul at h
  refine enter Tryd.func23 rfl (Nat.le_of_ble_eq_true rfl) ?_
  have hp : Hp ⟨w0, I0, []⟩ I0 [] w0 := Hp.start hI
  apply go
  apply go
  refine ev_boxI hp rfl rfl ?_
  intro p29849 I29850 w29848 hp hs a29851
  replace r29842 := r29842.step hs
  replace r29844 := r29844.step hs
  replace r29837 := r29837.step hs
  replace r29839 := r29839.step hs
  refine ev_boxI hp rfl rfl ?_
  intro p29854 I29855 w29853 hp hs a29856
  replace a29851 := a29851.step hs
  replace r29837 := r29837.step hs
  replace r29839 := r29839.step hs
  replace r29842 := r29842.step hs
  replace r29844 := r29844.step hs
  refine ev_alloc hp rfl T26 ?_
  intro g29857 w29858 hp hs
  replace a29851 := a29851.step hs
  replace r29837 := r29837.step hs
  replace r29839 := r29839.step hs
  replace a29856 := a29856.step hs
  replace r29842 := r29842.step hs
  replace r29844 := r29844.step hs
  apply go
  have hs := hp.stp (Ch.drew [] w29858)
  have hp := hp.drew
  replace a29851 := a29851.step hs
  replace r29837 := r29837.step hs
  replace r29839 := r29839.step hs
  replace a29856 := a29856.step hs
  replace r29842 := r29842.step hs
  replace r29844 := r29844.step hs
  refine W.held [(0, true), (1, true), (2, true), (3, true), (5, true), (6, true), (7, true), (8, true), (4, false), (9, false), (10, false), (11, false)] (Stp I29855 w29858.drew I29855) MX (by kernel_rfl) (Stp.refl _ _) ?_
  have hz := Stp.refl I29855 w29858.drew
  refine evh0 (rn_field rfl rfl FO26_0) ?_
  refine evh (fun w' hw => rn_load rfl rfl (run_loadVarA T24 rfl (((a29851.step hw).drop 0).take 2))) ?_
  refine evh0 (rn_field rfl rfl FO26_0) ?_
  refine evh (fun w' hw => rn_load rfl rfl (run_loadVarA T24 rfl (((a29856.step hw).drop 0).take 2))) ?_
  refine evh0 (rn_field rfl rfl FO26_1) ?_
  refine evh (fun w' hw => rn_load rfl rfl (run_loadVarA T24 rfl (((a29851.step hw).drop 2).take 2))) ?_
  refine evh0 (rn_field rfl rfl FO26_1) ?_
  refine evh (fun w' hw => rn_load rfl rfl (run_loadVarA T24 rfl (((a29856.step hw).drop 2).take 2))) ?_
  obtain ⟨x29880, q29881, h⟩ := bind_some h
  refine ev_call rfl rfl C47 (((integer_Mul_ok n) _ _  (Int_2.mk x29835.Num.Neg x29835.Num.Mag) v29836 r29837 (Int_2.mk x29840.Num.Neg x29840.Num.Mag) v29841 r29842 hp.imm _ q29881).mono ?_)
  rintro _ w29882 ⟨I29883, v29884, hv, hq, r29885⟩
  replace hv := hv.symm
  subst hv
  have hs := hq.st
  have hp := hp.join0 hq
  replace hz := hz.trans hs
  replace r29839 := r29839.step hs
  replace r29844 := r29844.step hs
  refine ⟨Stp I29883 w29882 I29883, Stp.refl _ _, fun x hx => hz.held hx, ?_⟩
  have hz := Stp.refl I29883 w29882
  obtain ⟨x29886, q29887, h⟩ := bind_some h
  refine ev_call rfl rfl C47 (((integer_Mul_ok n) _ _  (Int_2.mk x29835.Den.Neg x29835.Den.Mag) v29838 r29839 (Int_2.mk x29840.Den.Neg x29840.Den.Mag) v29843 r29844 hp.imm _ q29887).mono ?_)
  rintro _ w29888 ⟨I29889, v29890, hv, hq, r29891⟩
  replace hv := hv.symm
  subst hv
  have hs := hq.st
  have hp := hp.join0 hq
  replace hz := hz.trans hs
  replace r29885 := r29885.step hs
  refine ⟨Stp I29889 w29888 I29889, Stp.refl _ _, fun x hx => hz.held hx, ?_⟩
  have hz := Stp.refl I29889 w29888
  obtain ⟨x29892, q29893, h⟩ := bind_some h
  refine ev_call rfl rfl C14 (((rational_New_ok n) _ _  x29880 v29884 r29885 x29886 v29890 r29891 hp.imm _ q29893).mono ?_)
  rintro _ w29894 ⟨I29895, v29896, v29898, hv, hq, r29897, r29899⟩
  replace hv := hv.symm
  subst hv
  have hs := hq.st
  have hp := hp.join0 hq
  replace hz := hz.trans hs
  refine ⟨Stp I29895 w29894 I29895, Stp.refl _ _, fun x hx => hz.held hx, ?_⟩
  have hz := Stp.refl I29895 w29894
  refine ev_storeA hp (i := 0) (off := 0) (vs := [(.bool x29892.Num.Neg), v29896, (.bool x29892.Den.Neg), v29898]) rfl rfl rfl rfl T26 rfl (Nat.le_of_ble_eq_true rfl) (ones_cons rfl (ones_cons r29897.one (ones_cons rfl (ones_cons r29899.one ones_nil)))) ?_
  intro w29900 hp hs
  replace hz := hz.trans hs
  replace r29897 := r29897.step hs
  replace r29899 := r29899.step hs
  refine ⟨Stp I29895 w29900 I29895, Stp.refl _ _, fun x hx => hz.held hx, ?_⟩
  have hz := Stp.refl I29895 w29900
  apply go
  obtain rfl := Option.some.inj h
  refine ⟨_, run_loadVarA T26 rfl (hp.at_ (i := 0) rfl), ?_⟩
  have hp := hp.sel [] (by decide)
  exact ⟨I29895, v29896, v29898, rfl, hp, r29897, r29899⟩

end Go.Proofs.YtepadjfmcbjkmaaDoor

namespace Go.Proofs.YtepadjfmcbjkmaaDoor
open Go Go.Proofs.YtepadjfmcbjkmaaDoor.Gw Go.RowKit
set_option linter.unusedVariables false
attribute [local irreducible] Ev EvQ EvS EvH
def rational_Cmp_S (f : Rational → Rational → Option Int) : Prop := ∀ (w0 : World) (I0 : Nat → Prop) (x32250 : Rational) (v32251 : Value) (r32252 : RepS (dI .u32) w0 I0 v32251 x32250.Num.Mag) (v32253 : Value) (r32254 : RepS (dI .u32) w0 I0 v32253 x32250.Den.Mag) (x32255 : Rational) (v32256 : Value) (r32257 : RepS (dI .u32) w0 I0 v32256 x32255.Num.Mag) (v32258 : Value) (r32259 : RepS (dI .u32) w0 I0 v32258 x32255.Den.Mag) (hI : ∀ g, I0 g → g < w0.heap.size) (r : Int), f x32250 x32255 = some r →
    Ret Tryd.prog 28 #[(.agg #[(.bool x32250.Num.Neg), v32251, (.bool x32250.Den.Neg), v32253]), (.agg #[(.bool x32255.Num.Neg), v32256, (.bool x32255.Den.Neg), v32258])] w0 fun v w1 => v = (.int .i64 r) ∧ Ch [] w0 w1
theorem rational_Cmp_ok (n : Nat) : rational_Cmp_S (rational_Cmp n) := by
  intro w0 I0 x32250 v32251 r32252 v32253 r32254 x32255 v32256 r32257 v32258 r32259 hI r h
  unfold rational_Cmp at h
  refine enter Tryd.func28 rfl (Nat.le_of_ble_eq_true rfl) ?_
  have hp : Hp ⟨w0, I0, []⟩ I0 [] w0 := Hp.start hI
  apply go
  apply go
  refine ev_box hp rfl rfl ?_
  intro g32260 w32261 hp hs
  replace r32257 := r32257.step hs
  replace r32259 := r32259.step hs
  replace r32252 := r32252.step hs
  replace r32254 := r32254.step hs
  refine ev_box hp rfl rfl ?_
  intro g32262 w32263 hp hs
  replace r32257 := r32257.step hs
  replace r32259 := r32259.step hs
  replace r32252 := r32252.step hs
  replace r32254 := r32254.step hs
  apply go
  have hs := hp.stp (Ch.drew [] w32263)
  have hp := hp.drew
  replace r32257 := r32257.step hs
  replace r32259 := r32259.step hs
  replace r32252 := r32252.step hs
  replace r32254 := r32254.step hs
  refine W.heldG (.q 0 (.q 2 (.l 1 (.l 3 (.l 4 (.l 5 .done .no) .no) .no) .no))) (SK (Stp I0 w32263.drew I0) [(g32260, [(.bool x32250.Num.Neg), v32251, (.bool x32250.Den.Neg), v32253], 26), (g32262, [(.bool x32255.Num.Neg), v32256, (.bool x32255.Den.Neg), v32258], 26)] [[4], [5]]) MX (by kernel_rfl) ⟨Stp.refl _ _, (kp_cons (fun _ => (hp.own 1 _ _ _ rfl).1) (kp_cons (fun _ => (hp.own 0 _ _ _ rfl).1) kp_nil))⟩ ?_
  have hz := Stp.refl I0 w32263.drew
  refine ⟨SK.same (by kernel_rfl), ?_⟩
  refine evh (fun w' hw => rn_load rfl rfl (run_loadVarA T26 rfl ((S0.keep (p := 0) hw rfl rfl (by kernel_rfl)).at_ (i := 0) rfl))) ?_
  refine ⟨SK.same (by kernel_rfl), ?_⟩
  refine evh (fun w' hw => rn_load rfl rfl (run_loadVarA T26 rfl ((S0.keep (p := 1) hw rfl rfl (by kernel_rfl)).at_ (i := 0) rfl))) ?_
  refine ⟨?_, trivial⟩
  obtain ⟨x32282, q32283, h⟩ := bind_some h
  refine ev_call rfl rfl C16 (((rational_Norm_ok n) _ _  (Rational.mk (Int_2.mk x32250.Num.Neg x32250.Num.Mag) (Int_2.mk x32250.Den.Neg x32250.Den.Mag)) v32251 r32252 v32253 r32254 hp.imm _ q32283).mono ?_)
  rintro _ w32284 ⟨I32285, v32286, v32288, hv, hq, r32287, r32289⟩
  replace hv := hv.symm
  subst hv
  have hs := hq.st
  have hp := hp.join0 hq
  replace hz := hz.trans hs
  replace r32257 := r32257.step hs
  replace r32259 := r32259.step hs
  replace r32252 := r32252.step hs
  replace r32254 := r32254.step hs
  refine ⟨SK (Stp I32285 w32284 I32285) [(g32260, [(.bool x32250.Num.Neg), v32251, (.bool x32250.Den.Neg), v32253], 26), (g32262, [(.bool x32255.Num.Neg), v32256, (.bool x32255.Den.Neg), v32258], 26)] [[4], [5]], ⟨Stp.refl _ _, (kp_cons (fun _ => (hp.own 1 _ _ _ rfl).1) (kp_cons (fun _ => (hp.own 0 _ _ _ rfl).1) kp_nil))⟩, fun L x h => ⟨hz.held h.1, h.2⟩, ?_⟩
  have hz := Stp.refl I32285 w32284
  refine ⟨?_, trivial⟩
  obtain ⟨x32290, q32291, h⟩ := bind_some h
  refine ev_call rfl rfl C16 (((rational_Norm_ok n) _ _  (Rational.mk (Int_2.mk x32255.Num.Neg x32255.Num.Mag) (Int_2.mk x32255.Den.Neg x32255.Den.Mag)) v32256 r32257 v32258 r32259 hp.imm _ q32291).mono ?_)
  rintro _ w32292 ⟨I32293, v32294, v32296, hv, hq, r32295, r32297⟩
  replace hv := hv.symm
  subst hv
  have hs := hq.st
  have hp := hp.join0 hq
  replace hz := hz.trans hs
  replace r32287 := r32287.step hs
  replace r32289 := r32289.step hs
  replace r32257 := r32257.step hs
  replace r32259 := r32259.step hs
  replace r32252 := r32252.step hs
  replace r32254 := r32254.step hs
  refine ⟨SK (Stp I32293 w32292 I32293) [(g32260, [(.bool x32250.Num.Neg), v32251, (.bool x32250.Den.Neg), v32253], 26), (g32262, [(.bool x32255.Num.Neg), v32256, (.bool x32255.Den.Neg), v32258], 26)] [[4], [5]], ⟨Stp.refl _ _, (kp_cons (fun _ => (hp.own 1 _ _ _ rfl).1) (kp_cons (fun _ => (hp.own 0 _ _ _ rfl).1) kp_nil))⟩, fun L x h => ⟨hz.held h.1, h.2⟩, ?_⟩
  have hz := Stp.refl I32293 w32292
  refine ⟨?_, trivial⟩
  refine ev_storeA hp (i := 1) (off := 0) (vs := [(.bool x32282.Num.Neg), v32286, (.bool x32282.Den.Neg), v32288]) rfl rfl rfl rfl T26 rfl (Nat.le_of_ble_eq_true rfl) (ones_cons rfl (ones_cons r32287.one (ones_cons rfl (ones_cons r32289.one ones_nil)))) ?_
  intro w32298 hp hs
  replace hz := hz.trans hs
  replace r32295 := r32295.step hs
  replace r32297 := r32297.step hs
  replace r32257 := r32257.step hs
  replace r32259 := r32259.step hs
  replace r32287 := r32287.step hs
  replace r32289 := r32289.step hs
  refine ⟨SK (Stp I32293 w32298 I32293) [(g32260, [(.bool x32250.Num.Neg), v32251, (.bool x32250.Den.Neg), v32253], 26), (g32262, [(.bool x32255.Num.Neg), v32256, (.bool x32255.Den.Neg), v32258], 26)] [[4], [5]], ⟨Stp.refl _ _, (kp_cons (kp_off (by kernel_rfl)) (kp_cons (fun _ => (hp.own 0 _ _ _ rfl).1) kp_nil))⟩, fun L x h => ⟨hz.held h.1, h.2⟩, ?_⟩
  have hz := Stp.refl I32293 w32298
  refine ⟨?_, trivial⟩
  refine ev_storeA hp (i := 0) (off := 0) (vs := [(.bool x32290.Num.Neg), v32294, (.bool x32290.Den.Neg), v32296]) rfl rfl rfl rfl T26 rfl (Nat.le_of_ble_eq_true rfl) (ones_cons rfl (ones_cons r32295.one (ones_cons rfl (ones_cons r32297.one ones_nil)))) ?_
  intro w32299 hp hs
  replace hz := hz.trans hs
  replace r32295 := r32295.step hs
  replace r32297 := r32297.step hs
  replace r32287 := r32287.step hs
  replace r32289 := r32289.step hs
  refine ⟨SK (Stp I32293 w32299 I32293) [(g32260, [(.bool x32250.Num.Neg), v32251, (.bool x32250.Den.Neg), v32253], 26), (g32262, [(.bool x32255.Num.Neg), v32256, (.bool x32255.Den.Neg), v32258], 26)] [[4], [5]], ⟨Stp.refl _ _, (kp_cons (kp_off (by kernel_rfl)) (kp_cons (kp_off (by kernel_rfl)) kp_nil))⟩, fun L x h => ⟨hz.held h.1, h.2⟩, ?_⟩
  have hz := Stp.refl I32293 w32299
  apply go
  have hs := hp.stp (Ch.drew [] w32299)
  have hp := hp.drew
  replace r32295 := r32295.step hs
  replace r32297 := r32297.step hs
  replace r32287 := r32287.step hs
  replace r32289 := r32289.step hs
  refine W.held [(0, true), (1, true), (2, true), (3, true), (5, true), (6, true), (7, true), (8, true), (4, false), (9, false), (10, false), (11, true)] (fun x => Stp I32293 w32299.drew I32293 x ∧ OwnK [(g32260, [(.bool x32282.Num.Neg), v32286, (.bool x32282.Den.Neg), v32288], 26), (g32262, [(.bool x32290.Num.Neg), v32294, (.bool x32290.Den.Neg), v32296], 26)] x) MX (by kernel_rfl) ⟨Stp.refl _ _, (OwnK.cons (hp.own 1 _ _ _ rfl).1 (OwnK.cons (hp.own 0 _ _ _ rfl).1 OwnK.nil))⟩ ?_
  have hz := Stp.refl I32293 w32299.drew
  refine evh0 (rn_field rfl rfl FO26_0) ?_
  refine evh (fun w' hw => rn_load rfl rfl (run_loadVarA T24 rfl (((hw.2.at_ (i := 0) rfl).drop 0).take 2))) ?_
  refine evh0 (rn_field rfl rfl FO26_1) ?_
  refine evh (fun w' hw => rn_load rfl rfl (run_loadVarA T24 rfl (((hw.2.at_ (i := 1) rfl).drop 2).take 2))) ?_
  refine evh0 (rn_field rfl rfl FO26_0) ?_
  refine evh (fun w' hw => rn_load rfl rfl (run_loadVarA T24 rfl (((hw.2.at_ (i := 1) rfl).drop 0).take 2))) ?_
  refine evh0 (rn_field rfl rfl FO26_1) ?_
  refine evh (fun w' hw => rn_load rfl rfl (run_loadVarA T24 rfl (((hw.2.at_ (i := 0) rfl).drop 2).take 2))) ?_
  obtain ⟨x32315, q32316, h⟩ := bind_some h
  refine ev_call rfl rfl C47 (((integer_Mul_ok n) _ _  (Int_2.mk x32282.Num.Neg x32282.Num.Mag) v32286 r32287 (Int_2.mk x32290.Den.Neg x32290.Den.Mag) v32296 r32297 hp.imm _ q32316).mono ?_)
  rintro _ w32317 ⟨I32318, v32319, hv, hq, r32320⟩
  replace hv := hv.symm
  subst hv
  have hs := hq.st
  have hp := hp.join0 hq
  replace hz := hz.trans hs
  replace r32295 := r32295.step hs
  replace r32289 := r32289.step hs
  replace r32297 := r32297.step hs
  replace r32287 := r32287.step hs
  refine ⟨fun x => Stp I32318 w32317 I32318 x ∧ OwnK [(g32260, [(.bool x32282.Num.Neg), v32286, (.bool x32282.Den.Neg), v32288], 26), (g32262, [(.bool x32290.Num.Neg), v32294, (.bool x32290.Den.Neg), v32296], 26)] x, ⟨Stp.refl _ _, (OwnK.cons (hp.own 1 _ _ _ rfl).1 (OwnK.cons (hp.own 0 _ _ _ rfl).1 OwnK.nil))⟩, fun x hx => ⟨hz.held hx.1, hx.2⟩, ?_⟩
  have hz := Stp.refl I32318 w32317
  obtain ⟨x32321, q32322, h⟩ := bind_some h
  refine ev_call rfl rfl C47 (((integer_Mul_ok n) _ _  (Int_2.mk x32290.Num.Neg x32290.Num.Mag) v32294 r32295 (Int_2.mk x32282.Den.Neg x32282.Den.Mag) v32288 r32289 hp.imm _ q32322).mono ?_)
  rintro _ w32323 ⟨I32324, v32325, hv, hq, r32326⟩
  replace hv := hv.symm
  subst hv
  have hs := hq.st
  have hp := hp.join0 hq
  replace hz := hz.trans hs
  replace r32320 := r32320.step hs
  replace r32295 := r32295.step hs
  replace r32297 := r32297.step hs
  replace r32287 := r32287.step hs
  replace r32289 := r32289.step hs
  refine ⟨fun x => Stp I32324 w32323 I32324 x ∧ OwnK [(g32260, [(.bool x32282.Num.Neg), v32286, (.bool x32282.Den.Neg), v32288], 26), (g32262, [(.bool x32290.Num.Neg), v32294, (.bool x32290.Den.Neg), v32296], 26)] x, ⟨Stp.refl _ _, (OwnK.cons (hp.own 1 _ _ _ rfl).1 (OwnK.cons (hp.own 0 _ _ _ rfl).1 OwnK.nil))⟩, fun x hx => ⟨hz.held hx.1, hx.2⟩, ?_⟩
  have hz := Stp.refl I32324 w32323
  obtain ⟨x32327, q32328, h⟩ := bind_some h
  refine ev_call rfl rfl C51 (((integer_Cmp_ok n) _ _  x32315 v32319 r32320 x32321 v32325 r32326 hp.imm _ q32328).mono ?_)
  rintro _ w32329 ⟨rfl, hc⟩
  have hs := hp.stp hc
  replace hp := hp.ext hc
  replace hz := hz.trans hs
  replace r32295 := r32295.step hs
  replace r32297 := r32297.step hs
  replace r32287 := r32287.step hs
  replace r32289 := r32289.step hs
  refine ⟨fun x => Stp I32324 w32329 I32324 x ∧ OwnK [(g32260, [(.bool x32282.Num.Neg), v32286, (.bool x32282.Den.Neg), v32288], 26), (g32262, [(.bool x32290.Num.Neg), v32294, (.bool x32290.Den.Neg), v32296], 26)] x, ⟨Stp.refl _ _, (OwnK.cons (hp.own 1 _ _ _ rfl).1 (OwnK.cons (hp.own 0 _ _ _ rfl).1 OwnK.nil))⟩, fun x hx => ⟨hz.held hx.1, hx.2⟩, ?_⟩
  have hz := Stp.refl I32324 w32329
  apply go
  obtain rfl := Option.some.inj h
  exact ⟨rfl, hp.ch⟩

end Go.Proofs.YtepadjfmcbjkmaaDoor

namespace Go.Proofs.YtepadjfmcbjkmaaDoor
open Go Go.Proofs.YtepadjfmcbjkmaaDoor.Gw Go.RowKit
set_option linter.unusedVariables false
attribute [local irreducible] Ev EvQ EvS EvH
def rational_Has_S (f : Interval → Rational → Option Bool) : Prop := ∀ (w0 : World) (I0 : Nat → Prop) (x32834 : Interval) (v32835 : Value) (r32836 : RepS (dI .u32) w0 I0 v32835 x32834.Lo.Num.Mag) (v32837 : Value) (r32838 : RepS (dI .u32) w0 I0 v32837 x32834.Lo.Den.Mag) (v32839 : Value) (r32840 : RepS (dI .u32) w0 I0 v32839 x32834.Hi.Num.Mag) (v32841 : Value) (r32842 : RepS (dI .u32) w0 I0 v32841 x32834.Hi.Den.Mag) (x32843 : Rational) (v32844 : Value) (r32845 : RepS (dI .u32) w0 I0 v32844 x32843.Num.Mag) (v32846 : Value) (r32847 : RepS (dI .u32) w0 I0 v32846 x32843.Den.Mag) (hI : ∀ g, I0 g → g < w0.heap.size) (r : Bool), f x32834 x32843 = some r →
    Ret Tryd.prog 31 #[(.agg #[(.bool x32834.Lo.Num.Neg), v32835, (.bool x32834.Lo.Den.Neg), v32837, (.bool x32834.Hi.Num.Neg), v32839, (.bool x32834.Hi.Den.Neg), v32841]), (.agg #[(.bool x32843.Num.Neg), v32844, (.bool x32843.Den.Neg), v32846])] w0 fun v w1 => v = (.bool r) ∧ Ch [] w0 w1
theorem rational_Has_ok (n : Nat) : rational_Has_S (rational_Has n) := by
  intro w0 I0 x32834 v32835 r32836 v32837 r32838 v32839 r32840 v32841 r32842 x32843 v32844 r32845 v32846 r32847 hI r h
  unfold rational_Has at h
  refine enter Tryd.func31 rfl (Nat.le_of_ble_eq_true rfl) ?_
  have hp : Hp ⟨w0, I0, []⟩ I0 [] w0 := Hp.start hI
  apply go
  apply go
  refine ev_boxI hp rfl rfl ?_
  intro p32850 I32851 w32849 hp hs a32852
  replace r32845 := r32845.step hs
  replace r32847 := r32847.step hs
  replace r32836 := r32836.step hs
  replace r32838 := r32838.step hs
  replace r32840 := r32840.step hs
  replace r32842 := r32842.step hs
  refine ev_boxI hp rfl rfl ?_
  intro p32855 I32856 w32854 hp hs a32857
  replace a32852 := a32852.step hs
  replace r32836 := r32836.step hs
  replace r32838 := r32838.step hs
  replace r32840 := r32840.step hs
  replace r32842 := r32842.step hs
  replace r32845 := r32845.step hs
  replace r32847 := r32847.step hs
  obtain ⟨y32866, q32867, h⟩ := bind_some h
  refine W.cut (γ := Bool) (fun g => [(4, (.bool (g)))]) (fun g w' => y32866 = (g) ∧ Hp ⟨w0, I0, []⟩ I32856 [] w') ?_ ?_
  ·
    apply go
    refine ev0 (rn_field rfl rfl FO46_0) ?_
    refine ev (rn_load rfl rfl (run_loadVarA T26 rfl ((a32852.drop 0).take 4))) ?_
    refine ev (rn_load rfl rfl (run_loadVarA T26 rfl a32857)) ?_
    obtain ⟨x32868, q32869, q32867⟩ := bind_some q32867
    refine ev_call rfl rfl C28 (((rational_Cmp_ok n) _ _  (Rational.mk (Int_2.mk x32834.Lo.Num.Neg x32834.Lo.Num.Mag) (Int_2.mk x32834.Lo.Den.Neg x32834.Lo.Den.Mag)) v32835 r32836 v32837 r32838 (Rational.mk (Int_2.mk x32843.Num.Neg x32843.Num.Mag) (Int_2.mk x32843.Den.Neg x32843.Den.Mag)) v32844 r32845 v32846 r32847 hp.imm _ q32869).mono ?_)
    rintro _ w32870 ⟨rfl, hc⟩
    have hs := hp.stp hc
    replace hp := hp.ext hc
    replace a32852 := a32852.step hs
    replace r32836 := r32836.step hs
    replace r32838 := r32838.step hs
    replace r32840 := r32840.step hs
    replace r32842 := r32842.step hs
    replace a32857 := a32857.step hs
    replace r32845 := r32845.step hs
    replace r32847 := r32847.step hs
    refine sel_of (fun hc => ?_) (fun hc => ?_)
    ·
      have q32867 := cond_t q32867 hc
      refine ev (rn_load rfl rfl (run_loadVarA T26 rfl a32857)) ?_
      refine ev0 (rn_field rfl rfl FO46_1) ?_
      refine ev (rn_load rfl rfl (run_loadVarA T26 rfl ((a32852.drop 4).take 4))) ?_
      obtain ⟨x32871, q32872, q32867⟩ := bind_some q32867
      refine ev_call rfl rfl C28 (((rational_Cmp_ok n) _ _  (Rational.mk (Int_2.mk x32843.Num.Neg x32843.Num.Mag) (Int_2.mk x32843.Den.Neg x32843.Den.Mag)) v32844 r32845 v32846 r32847 (Rational.mk (Int_2.mk x32834.Hi.Num.Neg x32834.Hi.Num.Mag) (Int_2.mk x32834.Hi.Den.Neg x32834.Hi.Den.Mag)) v32839 r32840 v32841 r32842 hp.imm _ q32872).mono ?_)
      rintro _ w32873 ⟨rfl, hc⟩
      have hs := hp.stp hc
      replace hp := hp.ext hc
      obtain rfl := Option.some.inj q32867
      exact ⟨(decide (x32871 ≤ 0)), (.c rfl .n), rfl, hp⟩
    ·
      have q32867 := cond_f q32867 hc
      obtain rfl := Option.some.inj q32867
      exact ⟨false, (.c rfl .n), rfl, hp⟩
  ·
    rintro x32864 w32865 ⟨hy, hp⟩
    replace hy := hy.symm
    subst hy
    apply go
    obtain rfl := Option.some.inj h
    exact ⟨rfl, hp.ch⟩

end Go.Proofs.YtepadjfmcbjkmaaDoor

namespace Go.Proofs.YtepadjfmcbjkmaaDoor
open Go Go.Proofs.YtepadjfmcbjkmaaDoor.Gw Go.RowKit
set_option linter.unusedVariables false
attribute [local irreducible] Ev EvQ EvS EvH
def rational_empty_S (f : Interval → Option Bool) : Prop := ∀ (w0 : World) (I0 : Nat → Prop) (x32874 : Interval) (v32875 : Value) (r32876 : RepS (dI .u32) w0 I0 v32875 x32874.Lo.Num.Mag) (v32877 : Value) (r32878 : RepS (dI .u32) w0 I0 v32877 x32874.Lo.Den.Mag) (v32879 : Value) (r32880 : RepS (dI .u32) w0 I0 v32879 x32874.Hi.Num.Mag) (v32881 : Value) (r32882 : RepS (dI .u32) w0 I0 v32881 x32874.Hi.Den.Mag) (hI : ∀ g, I0 g → g < w0.heap.size) (r : Bool), f x32874 = some r →
    Ret Tryd.prog 53 #[(.agg #[(.bool x32874.Lo.Num.Neg), v32875, (.bool x32874.Lo.Den.Neg), v32877, (.bool x32874.Hi.Num.Neg), v32879, (.bool x32874.Hi.Den.Neg), v32881])] w0 fun v w1 => v = (.bool r) ∧ Ch [] w0 w1
theorem rational_empty_ok (n : Nat) : rational_empty_S (rational_empty n) := by
  intro w0 I0 x32874 v32875 r32876 v32877 r32878 v32879 r32880 v32881 r32882 hI r h
  unfold rational_empty at h
  refine enter Tryd.func53 rfl (Nat.le_of_ble_eq_true rfl) ?_
  have hp : Hp ⟨w0, I0, []⟩ I0 [] w0 := Hp.start hI
  apply go
  apply go
  refine ev_boxI hp rfl rfl ?_
  intro p32885 I32886 w32884 hp hs a32887
  replace r32876 := r32876.step hs
  replace r32878 := r32878.step hs
  replace r32880 := r32880.step hs
  replace r32882 := r32882.step hs
  apply go
  apply go
  refine ev0 (rn_field rfl rfl FO46_0) ?_
  refine ev (rn_load rfl rfl (run_loadVarA T26 rfl ((a32887.drop 0).take 4))) ?_
  refine ev0 (rn_field rfl rfl FO46_1) ?_
  refine ev (rn_load rfl rfl (run_loadVarA T26 rfl ((a32887.drop 4).take 4))) ?_
  obtain ⟨x32888, q32889, h⟩ := bind_some h
  refine ev_call rfl rfl C28 (((rational_Cmp_ok n) _ _  (Rational.mk (Int_2.mk x32874.Lo.Num.Neg x32874.Lo.Num.Mag) (Int_2.mk x32874.Lo.Den.Neg x32874.Lo.Den.Mag)) v32875 r32876 v32877 r32878 (Rational.mk (Int_2.mk x32874.Hi.Num.Neg x32874.Hi.Num.Mag) (Int_2.mk x32874.Hi.Den.Neg x32874.Hi.Den.Mag)) v32879 r32880 v32881 r32882 hp.imm _ q32889).mono ?_)
  rintro _ w32890 ⟨rfl, hc⟩
  have hs := hp.stp hc
  replace hp := hp.ext hc
  apply go
  obtain rfl := Option.some.inj h
  exact ⟨rfl, hp.ch⟩

end Go.Proofs.YtepadjfmcbjkmaaDoor

namespace Go.Proofs.YtepadjfmcbjkmaaDoor
open Go Go.Proofs.YtepadjfmcbjkmaaDoor.Gw Go.RowKit
set_option linter.unusedVariables false
attribute [local irreducible] Ev EvQ EvS EvH
def rational_Meet_S (f : Interval → Interval → Option (Interval × Bool)) : Prop := ∀ (w0 : World) (I0 : Nat → Prop) (x33022 : Interval) (v33023 : Value) (r33024 : RepS (dI .u32) w0 I0 v33023 x33022.Lo.Num.Mag) (v33025 : Value) (r33026 : RepS (dI .u32) w0 I0 v33025 x33022.Lo.Den.Mag) (v33027 : Value) (r33028 : RepS (dI .u32) w0 I0 v33027 x33022.Hi.Num.Mag) (v33029 : Value) (r33030 : RepS (dI .u32) w0 I0 v33029 x33022.Hi.Den.Mag) (x33031 : Interval) (v33032 : Value) (r33033 : RepS (dI .u32) w0 I0 v33032 x33031.Lo.Num.Mag) (v33034 : Value) (r33035 : RepS (dI .u32) w0 I0 v33034 x33031.Lo.Den.Mag) (v33036 : Value) (r33037 : RepS (dI .u32) w0 I0 v33036 x33031.Hi.Num.Mag) (v33038 : Value) (r33039 : RepS (dI .u32) w0 I0 v33038 x33031.Hi.Den.Mag) (hI : ∀ g, I0 g → g < w0.heap.size) (r : (Interval × Bool)), f x33022 x33031 = some r →
    Ret Tryd.prog 32 #[(.agg #[(.bool x33022.Lo.Num.Neg), v33023, (.bool x33022.Lo.Den.Neg), v33025, (.bool x33022.Hi.Num.Neg), v33027, (.bool x33022.Hi.Den.Neg), v33029]), (.agg #[(.bool x33031.Lo.Num.Neg), v33032, (.bool x33031.Lo.Den.Neg), v33034, (.bool x33031.Hi.Num.Neg), v33036, (.bool x33031.Hi.Den.Neg), v33038])] w0 fun v w1 => ∃ (I1 : Nat → Prop) (u33040 : Value) (u33041 : Value) (u33042 : Value) (u33043 : Value), v = (.tuple #[(.agg #[(.bool r.1.Lo.Num.Neg), u33040, (.bool r.1.Lo.Den.Neg), u33041, (.bool r.1.Hi.Num.Neg), u33042, (.bool r.1.Hi.Den.Neg), u33043]), (.bool r.2)]) ∧ Hp ⟨w0, I0, []⟩ I1 [] w1 ∧ RepS (dI .u32) w1 I1 u33040 r.1.Lo.Num.Mag ∧ RepS (dI .u32) w1 I1 u33041 r.1.Lo.Den.Mag ∧ RepS (dI .u32) w1 I1 u33042 r.1.Hi.Num.Mag ∧ RepS (dI .u32) w1 I1 u33043 r.1.Hi.Den.Mag
theorem rational_Meet_ok (n : Nat) : rational_Meet_S (rational_Meet n) := by
  intro w0 I0 x33022 v33023 r33024 v33025 r33026 v33027 r33028 v33029 r33030 x33031 v33032 r33033 v33034 r33035 v33036 r33037 v33038 r33039 hI r h
  unfold rational_Meet at h
  refine enter Tryd.func32 rfl (Nat.le_of_ble_eq_true rfl) ?_
  have hp : Hp ⟨w0, I0, []⟩ I0 [] w0 := Hp.start hI
  apply go
  apply go
  refine ev_boxI hp rfl rfl ?_
  intro p33046 I33047 w33045 hp hs a33048
  replace r33033 := r33033.step hs
  replace r33035 := r33035.step hs
  replace r33037 := r33037.step hs
  replace r33039 := r33039.step hs
  replace r33024 := r33024.step hs
  replace r33026 := r33026.step hs
  replace r33028 := r33028.step hs
  replace r33030 := r33030.step hs
  refine ev_boxI hp rfl rfl ?_
  intro p33051 I33052 w33050 hp hs a33053
  replace a33048 := a33048.step hs
  replace r33024 := r33024.step hs
  replace r33026 := r33026.step hs
  replace r33028 := r33028.step hs
  replace r33030 := r33030.step hs
  replace r33033 := r33033.step hs
  replace r33035 := r33035.step hs
  replace r33037 := r33037.step hs
  replace r33039 := r33039.step hs
  refine ev_alloc hp rfl T46 ?_
  intro g33054 w33055 hp hs
  replace a33048 := a33048.step hs
  replace r33024 := r33024.step hs
  replace r33026 := r33026.step hs
  replace r33028 := r33028.step hs
  replace r33030 := r33030.step hs
  replace a33053 := a33053.step hs
  replace r33033 := r33033.step hs
  replace r33035 := r33035.step hs
  replace r33037 := r33037.step hs
  replace r33039 := r33039.step hs
  obtain ⟨y33269, q33270, h⟩ := bind_some h
  refine W.cut (γ := (Bool × (List Int) × Bool × (List Int) × Bool × (List Int) × Bool × (List Int) × Nat × Value × Value × Value × Value × (Nat → Prop))) (fun g => [(3, (.pointer (some (p33051)))), (4, (.pointer (some ⟨g33054, 0, none⟩))), (6, (.pointer (some ⟨(g.2.2.2.2.2.2.2.2.1), 0, none⟩)))]) (fun g w' => y33269 = ((g.1), (g.2.1), (g.2.2.1), (g.2.2.2.1), (g.2.2.2.2.1), (g.2.2.2.2.2.1), (g.2.2.2.2.2.2.1), (g.2.2.2.2.2.2.2.1)) ∧ Hp ⟨w0, I0, []⟩ (g.2.2.2.2.2.2.2.2.2.2.2.2.2) [some (g33054, [(.bool false), (.slice none 0 0), (.bool false), (.slice none 0 0), (.bool false), (.slice none 0 0), (.bool false), (.slice none 0 0)], 46), some ((g.2.2.2.2.2.2.2.2.1), [(.bool (g.1)), (g.2.2.2.2.2.2.2.2.2.1), (.bool (g.2.2.1)), (g.2.2.2.2.2.2.2.2.2.2.1), (.bool (g.2.2.2.2.1)), (g.2.2.2.2.2.2.2.2.2.2.2.1), (.bool (g.2.2.2.2.2.2.1)), (g.2.2.2.2.2.2.2.2.2.2.2.2.1)], 46)] w' ∧ RepS (dI .u32) w' (g.2.2.2.2.2.2.2.2.2.2.2.2.2) v33032 x33031.Lo.Num.Mag ∧ RepS (dI .u32) w' (g.2.2.2.2.2.2.2.2.2.2.2.2.2) v33034 x33031.Lo.Den.Mag ∧ RepS (dI .u32) w' (g.2.2.2.2.2.2.2.2.2.2.2.2.2) v33036 x33031.Hi.Num.Mag ∧ RepS (dI .u32) w' (g.2.2.2.2.2.2.2.2.2.2.2.2.2) v33038 x33031.Hi.Den.Mag ∧ At w' (g.2.2.2.2.2.2.2.2.2.2.2.2.2) p33051 [(.bool x33031.Lo.Num.Neg), v33032, (.bool x33031.Lo.Den.Neg), v33034, (.bool x33031.Hi.Num.Neg), v33036, (.bool x33031.Hi.Den.Neg), v33038] ∧ RepS (dI .u32) w' (g.2.2.2.2.2.2.2.2.2.2.2.2.2) (g.2.2.2.2.2.2.2.2.2.1) (g.2.1) ∧ RepS (dI .u32) w' (g.2.2.2.2.2.2.2.2.2.2.2.2.2) (g.2.2.2.2.2.2.2.2.2.2.1) (g.2.2.2.1) ∧ RepS (dI .u32) w' (g.2.2.2.2.2.2.2.2.2.2.2.2.2) (g.2.2.2.2.2.2.2.2.2.2.2.1) (g.2.2.2.2.2.1) ∧ RepS (dI .u32) w' (g.2.2.2.2.2.2.2.2.2.2.2.2.2) (g.2.2.2.2.2.2.2.2.2.2.2.2.1) (g.2.2.2.2.2.2.2.1)) ?_ ?_
  ·
    have hs := hp.stp (Ch.drew [] w33055)
    have hp := hp.drew
    replace a33048 := a33048.step hs
    replace r33024 := r33024.step hs
    replace r33026 := r33026.step hs
    replace r33028 := r33028.step hs
    replace r33030 := r33030.step hs
    replace a33053 := a33053.step hs
    replace r33033 := r33033.step hs
    replace r33035 := r33035.step hs
    replace r33037 := r33037.step hs
    replace r33039 := r33039.step hs
    refine W.heldG (.q 0 (.q 1 (.q 3 (.q 4 (.l 2 (.l 5 (.q 6 (.l 7 (.l 8 .done .no) .no)) (.l 7 (.l 5 (.q 6 (.l 8 .done .no)) .no) .no)) (.l 7 (.l 2 (.l 5 (.q 6 (.l 8 .done .no)) .no) .no) .no)))))) (SK (Stp I33052 w33055.drew I33052) [] []) MX (by kernel_rfl) ⟨Stp.refl _ _, kp_nil⟩ ?_
    have hz := Stp.refl I33052 w33055.drew
    refine ⟨SK.same (by kernel_rfl), ?_⟩
    refine evh0 (rn_field rfl rfl FO46_0) ?_
    refine ⟨SK.same (by kernel_rfl), ?_⟩
    refine evh (fun w' hw => rn_load rfl rfl (run_loadVarA T26 rfl (((a33048.step (S0.si hw)).drop 0).take 4))) ?_
    refine ⟨SK.same (by kernel_rfl), ?_⟩
    refine evh0 (rn_field rfl rfl FO46_1) ?_
    refine ⟨SK.same (by kernel_rfl), ?_⟩
    refine evh (fun w' hw => rn_load rfl rfl (run_loadVarA T26 rfl (((a33048.step (S0.si hw)).drop 4).take 4))) ?_
    refine ⟨?_, ?_⟩
    ·
      obtain ⟨x33368, q33369, q33270⟩ := bind_some q33270
      refine ev_call rfl rfl C16 (((rational_Norm_ok n) _ _  (Rational.mk (Int_2.mk x33022.Lo.Num.Neg x33022.Lo.Num.Mag) (Int_2.mk x33022.Lo.Den.Neg x33022.Lo.Den.Mag)) v33023 r33024 v33025 r33026 hp.imm _ q33369).mono ?_)
      rintro _ w33370 ⟨I33371, v33372, v33374, hv, hq, r33373, r33375⟩
      replace hv := hv.symm
      subst hv
      have hs := hq.st
      have hp := hp.join0 hq
      replace hz := hz.trans hs
      replace a33053 := a33053.step hs
      replace r33033 := r33033.step hs
      replace r33035 := r33035.step hs
      replace r33037 := r33037.step hs
      replace r33039 := r33039.step hs
      replace r33028 := r33028.step hs
      replace r33030 := r33030.step hs
      refine ⟨SK (Stp I33371 w33370 I33371) [] [], ⟨Stp.refl _ _, kp_nil⟩, fun L x h => ⟨hz.held h.1, h.2⟩, ?_⟩
      have hz := Stp.refl I33371 w33370
      refine ⟨?_, ?_⟩
      ·
        obtain ⟨x33376, q33377, q33270⟩ := bind_some q33270
        refine ev_call rfl rfl C16 (((rational_Norm_ok n) _ _  (Rational.mk (Int_2.mk x33022.Hi.Num.Neg x33022.Hi.Num.Mag) (Int_2.mk x33022.Hi.Den.Neg x33022.Hi.Den.Mag)) v33027 r33028 v33029 r33030 hp.imm _ q33377).mono ?_)
        rintro _ w33378 ⟨I33379, v33380, v33382, hv, hq, r33381, r33383⟩
        replace hv := hv.symm
        subst hv
        have hs := hq.st
        have hp := hp.join0 hq
        replace hz := hz.trans hs
        replace a33053 := a33053.step hs
        replace r33033 := r33033.step hs
        replace r33035 := r33035.step hs
        replace r33037 := r33037.step hs
        replace r33039 := r33039.step hs
        replace r33373 := r33373.step hs
        replace r33375 := r33375.step hs
        refine ⟨SK (Stp I33379 w33378 I33379) [] [], ⟨Stp.refl _ _, kp_nil⟩, fun L x h => ⟨hz.held h.1, h.2⟩, ?_⟩
        have hz := Stp.refl I33379 w33378
        refine ⟨SK.same (by kernel_rfl), ?_⟩
        obtain ⟨A33384, m33385, m33386, rfl⟩ := r33373.isSl
        obtain ⟨A33388, m33389, m33390, rfl⟩ := r33375.isSl
        obtain ⟨A33392, m33393, m33394, rfl⟩ := r33381.isSl
        obtain ⟨A33396, m33397, m33398, rfl⟩ := r33383.isSl
        refine evh0 (fun w => rn_build (cs := [(.bool x33368.Num.Neg), (.slice A33384 m33385 m33386), (.bool x33368.Den.Neg), (.slice A33388 m33389 m33390), (.bool x33376.Num.Neg), (.slice A33392 m33393 m33394), (.bool x33376.Den.Neg), (.slice A33396 m33397 m33398)]) rfl rfl T46 PL46 (by kernel_rfl)) ?_
        refine ⟨?_, trivial⟩
        refine ev_alloc hp rfl T46 ?_
        intro g33400 w33401 hp hs
        replace hz := hz.trans hs
        replace a33053 := a33053.step hs
        replace r33033 := r33033.step hs
        replace r33035 := r33035.step hs
        replace r33037 := r33037.step hs
        replace r33039 := r33039.step hs
        replace r33373 := r33373.step hs
        replace r33375 := r33375.step hs
        replace r33381 := r33381.step hs
        replace r33383 := r33383.step hs
        refine ⟨SK (Stp I33379 w33401 I33379) [] [], ⟨Stp.refl _ _, kp_nil⟩, fun L x h => ⟨hz.held h.1, h.2⟩, ?_⟩
        have hz := Stp.refl I33379 w33401
        refine ⟨?_, trivial⟩
        refine ev_storeA hp (i := 0) (off := 0) (vs := [(.bool x33368.Num.Neg), (.slice A33384 m33385 m33386), (.bool x33368.Den.Neg), (.slice A33388 m33389 m33390), (.bool x33376.Num.Neg), (.slice A33392 m33393 m33394), (.bool x33376.Den.Neg), (.slice A33396 m33397 m33398)]) rfl rfl rfl rfl T46 rfl (Nat.le_of_ble_eq_true rfl) (ones_cons rfl (ones_cons r33373.one (ones_cons rfl (ones_cons r33375.one (ones_cons rfl (ones_cons r33381.one (ones_cons rfl (ones_cons r33383.one ones_nil)))))))) ?_
        intro w33402 hp hs
        replace hz := hz.trans hs
        replace a33053 := a33053.step hs
        replace r33033 := r33033.step hs
        replace r33035 := r33035.step hs
        replace r33037 := r33037.step hs
        replace r33039 := r33039.step hs
        replace r33373 := r33373.step hs
        replace r33375 := r33375.step hs
        replace r33381 := r33381.step hs
        replace r33383 := r33383.step hs
        refine ⟨SK (Stp I33379 w33402 I33379) [] [], ⟨Stp.refl _ _, kp_nil⟩, fun L x h => ⟨hz.held h.1, h.2⟩, ?_⟩
        have hz := Stp.refl I33379 w33402
        obtain rfl := Option.some.inj q33270
        have hp := hp.perm [1, 0] (by decide)
        exact ⟨(x33368.Num.Neg, x33368.Num.Mag, x33368.Den.Neg, x33368.Den.Mag, x33376.Num.Neg, x33376.Num.Mag, x33376.Den.Neg, x33376.Den.Mag, g33400, (.slice A33384 m33385 m33386), (.slice A33388 m33389 m33390), (.slice A33392 m33393 m33394), (.slice A33396 m33397 m33398), I33379), (.c rfl (.c rfl (.c rfl .n))), rfl, hp, r33033, r33035, r33037, r33039, a33053, r33373, r33375, r33381, r33383⟩
      refine ⟨?_, trivial⟩
      refine ev_alloc hp rfl T46 ?_
      intro g33403 w33404 hp hs
      replace hz := hz.trans hs
      replace a33053 := a33053.step hs
      replace r33033 := r33033.step hs
      replace r33035 := r33035.step hs
      replace r33037 := r33037.step hs
      replace r33039 := r33039.step hs
      replace r33028 := r33028.step hs
      replace r33030 := r33030.step hs
      replace r33373 := r33373.step hs
      replace r33375 := r33375.step hs
      refine ⟨SK (Stp I33371 w33404 I33371) [] [], ⟨Stp.refl _ _, kp_nil⟩, fun L x h => ⟨hz.held h.1, h.2⟩, ?_⟩
      have hz := Stp.refl I33371 w33404
      refine ⟨?_, trivial⟩
      obtain ⟨x33405, q33406, q33270⟩ := bind_some q33270
      refine ev_call rfl rfl C16 (((rational_Norm_ok n) _ _  (Rational.mk (Int_2.mk x33022.Hi.Num.Neg x33022.Hi.Num.Mag) (Int_2.mk x33022.Hi.Den.Neg x33022.Hi.Den.Mag)) v33027 r33028 v33029 r33030 hp.imm _ q33406).mono ?_)
      rintro _ w33407 ⟨I33408, v33409, v33411, hv, hq, r33410, r33412⟩
      replace hv := hv.symm
      subst hv
      have hs := hq.st
      have hp := hp.join0 hq
      replace hz := hz.trans hs
      replace a33053 := a33053.step hs
      replace r33033 := r33033.step hs
      replace r33035 := r33035.step hs
      replace r33037 := r33037.step hs
      replace r33039 := r33039.step hs
      replace r33373 := r33373.step hs
      replace r33375 := r33375.step hs
      refine ⟨SK (Stp I33408 w33407 I33408) [] [], ⟨Stp.refl _ _, kp_nil⟩, fun L x h => ⟨hz.held h.1, h.2⟩, ?_⟩
      have hz := Stp.refl I33408 w33407
      refine ⟨SK.same (by kernel_rfl), ?_⟩
      obtain ⟨A33413, m33414, m33415, rfl⟩ := r33373.isSl
      obtain ⟨A33417, m33418, m33419, rfl⟩ := r33375.isSl
      obtain ⟨A33421, m33422, m33423, rfl⟩ := r33410.isSl
      obtain ⟨A33425, m33426, m33427, rfl⟩ := r33412.isSl
      refine evh0 (fun w => rn_build (cs := [(.bool x33368.Num.Neg), (.slice A33413 m33414 m33415), (.bool x33368.Den.Neg), (.slice A33417 m33418 m33419), (.bool x33405.Num.Neg), (.slice A33421 m33422 m33423), (.bool x33405.Den.Neg), (.slice A33425 m33426 m33427)]) rfl rfl T46 PL46 (by kernel_rfl)) ?_
      refine ⟨?_, trivial⟩
      refine ev_storeA hp (i := 0) (off := 0) (vs := [(.bool x33368.Num.Neg), (.slice A33413 m33414 m33415), (.bool x33368.Den.Neg), (.slice A33417 m33418 m33419), (.bool x33405.Num.Neg), (.slice A33421 m33422 m33423), (.bool x33405.Den.Neg), (.slice A33425 m33426 m33427)]) rfl rfl rfl rfl T46 rfl (Nat.le_of_ble_eq_true rfl) (ones_cons rfl (ones_cons r33373.one (ones_cons rfl (ones_cons r33375.one (ones_cons rfl (ones_cons r33410.one (ones_cons rfl (ones_cons r33412.one ones_nil)))))))) ?_
      intro w33429 hp hs
      replace hz := hz.trans hs
      replace a33053 := a33053.step hs
      replace r33033 := r33033.step hs
      replace r33035 := r33035.step hs
      replace r33037 := r33037.step hs
      replace r33039 := r33039.step hs
      replace r33373 := r33373.step hs
      replace r33375 := r33375.step hs
      replace r33410 := r33410.step hs
      replace r33412 := r33412.step hs
      refine ⟨SK (Stp I33408 w33429 I33408) [] [], ⟨Stp.refl _ _, kp_nil⟩, fun L x h => ⟨hz.held h.1, h.2⟩, ?_⟩
      have hz := Stp.refl I33408 w33429
      obtain rfl := Option.some.inj q33270
      have hp := hp.perm [1, 0] (by decide)
      exact ⟨(x33368.Num.Neg, x33368.Num.Mag, x33368.Den.Neg, x33368.Den.Mag, x33405.Num.Neg, x33405.Num.Mag, x33405.Den.Neg, x33405.Den.Mag, g33403, (.slice A33413 m33414 m33415), (.slice A33417 m33418 m33419), (.slice A33421 m33422 m33423), (.slice A33425 m33426 m33427), I33408), (.c rfl (.c rfl (.c rfl .n))), rfl, hp, r33033, r33035, r33037, r33039, a33053, r33373, r33375, r33410, r33412⟩
    refine ⟨?_, trivial⟩
    refine ev_alloc hp rfl T46 ?_
    intro g33430 w33431 hp hs
    replace hz := hz.trans hs
    replace a33053 := a33053.step hs
    replace r33033 := r33033.step hs
    replace r33035 := r33035.step hs
    replace r33037 := r33037.step hs
    replace r33039 := r33039.step hs
    replace r33024 := r33024.step hs
    replace r33026 := r33026.step hs
    replace r33028 := r33028.step hs
    replace r33030 := r33030.step hs
    refine ⟨SK (Stp I33052 w33431 I33052) [] [], ⟨Stp.refl _ _, kp_nil⟩, fun L x h => ⟨hz.held h.1, h.2⟩, ?_⟩
    have hz := Stp.refl I33052 w33431
    refine ⟨?_, trivial⟩
    obtain ⟨x33432, q33433, q33270⟩ := bind_some q33270
    refine ev_call rfl rfl C16 (((rational_Norm_ok n) _ _  (Rational.mk (Int_2.mk x33022.Lo.Num.Neg x33022.Lo.Num.Mag) (Int_2.mk x33022.Lo.Den.Neg x33022.Lo.Den.Mag)) v33023 r33024 v33025 r33026 hp.imm _ q33433).mono ?_)
    rintro _ w33434 ⟨I33435, v33436, v33438, hv, hq, r33437, r33439⟩
    replace hv := hv.symm
    subst hv
    have hs := hq.st
    have hp := hp.join0 hq
    replace hz := hz.trans hs
    replace a33053 := a33053.step hs
    replace r33033 := r33033.step hs
    replace r33035 := r33035.step hs
    replace r33037 := r33037.step hs
    replace r33039 := r33039.step hs
    replace r33028 := r33028.step hs
    replace r33030 := r33030.step hs
    refine ⟨SK (Stp I33435 w33434 I33435) [] [], ⟨Stp.refl _ _, kp_nil⟩, fun L x h => ⟨hz.held h.1, h.2⟩, ?_⟩
    have hz := Stp.refl I33435 w33434
    refine ⟨?_, trivial⟩
    obtain ⟨x33440, q33441, q33270⟩ := bind_some q33270
    refine ev_call rfl rfl C16 (((rational_Norm_ok n) _ _  (Rational.mk (Int_2.mk x33022.Hi.Num.Neg x33022.Hi.Num.Mag) (Int_2.mk x33022.Hi.Den.Neg x33022.Hi.Den.Mag)) v33027 r33028 v33029 r33030 hp.imm _ q33441).mono ?_)
    rintro _ w33442 ⟨I33443, v33444, v33446, hv, hq, r33445, r33447⟩
    replace hv := hv.symm
    subst hv
    have hs := hq.st
    have hp := hp.join0 hq
    replace hz := hz.trans hs
    replace a33053 := a33053.step hs
    replace r33033 := r33033.step hs
    replace r33035 := r33035.step hs
    replace r33037 := r33037.step hs
    replace r33039 := r33039.step hs
    replace r33437 := r33437.step hs
    replace r33439 := r33439.step hs
    refine ⟨SK (Stp I33443 w33442 I33443) [] [], ⟨Stp.refl _ _, kp_nil⟩, fun L x h => ⟨hz.held h.1, h.2⟩, ?_⟩
    have hz := Stp.refl I33443 w33442
    refine ⟨SK.same (by kernel_rfl), ?_⟩
    obtain ⟨A33448, m33449, m33450, rfl⟩ := r33437.isSl
    obtain ⟨A33452, m33453, m33454, rfl⟩ := r33439.isSl
    obtain ⟨A33456, m33457, m33458, rfl⟩ := r33445.isSl
    obtain ⟨A33460, m33461, m33462, rfl⟩ := r33447.isSl
    refine evh0 (fun w => rn_build (cs := [(.bool x33432.Num.Neg), (.slice A33448 m33449 m33450), (.bool x33432.Den.Neg), (.slice A33452 m33453 m33454), (.bool x33440.Num.Neg), (.slice A33456 m33457 m33458), (.bool x33440.Den.Neg), (.slice A33460 m33461 m33462)]) rfl rfl T46 PL46 (by kernel_rfl)) ?_
    refine ⟨?_, trivial⟩
    refine ev_storeA hp (i := 0) (off := 0) (vs := [(.bool x33432.Num.Neg), (.slice A33448 m33449 m33450), (.bool x33432.Den.Neg), (.slice A33452 m33453 m33454), (.bool x33440.Num.Neg), (.slice A33456 m33457 m33458), (.bool x33440.Den.Neg), (.slice A33460 m33461 m33462)]) rfl rfl rfl rfl T46 rfl (Nat.le_of_ble_eq_true rfl) (ones_cons rfl (ones_cons r33437.one (ones_cons rfl (ones_cons r33439.one (ones_cons rfl (ones_cons r33445.one (ones_cons rfl (ones_cons r33447.one ones_nil)))))))) ?_
    intro w33464 hp hs
    replace hz := hz.trans hs
    replace a33053 := a33053.step hs
    replace r33033 := r33033.step hs
    replace r33035 := r33035.step hs
    replace r33037 := r33037.step hs
    replace r33039 := r33039.step hs
    replace r33437 := r33437.step hs
    replace r33439 := r33439.step hs
    replace r33445 := r33445.step hs
    replace r33447 := r33447.step hs
    refine ⟨SK (Stp I33443 w33464 I33443) [] [], ⟨Stp.refl _ _, kp_nil⟩, fun L x h => ⟨hz.held h.1, h.2⟩, ?_⟩
    have hz := Stp.refl I33443 w33464
    obtain rfl := Option.some.inj q33270
    have hp := hp.perm [1, 0] (by decide)
    exact ⟨(x33432.Num.Neg, x33432.Num.Mag, x33432.Den.Neg, x33432.Den.Mag, x33440.Num.Neg, x33440.Num.Mag, x33440.Den.Neg, x33440.Den.Mag, g33430, (.slice A33448 m33449 m33450), (.slice A33452 m33453 m33454), (.slice A33456 m33457 m33458), (.slice A33460 m33461 m33462), I33443), (.c rfl (.c rfl (.c rfl .n))), rfl, hp, r33033, r33035, r33037, r33039, a33053, r33437, r33439, r33445, r33447⟩
  ·
    rintro ⟨x33251, x33252, x33255, x33256, x33259, x33260, x33263, x33264, g33250, v33253, v33257, v33261, v33265, I33267⟩ w33268 ⟨hy, hp, r33033, r33035, r33037, r33039, a33053, r33254, r33258, r33262, r33266⟩
    replace hy := hy.symm
    subst hy
    obtain ⟨y33487, q33488, h⟩ := bind_some h
    refine W.cut (γ := (Bool × (List Int) × Bool × (List Int) × Value × Value × (Nat → Prop))) (fun g => [(3, (.pointer (some (p33051)))), (4, (.pointer (some ⟨g33054, 0, none⟩))), (6, (.pointer (some ⟨g33250, 0, none⟩)))]) (fun g w' => y33487 = ((g.1), (g.2.1), (g.2.2.1), (g.2.2.2.1)) ∧ Hp ⟨w0, I0, []⟩ (g.2.2.2.2.2.2) [some (g33054, [(.bool false), (.slice none 0 0), (.bool false), (.slice none 0 0), (.bool false), (.slice none 0 0), (.bool false), (.slice none 0 0)], 46), some (g33250, [(.bool (g.1)), (g.2.2.2.2.1), (.bool (g.2.2.1)), (g.2.2.2.2.2.1), (.bool x33259), v33261, (.bool x33263), v33265], 46)] w' ∧ RepS (dI .u32) w' (g.2.2.2.2.2.2) v33032 x33031.Lo.Num.Mag ∧ RepS (dI .u32) w' (g.2.2.2.2.2.2) v33034 x33031.Lo.Den.Mag ∧ RepS (dI .u32) w' (g.2.2.2.2.2.2) v33036 x33031.Hi.Num.Mag ∧ RepS (dI .u32) w' (g.2.2.2.2.2.2) v33038 x33031.Hi.Den.Mag ∧ At w' (g.2.2.2.2.2.2) p33051 [(.bool x33031.Lo.Num.Neg), v33032, (.bool x33031.Lo.Den.Neg), v33034, (.bool x33031.Hi.Num.Neg), v33036, (.bool x33031.Hi.Den.Neg), v33038] ∧ RepS (dI .u32) w' (g.2.2.2.2.2.2) (g.2.2.2.2.1) (g.2.1) ∧ RepS (dI .u32) w' (g.2.2.2.2.2.2) (g.2.2.2.2.2.1) (g.2.2.2.1) ∧ RepS (dI .u32) w' (g.2.2.2.2.2.2) v33261 x33260 ∧ RepS (dI .u32) w' (g.2.2.2.2.2.2) v33265 x33264) ?_ ?_
    ·
      apply go
      apply go
      refine ev0 (rn_field rfl rfl FO46_0) ?_
      refine ev (rn_load rfl rfl (run_loadVarA T26 rfl ((a33053.drop 0).take 4))) ?_
      refine ev0 (rn_field rfl rfl FO46_0) ?_
      refine ev (rn_load rfl rfl (run_loadVarA T26 rfl (((hp.at_ (i := 1) rfl).drop 0).take 4))) ?_
      obtain ⟨x33489, q33490, q33488⟩ := bind_some q33488
      refine ev_call rfl rfl C28 (((rational_Cmp_ok n) _ _  (Rational.mk (Int_2.mk x33031.Lo.Num.Neg x33031.Lo.Num.Mag) (Int_2.mk x33031.Lo.Den.Neg x33031.Lo.Den.Mag)) v33032 r33033 v33034 r33035 (Rational.mk (Int_2.mk x33251 x33252) (Int_2.mk x33255 x33256)) v33253 r33254 v33257 r33258 hp.imm _ q33490).mono ?_)
      rintro _ w33491 ⟨rfl, hc⟩
      have hs := hp.stp hc
      replace hp := hp.ext hc
      replace a33053 := a33053.step hs
      replace r33033 := r33033.step hs
      replace r33035 := r33035.step hs
      replace r33037 := r33037.step hs
      replace r33039 := r33039.step hs
      replace r33254 := r33254.step hs
      replace r33258 := r33258.step hs
      replace r33262 := r33262.step hs
      replace r33266 := r33266.step hs
      apply go
      refine sel_of (fun hc => ?_) (fun hc => ?_)
      ·
        have q33488 := cond_t q33488 hc
        apply go
        refine ev0 (rn_field rfl rfl FO46_0) ?_
        refine ev (rn_load rfl rfl (run_loadVarA T26 rfl ((a33053.drop 0).take 4))) ?_
        obtain ⟨x33492, q33493, q33488⟩ := bind_some q33488
        refine ev_call rfl rfl C16 (((rational_Norm_ok n) _ _  (Rational.mk (Int_2.mk x33031.Lo.Num.Neg x33031.Lo.Num.Mag) (Int_2.mk x33031.Lo.Den.Neg x33031.Lo.Den.Mag)) v33032 r33033 v33034 r33035 hp.imm _ q33493).mono ?_)
        rintro _ w33494 ⟨I33495, v33496, v33498, hv, hq, r33497, r33499⟩
        replace hv := hv.symm
        subst hv
        have hs := hq.st
        have hp := hp.join0 hq
        replace a33053 := a33053.step hs
        replace r33033 := r33033.step hs
        replace r33035 := r33035.step hs
        replace r33037 := r33037.step hs
        replace r33039 := r33039.step hs
        replace r33254 := r33254.step hs
        replace r33258 := r33258.step hs
        replace r33262 := r33262.step hs
        replace r33266 := r33266.step hs
        refine ev0 (rn_field rfl rfl FO46_0) ?_
        refine ev_storeA hp (i := 1) (off := 0) (vs := [(.bool x33492.Num.Neg), v33496, (.bool x33492.Den.Neg), v33498]) rfl rfl rfl rfl T26 rfl (Nat.le_of_ble_eq_true rfl) (ones_cons rfl (ones_cons r33497.one (ones_cons rfl (ones_cons r33499.one ones_nil)))) ?_
        intro w33500 hp hs
        replace a33053 := a33053.step hs
        replace r33033 := r33033.step hs
        replace r33035 := r33035.step hs
        replace r33037 := r33037.step hs
        replace r33039 := r33039.step hs
        replace r33497 := r33497.step hs
        replace r33499 := r33499.step hs
        replace r33262 := r33262.step hs
        replace r33266 := r33266.step hs
        obtain rfl := Option.some.inj q33488
        exact ⟨(x33492.Num.Neg, x33492.Num.Mag, x33492.Den.Neg, x33492.Den.Mag, v33496, v33498, I33495), (.c rfl (.c rfl (.c rfl .n))), rfl, hp, r33033, r33035, r33037, r33039, a33053, r33497, r33499, r33262, r33266⟩
      ·
        have q33488 := cond_f q33488 hc
        apply go
        obtain rfl := Option.some.inj q33488
        exact ⟨(x33251, x33252, x33255, x33256, v33253, v33257, I33267), (.c rfl (.c rfl (.c rfl .n))), rfl, hp, r33033, r33035, r33037, r33039, a33053, r33254, r33258, r33262, r33266⟩
    ·
      rintro ⟨x33477, x33478, x33481, x33482, v33479, v33483, I33485⟩ w33486 ⟨hy, hp, r33033, r33035, r33037, r33039, a33053, r33480, r33484, r33262, r33266⟩
      replace hy := hy.symm
      subst hy
      obtain ⟨y33523, q33524, h⟩ := bind_some h
      refine W.cut (γ := (Bool × (List Int) × Bool × (List Int) × Value × Value × (Nat → Prop))) (fun g => [(4, (.pointer (some ⟨g33054, 0, none⟩))), (6, (.pointer (some ⟨g33250, 0, none⟩)))]) (fun g w' => y33523 = ((g.1), (g.2.1), (g.2.2.1), (g.2.2.2.1)) ∧ Hp ⟨w0, I0, []⟩ (g.2.2.2.2.2.2) [some (g33054, [(.bool false), (.slice none 0 0), (.bool false), (.slice none 0 0), (.bool false), (.slice none 0 0), (.bool false), (.slice none 0 0)], 46), some (g33250, [(.bool x33477), v33479, (.bool x33481), v33483, (.bool (g.1)), (g.2.2.2.2.1), (.bool (g.2.2.1)), (g.2.2.2.2.2.1)], 46)] w' ∧ RepS (dI .u32) w' (g.2.2.2.2.2.2) v33479 x33478 ∧ RepS (dI .u32) w' (g.2.2.2.2.2.2) v33483 x33482 ∧ RepS (dI .u32) w' (g.2.2.2.2.2.2) (g.2.2.2.2.1) (g.2.1) ∧ RepS (dI .u32) w' (g.2.2.2.2.2.2) (g.2.2.2.2.2.1) (g.2.2.2.1)) ?_ ?_
      ·
        apply go
        apply go
        refine ev0 (rn_field rfl rfl FO46_1) ?_
        refine ev (rn_load rfl rfl (run_loadVarA T26 rfl ((a33053.drop 4).take 4))) ?_
        refine ev0 (rn_field rfl rfl FO46_1) ?_
        refine ev (rn_load rfl rfl (run_loadVarA T26 rfl (((hp.at_ (i := 1) rfl).drop 4).take 4))) ?_
        obtain ⟨x33525, q33526, q33524⟩ := bind_some q33524
        refine ev_call rfl rfl C28 (((rational_Cmp_ok n) _ _  (Rational.mk (Int_2.mk x33031.Hi.Num.Neg x33031.Hi.Num.Mag) (Int_2.mk x33031.Hi.Den.Neg x33031.Hi.Den.Mag)) v33036 r33037 v33038 r33039 (Rational.mk (Int_2.mk x33259 x33260) (Int_2.mk x33263 x33264)) v33261 r33262 v33265 r33266 hp.imm _ q33526).mono ?_)
        rintro _ w33527 ⟨rfl, hc⟩
        have hs := hp.stp hc
        replace hp := hp.ext hc
        replace a33053 := a33053.step hs
        replace r33033 := r33033.step hs
        replace r33035 := r33035.step hs
        replace r33037 := r33037.step hs
        replace r33039 := r33039.step hs
        replace r33480 := r33480.step hs
        replace r33484 := r33484.step hs
        replace r33262 := r33262.step hs
        replace r33266 := r33266.step hs
        apply go
        refine sel_of (fun hc => ?_) (fun hc => ?_)
        ·
          have q33524 := cond_t q33524 hc
          apply go
          refine ev0 (rn_field rfl rfl FO46_1) ?_
          refine ev (rn_load rfl rfl (run_loadVarA T26 rfl ((a33053.drop 4).take 4))) ?_
          obtain ⟨x33528, q33529, q33524⟩ := bind_some q33524
          refine ev_call rfl rfl C16 (((rational_Norm_ok n) _ _  (Rational.mk (Int_2.mk x33031.Hi.Num.Neg x33031.Hi.Num.Mag) (Int_2.mk x33031.Hi.Den.Neg x33031.Hi.Den.Mag)) v33036 r33037 v33038 r33039 hp.imm _ q33529).mono ?_)
          rintro _ w33530 ⟨I33531, v33532, v33534, hv, hq, r33533, r33535⟩
          replace hv := hv.symm
          subst hv
          have hs := hq.st
          have hp := hp.join0 hq
          replace r33480 := r33480.step hs
          replace r33484 := r33484.step hs
          replace r33262 := r33262.step hs
          replace r33266 := r33266.step hs
          refine ev0 (rn_field rfl rfl FO46_1) ?_
          refine ev_storeA hp (i := 1) (off := 4) (vs := [(.bool x33528.Num.Neg), v33532, (.bool x33528.Den.Neg), v33534]) rfl rfl rfl rfl T26 rfl (Nat.le_of_ble_eq_true rfl) (ones_cons rfl (ones_cons r33533.one (ones_cons rfl (ones_cons r33535.one ones_nil)))) ?_
          intro w33536 hp hs
          replace r33480 := r33480.step hs
          replace r33484 := r33484.step hs
          replace r33533 := r33533.step hs
          replace r33535 := r33535.step hs
          obtain rfl := Option.some.inj q33524
          exact ⟨(x33528.Num.Neg, x33528.Num.Mag, x33528.Den.Neg, x33528.Den.Mag, v33532, v33534, I33531), (.c rfl (.c rfl .n)), rfl, hp, r33480, r33484, r33533, r33535⟩
        ·
          have q33524 := cond_f q33524 hc
          apply go
          obtain rfl := Option.some.inj q33524
          exact ⟨(x33259, x33260, x33263, x33264, v33261, v33265, I33485), (.c rfl (.c rfl .n)), rfl, hp, r33480, r33484, r33262, r33266⟩
      ·
        rintro ⟨x33513, x33514, x33517, x33518, v33515, v33519, I33521⟩ w33522 ⟨hy, hp, r33480, r33484, r33516, r33520⟩
        replace hy := hy.symm
        subst hy
        apply go
        apply go
        apply go
        refine ev (rn_load rfl rfl (run_loadVarA T46 rfl (hp.at_ (i := 1) rfl))) ?_
        obtain ⟨x33537, q33538, h⟩ := bind_some h
        refine ev_call rfl rfl C53 (((rational_empty_ok n) _ _  (Interval.mk (Rational.mk (Int_2.mk x33477 x33478) (Int_2.mk x33481 x33482)) (Rational.mk (Int_2.mk x33513 x33514) (Int_2.mk x33517 x33518))) v33479 r33480 v33483 r33484 v33515 r33516 v33519 r33520 hp.imm _ q33538).mono ?_)
        rintro _ w33539 ⟨rfl, hc⟩
        have hs := hp.stp hc
        replace hp := hp.ext hc
        replace r33480 := r33480.step hs
        replace r33484 := r33484.step hs
        replace r33516 := r33516.step hs
        replace r33520 := r33520.step hs
        apply go
        refine sel_of (fun hc => ?_) (fun hc => ?_)
        ·
          have h := cond_t h hc
          apply go
          apply go
          refine ev0 (fun w => rn_build (cs := [(.bool false), (.slice none 0 0), (.bool false), (.slice none 0 0), (.bool false), (.slice none 0 0), (.bool false), (.slice none 0 0)]) rfl rfl T46 PL46 (by kernel_rfl)) ?_
          refine ev_storeA hp (i := 0) (off := 0) (vs := [(.bool false), (.slice none 0 0), (.bool false), (.slice none 0 0), (.bool false), (.slice none 0 0), (.bool false), (.slice none 0 0)]) rfl rfl rfl rfl T46 rfl (Nat.le_of_ble_eq_true rfl) (ones_of rfl) ?_
          intro w33540 hp hs
          replace r33480 := r33480.step hs
          replace r33484 := r33484.step hs
          replace r33516 := r33516.step hs
          replace r33520 := r33520.step hs
          apply go
          obtain rfl := Option.some.inj h
          refine ⟨_, run_loadVarA T46 rfl (hp.at_ (i := 0) rfl), ?_⟩
          have hp := hp.sel [] (by decide)
          exact ⟨I33521, .slice none 0 0, .slice none 0 0, .slice none 0 0, .slice none 0 0, rfl, hp, RepS.nil _ _ _, RepS.nil _ _ _, RepS.nil _ _ _, RepS.nil _ _ _⟩
        ·
          have h := cond_f h hc
          apply go
          apply go
          apply go
          refine ev (rn_load rfl rfl (run_loadVarA T46 rfl (hp.at_ (i := 1) rfl))) ?_
          refine ev_storeA hp (i := 0) (off := 0) (vs := [(.bool x33477), v33479, (.bool x33481), v33483, (.bool x33513), v33515, (.bool x33517), v33519]) rfl rfl rfl rfl T46 rfl (Nat.le_of_ble_eq_true rfl) (ones_cons rfl (ones_cons r33480.one (ones_cons rfl (ones_cons r33484.one (ones_cons rfl (ones_cons r33516.one (ones_cons rfl (ones_cons r33520.one ones_nil)))))))) ?_
          intro w33541 hp hs
          replace r33480 := r33480.step hs
          replace r33484 := r33484.step hs
          replace r33516 := r33516.step hs
          replace r33520 := r33520.step hs
          apply go
          obtain rfl := Option.some.inj h
          refine ⟨_, run_loadVarA T46 rfl (hp.at_ (i := 0) rfl), ?_⟩
          have hp := hp.sel [] (by decide)
          exact ⟨I33521, v33479, v33483, v33515, v33519, rfl, hp, r33480, r33484, r33516, r33520⟩

end Go.Proofs.YtepadjfmcbjkmaaDoor

namespace Go.Proofs.YtepadjfmcbjkmaaDoor
open Go Go.Proofs.YtepadjfmcbjkmaaDoor.Gw Go.RowKit
set_option linter.unusedVariables false
attribute [local irreducible] Ev EvQ EvS EvH
def rational_Plus_S (f : Interval → Interval → Option (Interval × Int)) : Prop := ∀ (w0 : World) (I0 : Nat → Prop) (x33542 : Interval) (v33543 : Value) (r33544 : RepS (dI .u32) w0 I0 v33543 x33542.Lo.Num.Mag) (v33545 : Value) (r33546 : RepS (dI .u32) w0 I0 v33545 x33542.Lo.Den.Mag) (v33547 : Value) (r33548 : RepS (dI .u32) w0 I0 v33547 x33542.Hi.Num.Mag) (v33549 : Value) (r33550 : RepS (dI .u32) w0 I0 v33549 x33542.Hi.Den.Mag) (x33551 : Interval) (v33552 : Value) (r33553 : RepS (dI .u32) w0 I0 v33552 x33551.Lo.Num.Mag) (v33554 : Value) (r33555 : RepS (dI .u32) w0 I0 v33554 x33551.Lo.Den.Mag) (v33556 : Value) (r33557 : RepS (dI .u32) w0 I0 v33556 x33551.Hi.Num.Mag) (v33558 : Value) (r33559 : RepS (dI .u32) w0 I0 v33558 x33551.Hi.Den.Mag) (hI : ∀ g, I0 g → g < w0.heap.size) (r : (Interval × Int)), f x33542 x33551 = some r →
    Ret Tryd.prog 33 #[(.agg #[(.bool x33542.Lo.Num.Neg), v33543, (.bool x33542.Lo.Den.Neg), v33545, (.bool x33542.Hi.Num.Neg), v33547, (.bool x33542.Hi.Den.Neg), v33549]), (.agg #[(.bool x33551.Lo.Num.Neg), v33552, (.bool x33551.Lo.Den.Neg), v33554, (.bool x33551.Hi.Num.Neg), v33556, (.bool x33551.Hi.Den.Neg), v33558])] w0 fun v w1 => ∃ (I1 : Nat → Prop) (u33560 : Value) (u33561 : Value) (u33562 : Value) (u33563 : Value), v = (.tuple #[(.agg #[(.bool r.1.Lo.Num.Neg), u33560, (.bool r.1.Lo.Den.Neg), u33561, (.bool r.1.Hi.Num.Neg), u33562, (.bool r.1.Hi.Den.Neg), u33563]), (.int .i64 r.2)]) ∧ Hp ⟨w0, I0, []⟩ I1 [] w1 ∧ RepS (dI .u32) w1 I1 u33560 r.1.Lo.Num.Mag ∧ RepS (dI .u32) w1 I1 u33561 r.1.Lo.Den.Mag ∧ RepS (dI .u32) w1 I1 u33562 r.1.Hi.Num.Mag ∧ RepS (dI .u32) w1 I1 u33563 r.1.Hi.Den.Mag
theorem rational_Plus_ok (n : Nat) : rational_Plus_S (rational_Plus n) := by
  intro w0 I0 x33542 v33543 r33544 v33545 r33546 v33547 r33548 v33549 r33550 x33551 v33552 r33553 v33554 r33555 v33556 r33557 v33558 r33559 hI r h
  unfold rational_Plus at h
  refine enter Tryd.func33 rfl (Nat.le_of_ble_eq_true rfl) ?_
  have hp : Hp ⟨w0, I0, []⟩ I0 [] w0 := Hp.start hI
  apply go
  apply go
  refine ev_boxI hp rfl rfl ?_
  intro p33566 I33567 w33565 hp hs a33568
  replace r33553 := r33553.step hs
  replace r33555 := r33555.step hs
  replace r33557 := r33557.step hs
  replace r33559 := r33559.step hs
  replace r33544 := r33544.step hs
  replace r33546 := r33546.step hs
  replace r33548 := r33548.step hs
  replace r33550 := r33550.step hs
  refine ev_boxI hp rfl rfl ?_
  intro p33571 I33572 w33570 hp hs a33573
  replace a33568 := a33568.step hs
  replace r33544 := r33544.step hs
  replace r33546 := r33546.step hs
  replace r33548 := r33548.step hs
  replace r33550 := r33550.step hs
  replace r33553 := r33553.step hs
  replace r33555 := r33555.step hs
  replace r33557 := r33557.step hs
  replace r33559 := r33559.step hs
  refine ev_alloc hp rfl T46 ?_
  intro g33574 w33575 hp hs
  replace a33568 := a33568.step hs
  replace r33544 := r33544.step hs
  replace r33546 := r33546.step hs
  replace r33548 := r33548.step hs
  replace r33550 := r33550.step hs
  replace a33573 := a33573.step hs
  replace r33553 := r33553.step hs
  replace r33555 := r33555.step hs
  replace r33557 := r33557.step hs
  replace r33559 := r33559.step hs
  apply go
  obtain ⟨y33584, q33585, h⟩ := bind_some h
  refine W.cut (γ := Bool) (fun g => [(2, (.pointer (some (p33566)))), (3, (.pointer (some (p33571)))), (4, (.pointer (some ⟨g33574, 0, none⟩))), (11, (.bool (g)))]) (fun g w' => y33584 = (g) ∧ Hp ⟨w0, I0, []⟩ I33572 [some (g33574, [(.bool false), (.slice none 0 0), (.bool false), (.slice none 0 0), (.bool false), (.slice none 0 0), (.bool false), (.slice none 0 0)], 46)] w' ∧ RepS (dI .u32) w' I33572 v33543 x33542.Lo.Num.Mag ∧ RepS (dI .u32) w' I33572 v33545 x33542.Lo.Den.Mag ∧ RepS (dI .u32) w' I33572 v33547 x33542.Hi.Num.Mag ∧ RepS (dI .u32) w' I33572 v33549 x33542.Hi.Den.Mag ∧ At w' I33572 p33566 [(.bool x33542.Lo.Num.Neg), v33543, (.bool x33542.Lo.Den.Neg), v33545, (.bool x33542.Hi.Num.Neg), v33547, (.bool x33542.Hi.Den.Neg), v33549] ∧ RepS (dI .u32) w' I33572 v33552 x33551.Lo.Num.Mag ∧ RepS (dI .u32) w' I33572 v33554 x33551.Lo.Den.Mag ∧ RepS (dI .u32) w' I33572 v33556 x33551.Hi.Num.Mag ∧ RepS (dI .u32) w' I33572 v33558 x33551.Hi.Den.Mag ∧ At w' I33572 p33571 [(.bool x33551.Lo.Num.Neg), v33552, (.bool x33551.Lo.Den.Neg), v33554, (.bool x33551.Hi.Num.Neg), v33556, (.bool x33551.Hi.Den.Neg), v33558]) ?_ ?_
  ·
    apply go
    refine ev (rn_load rfl rfl (run_loadVarA T46 rfl a33568)) ?_
    obtain ⟨x33586, q33587, q33585⟩ := bind_some q33585
    refine ev_call rfl rfl C53 (((rational_empty_ok n) _ _  (Interval.mk (Rational.mk (Int_2.mk x33542.Lo.Num.Neg x33542.Lo.Num.Mag) (Int_2.mk x33542.Lo.Den.Neg x33542.Lo.Den.Mag)) (Rational.mk (Int_2.mk x33542.Hi.Num.Neg x33542.Hi.Num.Mag) (Int_2.mk x33542.Hi.Den.Neg x33542.Hi.Den.Mag))) v33543 r33544 v33545 r33546 v33547 r33548 v33549 r33550 hp.imm _ q33587).mono ?_)
    rintro _ w33588 ⟨rfl, hc⟩
    have hs := hp.stp hc
    replace hp := hp.ext hc
    replace a33568 := a33568.step hs
    replace r33544 := r33544.step hs
    replace r33546 := r33546.step hs
    replace r33548 := r33548.step hs
    replace r33550 := r33550.step hs
    replace a33573 := a33573.step hs
    replace r33553 := r33553.step hs
    replace r33555 := r33555.step hs
    replace r33557 := r33557.step hs
    replace r33559 := r33559.step hs
    refine sel_of (fun hc => ?_) (fun hc => ?_)
    ·
      have q33585 := cond_t q33585 hc
      obtain rfl := Option.some.inj q33585
      exact ⟨true, (.c rfl (.c rfl (.c rfl (.c rfl .n)))), rfl, hp, r33544, r33546, r33548, r33550, a33568, r33553, r33555, r33557, r33559, a33573⟩
    ·
      have q33585 := cond_f q33585 hc
      refine ev (rn_load rfl rfl (run_loadVarA T46 rfl a33573)) ?_
      obtain ⟨x33589, q33590, q33585⟩ := bind_some q33585
      refine ev_call rfl rfl C53 (((rational_empty_ok n) _ _  (Interval.mk (Rational.mk (Int_2.mk x33551.Lo.Num.Neg x33551.Lo.Num.Mag) (Int_2.mk x33551.Lo.Den.Neg x33551.Lo.Den.Mag)) (Rational.mk (Int_2.mk x33551.Hi.Num.Neg x33551.Hi.Num.Mag) (Int_2.mk x33551.Hi.Den.Neg x33551.Hi.Den.Mag))) v33552 r33553 v33554 r33555 v33556 r33557 v33558 r33559 hp.imm _ q33590).mono ?_)
      rintro _ w33591 ⟨rfl, hc⟩
      have hs := hp.stp hc
      replace hp := hp.ext hc
      replace a33568 := a33568.step hs
      replace r33544 := r33544.step hs
      replace r33546 := r33546.step hs
      replace r33548 := r33548.step hs
      replace r33550 := r33550.step hs
      replace a33573 := a33573.step hs
      replace r33553 := r33553.step hs
      replace r33555 := r33555.step hs
      replace r33557 := r33557.step hs
      replace r33559 := r33559.step hs
      obtain rfl := Option.some.inj q33585
      exact ⟨x33589, (.c rfl (.c rfl (.c rfl (.c rfl .n)))), rfl, hp, r33544, r33546, r33548, r33550, a33568, r33553, r33555, r33557, r33559, a33573⟩
  ·
    rintro x33582 w33583 ⟨hy, hp, r33544, r33546, r33548, r33550, a33568, r33553, r33555, r33557, r33559, a33573⟩
    replace hy := hy.symm
    subst hy
    apply go
    refine sel_of (fun hc => ?_) (fun hc => ?_)
    ·
      have h := cond_t h hc
      apply go
      apply go
      refine ev0 (fun w => rn_build (cs := [(.bool false), (.slice none 0 0), (.bool false), (.slice none 0 0), (.bool false), (.slice none 0 0), (.bool false), (.slice none 0 0)]) rfl rfl T46 PL46 (by kernel_rfl)) ?_
      refine ev_storeA hp (i := 0) (off := 0) (vs := [(.bool false), (.slice none 0 0), (.bool false), (.slice none 0 0), (.bool false), (.slice none 0 0), (.bool false), (.slice none 0 0)]) rfl rfl rfl rfl T46 rfl (Nat.le_of_ble_eq_true rfl) (ones_of rfl) ?_
      intro w33592 hp hs
      apply go
      obtain rfl := Option.some.inj h
      refine ⟨_, run_loadVarA T46 rfl (hp.at_ (i := 0) rfl), ?_⟩
      have hp := hp.sel [] (by decide)
      exact ⟨I33572, .slice none 0 0, .slice none 0 0, .slice none 0 0, .slice none 0 0, rfl, hp, RepS.nil _ _ _, RepS.nil _ _ _, RepS.nil _ _ _, RepS.nil _ _ _⟩
    ·
      have h := cond_f h hc
      apply go
      apply go
      have hs := hp.stp (Ch.drew [] w33583)
      have hp := hp.drew
      replace a33568 := a33568.step hs
      replace r33544 := r33544.step hs
      replace r33546 := r33546.step hs
      replace r33548 := r33548.step hs
      replace r33550 := r33550.step hs
      replace a33573 := a33573.step hs
      replace r33553 := r33553.step hs
      replace r33555 := r33555.step hs
      replace r33557 := r33557.step hs
      replace r33559 := r33559.step hs
      refine W.held [(0, true), (1, true), (2, true), (3, true), (5, true), (6, true), (7, true), (8, true), (4, false), (9, false), (10, true), (11, false), (12, true)] (Stp I33572 w33583.drew I33572) MX (by kernel_rfl) (Stp.refl _ _) ?_
      have hz := Stp.refl I33572 w33583.drew
      refine evh0 (rn_field rfl rfl FO46_0) ?_
      refine evh (fun w' hw => rn_load rfl rfl (run_loadVarA T26 rfl (((a33568.step hw).drop 0).take 4))) ?_
      refine evh0 (rn_field rfl rfl FO46_0) ?_
      refine evh (fun w' hw => rn_load rfl rfl (run_loadVarA T26 rfl (((a33573.step hw).drop 0).take 4))) ?_
      refine evh0 (rn_field rfl rfl FO46_1) ?_
      refine evh (fun w' hw => rn_load rfl rfl (run_loadVarA T26 rfl (((a33568.step hw).drop 4).take 4))) ?_
      refine evh0 (rn_field rfl rfl FO46_1) ?_
      refine evh (fun w' hw => rn_load rfl rfl (run_loadVarA T26 rfl (((a33573.step hw).drop 4).take 4))) ?_
      obtain ⟨x33626, q33627, h⟩ := bind_some h
      refine ev_call rfl rfl C19 (((rational_Add_ok n) _ _  (Rational.mk (Int_2.mk x33542.Lo.Num.Neg x33542.Lo.Num.Mag) (Int_2.mk x33542.Lo.Den.Neg x33542.Lo.Den.Mag)) v33543 r33544 v33545 r33546 (Rational.mk (Int_2.mk x33551.Lo.Num.Neg x33551.Lo.Num.Mag) (Int_2.mk x33551.Lo.Den.Neg x33551.Lo.Den.Mag)) v33552 r33553 v33554 r33555 hp.imm _ q33627).mono ?_)
      rintro _ w33628 ⟨I33629, v33630, v33632, hv, hq, r33631, r33633⟩
      replace hv := hv.symm
      subst hv
      have hs := hq.st
      have hp := hp.join0 hq
      replace hz := hz.trans hs
      replace r33548 := r33548.step hs
      replace r33550 := r33550.step hs
      replace r33557 := r33557.step hs
      replace r33559 := r33559.step hs
      refine ⟨Stp I33629 w33628 I33629, Stp.refl _ _, fun x hx => hz.held hx, ?_⟩
      have hz := Stp.refl I33629 w33628
      obtain ⟨x33634, q33635, h⟩ := bind_some h
      refine ev_call rfl rfl C19 (((rational_Add_ok n) _ _  (Rational.mk (Int_2.mk x33542.Hi.Num.Neg x33542.Hi.Num.Mag) (Int_2.mk x33542.Hi.Den.Neg x33542.Hi.Den.Mag)) v33547 r33548 v33549 r33550 (Rational.mk (Int_2.mk x33551.Hi.Num.Neg x33551.Hi.Num.Mag) (Int_2.mk x33551.Hi.Den.Neg x33551.Hi.Den.Mag)) v33556 r33557 v33558 r33559 hp.imm _ q33635).mono ?_)
      rintro _ w33636 ⟨I33637, v33638, v33640, hv, hq, r33639, r33641⟩
      replace hv := hv.symm
      subst hv
      have hs := hq.st
      have hp := hp.join0 hq
      replace hz := hz.trans hs
      replace r33631 := r33631.step hs
      replace r33633 := r33633.step hs
      refine ⟨Stp I33637 w33636 I33637, Stp.refl _ _, fun x hx => hz.held hx, ?_⟩
      have hz := Stp.refl I33637 w33636
      obtain ⟨A33642, m33643, m33644, rfl⟩ := r33631.isSl
      obtain ⟨A33646, m33647, m33648, rfl⟩ := r33633.isSl
      obtain ⟨A33650, m33651, m33652, rfl⟩ := r33639.isSl
      obtain ⟨A33654, m33655, m33656, rfl⟩ := r33641.isSl
      refine evh0 (fun w => rn_build (cs := [(.bool x33626.Num.Neg), (.slice A33642 m33643 m33644), (.bool x33626.Den.Neg), (.slice A33646 m33647 m33648), (.bool x33634.Num.Neg), (.slice A33650 m33651 m33652), (.bool x33634.Den.Neg), (.slice A33654 m33655 m33656)]) rfl rfl T46 PL46 (by kernel_rfl)) ?_
      refine ev_storeA hp (i := 0) (off := 0) (vs := [(.bool x33626.Num.Neg), (.slice A33642 m33643 m33644), (.bool x33626.Den.Neg), (.slice A33646 m33647 m33648), (.bool x33634.Num.Neg), (.slice A33650 m33651 m33652), (.bool x33634.Den.Neg), (.slice A33654 m33655 m33656)]) rfl rfl rfl rfl T46 rfl (Nat.le_of_ble_eq_true rfl) (ones_cons rfl (ones_cons r33631.one (ones_cons rfl (ones_cons r33633.one (ones_cons rfl (ones_cons r33639.one (ones_cons rfl (ones_cons r33641.one ones_nil)))))))) ?_
      intro w33658 hp hs
      replace hz := hz.trans hs
      replace r33631 := r33631.step hs
      replace r33633 := r33633.step hs
      replace r33639 := r33639.step hs
      replace r33641 := r33641.step hs
      refine ⟨Stp I33637 w33658 I33637, Stp.refl _ _, fun x hx => hz.held hx, ?_⟩
      have hz := Stp.refl I33637 w33658
      apply go
      obtain rfl := Option.some.inj h
      refine ⟨_, run_loadVarA T46 rfl (hp.at_ (i := 0) rfl), ?_⟩
      have hp := hp.sel [] (by decide)
      exact ⟨I33637, (.slice A33642 m33643 m33644), (.slice A33646 m33647 m33648), (.slice A33650 m33651 m33652), (.slice A33654 m33655 m33656), rfl, hp, r33631, r33633, r33639, r33641⟩

end Go.Proofs.YtepadjfmcbjkmaaDoor

namespace Go.Proofs.YtepadjfmcbjkmaaDoor
open Go Go.Proofs.YtepadjfmcbjkmaaDoor.Gw Go.RowKit
set_option linter.unusedVariables false
attribute [local irreducible] Ev EvQ EvS EvH vch
def rational_Times_S (f : Interval → Interval → Option (Interval × Int)) : Prop := ∀ (w0 : World) (I0 : Nat → Prop) (x33659 : Interval) (v33660 : Value) (r33661 : RepS (dI .u32) w0 I0 v33660 x33659.Lo.Num.Mag) (v33662 : Value) (r33663 : RepS (dI .u32) w0 I0 v33662 x33659.Lo.Den.Mag) (v33664 : Value) (r33665 : RepS (dI .u32) w0 I0 v33664 x33659.Hi.Num.Mag) (v33666 : Value) (r33667 : RepS (dI .u32) w0 I0 v33666 x33659.Hi.Den.Mag) (x33668 : Interval) (v33669 : Value) (r33670 : RepS (dI .u32) w0 I0 v33669 x33668.Lo.Num.Mag) (v33671 : Value) (r33672 : RepS (dI .u32) w0 I0 v33671 x33668.Lo.Den.Mag) (v33673 : Value) (r33674 : RepS (dI .u32) w0 I0 v33673 x33668.Hi.Num.Mag) (v33675 : Value) (r33676 : RepS (dI .u32) w0 I0 v33675 x33668.Hi.Den.Mag) (hI : ∀ g, I0 g → g < w0.heap.size) (r : (Interval × Int)), f x33659 x33668 = some r →
    Ret Tryd.prog 34 #[(.agg #[(.bool x33659.Lo.Num.Neg), v33660, (.bool x33659.Lo.Den.Neg), v33662, (.bool x33659.Hi.Num.Neg), v33664, (.bool x33659.Hi.Den.Neg), v33666]), (.agg #[(.bool x33668.Lo.Num.Neg), v33669, (.bool x33668.Lo.Den.Neg), v33671, (.bool x33668.Hi.Num.Neg), v33673, (.bool x33668.Hi.Den.Neg), v33675])] w0 fun v w1 => ∃ (I1 : Nat → Prop) (u33677 : Value) (u33678 : Value) (u33679 : Value) (u33680 : Value), v = (.tuple #[(.agg #[(.bool r.1.Lo.Num.Neg), u33677, (.bool r.1.Lo.Den.Neg), u33678, (.bool r.1.Hi.Num.Neg), u33679, (.bool r.1.Hi.Den.Neg), u33680]), (.int .i64 r.2)]) ∧ Hp ⟨w0, I0, []⟩ I1 [] w1 ∧ RepS (dI .u32) w1 I1 u33677 r.1.Lo.Num.Mag ∧ RepS (dI .u32) w1 I1 u33678 r.1.Lo.Den.Mag ∧ RepS (dI .u32) w1 I1 u33679 r.1.Hi.Num.Mag ∧ RepS (dI .u32) w1 I1 u33680 r.1.Hi.Den.Mag
theorem rational_Times_ok (n : Nat) : rational_Times_S (rational_Times n) := by
  intro w0 I0 x33659 v33660 r33661 v33662 r33663 v33664 r33665 v33666 r33667 x33668 v33669 r33670 v33671 r33672 v33673 r33674 v33675 r33676 hI r h
  unfold rational_Times at h
  refine enter Tryd.func34 rfl (Nat.le_of_ble_eq_true rfl) ?_
  have hp : Hp ⟨w0, I0, []⟩ I0 [] w0 := Hp.start hI
  apply go
  apply go
  refine ev_boxI hp rfl rfl ?_
  intro p33683 I33684 w33682 hp hs a33685
  replace r33670 := r33670.step hs
  replace r33672 := r33672.step hs
  replace r33674 := r33674.step hs
  replace r33676 := r33676.step hs
  replace r33661 := r33661.step hs
  replace r33663 := r33663.step hs
  replace r33665 := r33665.step hs
  replace r33667 := r33667.step hs
  refine ev_boxI hp rfl rfl ?_
  intro p33688 I33689 w33687 hp hs a33690
  replace a33685 := a33685.step hs
  replace r33661 := r33661.step hs
  replace r33663 := r33663.step hs
  replace r33665 := r33665.step hs
  replace r33667 := r33667.step hs
  replace r33670 := r33670.step hs
  replace r33672 := r33672.step hs
  replace r33674 := r33674.step hs
  replace r33676 := r33676.step hs
  refine ev_alloc hp rfl T46 ?_
  intro g33691 w33692 hp hs
  replace a33685 := a33685.step hs
  replace r33661 := r33661.step hs
  replace r33663 := r33663.step hs
  replace r33665 := r33665.step hs
  replace r33667 := r33667.step hs
  replace a33690 := a33690.step hs
  replace r33670 := r33670.step hs
  replace r33672 := r33672.step hs
  replace r33674 := r33674.step hs
  replace r33676 := r33676.step hs
  apply go
  obtain ⟨y33701, q33702, h⟩ := bind_some h
  refine W.cut (γ := Bool) (fun g => [(2, (.pointer (some (p33683)))), (3, (.pointer (some (p33688)))), (4, (.pointer (some ⟨g33691, 0, none⟩))), (15, (.bool (g)))]) (fun g w' => y33701 = (g) ∧ Hp ⟨w0, I0, []⟩ I33689 [some (g33691, [(.bool false), (.slice none 0 0), (.bool false), (.slice none 0 0), (.bool false), (.slice none 0 0), (.bool false), (.slice none 0 0)], 46)] w' ∧ RepS (dI .u32) w' I33689 v33660 x33659.Lo.Num.Mag ∧ RepS (dI .u32) w' I33689 v33662 x33659.Lo.Den.Mag ∧ RepS (dI .u32) w' I33689 v33664 x33659.Hi.Num.Mag ∧ RepS (dI .u32) w' I33689 v33666 x33659.Hi.Den.Mag ∧ At w' I33689 p33683 [(.bool x33659.Lo.Num.Neg), v33660, (.bool x33659.Lo.Den.Neg), v33662, (.bool x33659.Hi.Num.Neg), v33664, (.bool x33659.Hi.Den.Neg), v33666] ∧ RepS (dI .u32) w' I33689 v33669 x33668.Lo.Num.Mag ∧ RepS (dI .u32) w' I33689 v33671 x33668.Lo.Den.Mag ∧ RepS (dI .u32) w' I33689 v33673 x33668.Hi.Num.Mag ∧ RepS (dI .u32) w' I33689 v33675 x33668.Hi.Den.Mag ∧ At w' I33689 p33688 [(.bool x33668.Lo.Num.Neg), v33669, (.bool x33668.Lo.Den.Neg), v33671, (.bool x33668.Hi.Num.Neg), v33673, (.bool x33668.Hi.Den.Neg), v33675]) ?_ ?_
  ·
    apply go
    refine ev (rn_load rfl rfl (run_loadVarA T46 rfl a33685)) ?_
    obtain ⟨x33703, q33704, q33702⟩ := bind_some q33702
    refine ev_call rfl rfl C53 (((rational_empty_ok n) _ _  (Interval.mk (Rational.mk (Int_2.mk x33659.Lo.Num.Neg x33659.Lo.Num.Mag) (Int_2.mk x33659.Lo.Den.Neg x33659.Lo.Den.Mag)) (Rational.mk (Int_2.mk x33659.Hi.Num.Neg x33659.Hi.Num.Mag) (Int_2.mk x33659.Hi.Den.Neg x33659.Hi.Den.Mag))) v33660 r33661 v33662 r33663 v33664 r33665 v33666 r33667 hp.imm _ q33704).mono ?_)
    rintro _ w33705 ⟨rfl, hc⟩
    have hs := hp.stp hc
    replace hp := hp.ext hc
    replace a33685 := a33685.step hs
    replace r33661 := r33661.step hs
    replace r33663 := r33663.step hs
    replace r33665 := r33665.step hs
    replace r33667 := r33667.step hs
    replace a33690 := a33690.step hs
    replace r33670 := r33670.step hs
    replace r33672 := r33672.step hs
    replace r33674 := r33674.step hs
    replace r33676 := r33676.step hs
    refine sel_of (fun hc => ?_) (fun hc => ?_)
    ·
      have q33702 := cond_t q33702 hc
      obtain rfl := Option.some.inj q33702
      exact ⟨true, (.c rfl (.c rfl (.c rfl (.c rfl .n)))), rfl, hp, r33661, r33663, r33665, r33667, a33685, r33670, r33672, r33674, r33676, a33690⟩
    ·
      have q33702 := cond_f q33702 hc
      refine ev (rn_load rfl rfl (run_loadVarA T46 rfl a33690)) ?_
      obtain ⟨x33706, q33707, q33702⟩ := bind_some q33702
      refine ev_call rfl rfl C53 (((rational_empty_ok n) _ _  (Interval.mk (Rational.mk (Int_2.mk x33668.Lo.Num.Neg x33668.Lo.Num.Mag) (Int_2.mk x33668.Lo.Den.Neg x33668.Lo.Den.Mag)) (Rational.mk (Int_2.mk x33668.Hi.Num.Neg x33668.Hi.Num.Mag) (Int_2.mk x33668.Hi.Den.Neg x33668.Hi.Den.Mag))) v33669 r33670 v33671 r33672 v33673 r33674 v33675 r33676 hp.imm _ q33707).mono ?_)
      rintro _ w33708 ⟨rfl, hc⟩
      have hs := hp.stp hc
      replace hp := hp.ext hc
      replace a33685 := a33685.step hs
      replace r33661 := r33661.step hs
      replace r33663 := r33663.step hs
      replace r33665 := r33665.step hs
      replace r33667 := r33667.step hs
      replace a33690 := a33690.step hs
      replace r33670 := r33670.step hs
      replace r33672 := r33672.step hs
      replace r33674 := r33674.step hs
      replace r33676 := r33676.step hs
      obtain rfl := Option.some.inj q33702
      exact ⟨x33706, (.c rfl (.c rfl (.c rfl (.c rfl .n)))), rfl, hp, r33661, r33663, r33665, r33667, a33685, r33670, r33672, r33674, r33676, a33690⟩
  ·
    rintro x33699 w33700 ⟨hy, hp, r33661, r33663, r33665, r33667, a33685, r33670, r33672, r33674, r33676, a33690⟩
    replace hy := hy.symm
    subst hy
    apply go
    refine sel_of (fun hc => ?_) (fun hc => ?_)
    ·
      have h := cond_t h hc
      apply go
      apply go
      refine ev0 (fun w => rn_build (cs := [(.bool false), (.slice none 0 0), (.bool false), (.slice none 0 0), (.bool false), (.slice none 0 0), (.bool false), (.slice none 0 0)]) rfl rfl T46 PL46 (by kernel_rfl)) ?_
      refine ev_storeA hp (i := 0) (off := 0) (vs := [(.bool false), (.slice none 0 0), (.bool false), (.slice none 0 0), (.bool false), (.slice none 0 0), (.bool false), (.slice none 0 0)]) rfl rfl rfl rfl T46 rfl (Nat.le_of_ble_eq_true rfl) (ones_of rfl) ?_
      intro w33709 hp hs
      apply go
      obtain rfl := Option.some.inj h
      refine ⟨_, run_loadVarA T46 rfl (hp.at_ (i := 0) rfl), ?_⟩
      have hp := hp.sel [] (by decide)
      exact ⟨I33689, .slice none 0 0, .slice none 0 0, .slice none 0 0, .slice none 0 0, rfl, hp, RepS.nil _ _ _, RepS.nil _ _ _, RepS.nil _ _ _, RepS.nil _ _ _⟩
    ·
      have h := cond_f h hc
      apply go
      apply go
      apply go
      refine ev0 (rn_field rfl rfl FO46_0) ?_
      refine ev (rn_load rfl rfl (run_loadVarA T26 rfl ((a33685.drop 0).take 4))) ?_
      refine ev0 (rn_field rfl rfl FO46_0) ?_
      refine ev (rn_load rfl rfl (run_loadVarA T26 rfl ((a33690.drop 0).take 4))) ?_
      obtain ⟨x33710, q33711, h⟩ := bind_some h
      refine ev_call rfl rfl C23 (((rational_Mul_ok n) _ _  (Rational.mk (Int_2.mk x33659.Lo.Num.Neg x33659.Lo.Num.Mag) (Int_2.mk x33659.Lo.Den.Neg x33659.Lo.Den.Mag)) v33660 r33661 v33662 r33663 (Rational.mk (Int_2.mk x33668.Lo.Num.Neg x33668.Lo.Num.Mag) (Int_2.mk x33668.Lo.Den.Neg x33668.Lo.Den.Mag)) v33669 r33670 v33671 r33672 hp.imm _ q33711).mono ?_)
      rintro _ w33712 ⟨I33713, v33714, v33716, hv, hq, r33715, r33717⟩
      replace hv := hv.symm
      subst hv
      have hs := hq.st
      have hp := hp.join0 hq
      replace a33685 := a33685.step hs
      replace r33661 := r33661.step hs
      replace r33663 := r33663.step hs
      replace r33665 := r33665.step hs
      replace r33667 := r33667.step hs
      replace a33690 := a33690.step hs
      replace r33670 := r33670.step hs
      replace r33672 := r33672.step hs
      replace r33674 := r33674.step hs
      replace r33676 := r33676.step hs
      refine ev_alloc hp rfl T26 ?_
      intro g33718 w33719 hp hs
      replace a33685 := a33685.step hs
      replace r33661 := r33661.step hs
      replace r33663 := r33663.step hs
      replace r33665 := r33665.step hs
      replace r33667 := r33667.step hs
      replace a33690 := a33690.step hs
      replace r33670 := r33670.step hs
      replace r33672 := r33672.step hs
      replace r33674 := r33674.step hs
      replace r33676 := r33676.step hs
      replace r33715 := r33715.step hs
      replace r33717 := r33717.step hs
      refine ev_storeA hp (i := 0) (off := 0) (vs := [(.bool x33710.Num.Neg), v33714, (.bool x33710.Den.Neg), v33716]) rfl rfl rfl rfl T26 rfl (Nat.le_of_ble_eq_true rfl) (ones_cons rfl (ones_cons r33715.one (ones_cons rfl (ones_cons r33717.one ones_nil)))) ?_
      intro w33720 hp hs
      replace a33685 := a33685.step hs
      replace r33661 := r33661.step hs
      replace r33663 := r33663.step hs
      replace r33665 := r33665.step hs
      replace r33667 := r33667.step hs
      replace a33690 := a33690.step hs
      replace r33670 := r33670.step hs
      replace r33672 := r33672.step hs
      replace r33674 := r33674.step hs
      replace r33676 := r33676.step hs
      replace r33715 := r33715.step hs
      replace r33717 := r33717.step hs
      apply go
      apply go
      refine ev (rn_load rfl rfl (run_loadVarA T26 rfl (hp.at_ (i := 0) rfl))) ?_
      refine ev (rn_load rfl rfl (run_loadVarA T26 rfl (hp.at_ (i := 0) rfl))) ?_
      obtain ⟨A33721, m33722, m33723, rfl⟩ := r33715.isSl
      obtain ⟨A33725, m33726, m33727, rfl⟩ := r33717.isSl
      refine ev0 (fun w => rn_build (cs := [(.bool x33710.Num.Neg), (.slice A33721 m33722 m33723), (.bool x33710.Den.Neg), (.slice A33725 m33726 m33727), (.bool x33710.Num.Neg), (.slice A33721 m33722 m33723), (.bool x33710.Den.Neg), (.slice A33725 m33726 m33727)]) rfl rfl T46 PL46 (by kernel_rfl)) ?_
      refine ev_alloc hp rfl T46 ?_
      intro g33729 w33730 hp hs
      replace a33685 := a33685.step hs
      replace r33661 := r33661.step hs
      replace r33663 := r33663.step hs
      replace r33665 := r33665.step hs
      replace r33667 := r33667.step hs
      replace a33690 := a33690.step hs
      replace r33670 := r33670.step hs
      replace r33672 := r33672.step hs
      replace r33674 := r33674.step hs
      replace r33676 := r33676.step hs
      replace r33715 := r33715.step hs
      replace r33717 := r33717.step hs
      refine ev_storeA hp (i := 0) (off := 0) (vs := [(.bool x33710.Num.Neg), (.slice A33721 m33722 m33723), (.bool x33710.Den.Neg), (.slice A33725 m33726 m33727), (.bool x33710.Num.Neg), (.slice A33721 m33722 m33723), (.bool x33710.Den.Neg), (.slice A33725 m33726 m33727)]) rfl rfl rfl rfl T46 rfl (Nat.le_of_ble_eq_true rfl) (ones_cons rfl (ones_cons r33715.one (ones_cons rfl (ones_cons r33717.one (ones_cons rfl (ones_cons r33715.one (ones_cons rfl (ones_cons r33717.one ones_nil)))))))) ?_
      intro w33731 hp hs
      replace a33685 := a33685.step hs
      replace r33661 := r33661.step hs
      replace r33663 := r33663.step hs
      replace r33665 := r33665.step hs
      replace r33667 := r33667.step hs
      replace a33690 := a33690.step hs
      replace r33670 := r33670.step hs
      replace r33672 := r33672.step hs
      replace r33674 := r33674.step hs
      replace r33676 := r33676.step hs
      replace r33715 := r33715.step hs
      replace r33717 := r33717.step hs
      obtain ⟨y34166, q34167, h⟩ := bind_some h
      refine W.cut (γ := (Bool × (List Int) × Bool × (List Int) × Bool × (List Int) × Bool × (List Int) × Value × Value × Value × Value × (Nat → Prop))) (fun g => [(4, (.pointer (some ⟨g33691, 0, none⟩))), (7, (.pointer (some ⟨g33729, 0, none⟩)))]) (fun g w' => y34166 = ((g.1), (g.2.1), (g.2.2.1), (g.2.2.2.1), (g.2.2.2.2.1), (g.2.2.2.2.2.1), (g.2.2.2.2.2.2.1), (g.2.2.2.2.2.2.2.1)) ∧ Hp ⟨w0, I0, []⟩ (g.2.2.2.2.2.2.2.2.2.2.2.2) [some (g33691, [(.bool false), (.slice none 0 0), (.bool false), (.slice none 0 0), (.bool false), (.slice none 0 0), (.bool false), (.slice none 0 0)], 46), some (g33729, [(.bool (g.1)), (g.2.2.2.2.2.2.2.2.1), (.bool (g.2.2.1)), (g.2.2.2.2.2.2.2.2.2.1), (.bool (g.2.2.2.2.1)), (g.2.2.2.2.2.2.2.2.2.2.1), (.bool (g.2.2.2.2.2.2.1)), (g.2.2.2.2.2.2.2.2.2.2.2.1)], 46)] w' ∧ RepS (dI .u32) w' (g.2.2.2.2.2.2.2.2.2.2.2.2) (g.2.2.2.2.2.2.2.2.1) (g.2.1) ∧ RepS (dI .u32) w' (g.2.2.2.2.2.2.2.2.2.2.2.2) (g.2.2.2.2.2.2.2.2.2.1) (g.2.2.2.1) ∧ RepS (dI .u32) w' (g.2.2.2.2.2.2.2.2.2.2.2.2) (g.2.2.2.2.2.2.2.2.2.2.1) (g.2.2.2.2.2.1) ∧ RepS (dI .u32) w' (g.2.2.2.2.2.2.2.2.2.2.2.2) (g.2.2.2.2.2.2.2.2.2.2.2.1) (g.2.2.2.2.2.2.2.1)) ?_ ?_
      ·
        apply go
        have hs := hp.stp (Ch.drew [] w33731)
        have hp := hp.drew
        replace a33685 := a33685.step hs
        replace r33661 := r33661.step hs
        replace r33663 := r33663.step hs
        replace r33665 := r33665.step hs
        replace r33667 := r33667.step hs
        replace a33690 := a33690.step hs
        replace r33670 := r33670.step hs
        replace r33672 := r33672.step hs
        replace r33674 := r33674.step hs
        replace r33676 := r33676.step hs
        replace r33715 := r33715.step hs
        replace r33717 := r33717.step hs
        refine W.heldT [(0, true), (1, true), (2, true), (3, true), (5, true), (6, true), (7, true), (8, true), (10, true), (11, true), (12, true), (13, true), (17, true), (4, false), (9, false), (14, false), (15, false), (16, true)] (Stp I33713 w33731.drew I33713) MX (by kernel_rfl) (Stp.refl _ _) ?_
        have hz := Stp.refl I33713 w33731.drew
        intro ops hops
        have e0 : nthO ops 0 = some _ := (hops 0).trans rfl
        have e1 : nthO ops 1 = some _ := (hops 1).trans rfl
        have e2 : nthO ops 2 = some _ := (hops 2).trans rfl
        have e3 : nthO ops 3 = some _ := (hops 3).trans rfl
        have e4 : nthO ops 4 = some _ := (hops 4).trans rfl
        have e5 : nthO ops 5 = some _ := (hops 5).trans rfl
        have e6 : nthO ops 6 = some _ := (hops 6).trans rfl
        have e7 : nthO ops 7 = some _ := (hops 7).trans rfl
        have e8 : nthO ops 8 = some _ := (hops 8).trans rfl
        have e9 : nthO ops 9 = some _ := (hops 9).trans rfl
        have e10 : nthO ops 10 = some _ := (hops 10).trans rfl
        have e11 : nthO ops 11 = some _ := (hops 11).trans rfl
        have e12 : nthO ops 12 = some _ := (hops 12).trans rfl
        have e13 : nthO ops 13 = some _ := (hops 13).trans rfl
        have e14 : nthO ops 14 = some _ := (hops 14).trans rfl
        have e15 : nthO ops 15 = some _ := (hops 15).trans rfl
        have e16 : nthO ops 16 = some _ := (hops 16).trans rfl
        have e17 : nthO ops 17 = some _ := (hops 17).trans rfl
        clear hops
        refine vch_q e0 rfl ?_
        refine evh0 (rn_field rfl rfl FO46_0) ?_
        refine vch_q e1 rfl ?_
        refine evh (fun w' hw => rn_load rfl rfl (run_loadVarA T26 rfl (((a33685.step hw).drop 0).take 4))) ?_
        refine vch_q e2 rfl ?_
        refine evh0 (rn_field rfl rfl FO46_1) ?_
        refine vch_q e3 rfl ?_
        refine evh (fun w' hw => rn_load rfl rfl (run_loadVarA T26 rfl (((a33690.step hw).drop 4).take 4))) ?_
        refine vch_q e5 rfl ?_
        refine evh0 (rn_field rfl rfl FO46_1) ?_
        refine vch_q e6 rfl ?_
        refine evh (fun w' hw => rn_load rfl rfl (run_loadVarA T26 rfl (((a33685.step hw).drop 4).take 4))) ?_
        refine vch_q e7 rfl ?_
        refine evh0 (rn_field rfl rfl FO46_0) ?_
        refine vch_q e8 rfl ?_
        refine evh (fun w' hw => rn_load rfl rfl (run_loadVarA T26 rfl (((a33690.step hw).drop 0).take 4))) ?_
        refine vch_q e10 rfl ?_
        refine evh0 (rn_field rfl rfl FO46_1) ?_
        refine vch_q e11 rfl ?_
        refine evh (fun w' hw => rn_load rfl rfl (run_loadVarA T26 rfl (((a33685.step hw).drop 4).take 4))) ?_
        refine vch_q e12 rfl ?_
        refine evh0 (rn_field rfl rfl FO46_1) ?_
        refine vch_q e13 rfl ?_
        refine evh (fun w' hw => rn_load rfl rfl (run_loadVarA T26 rfl (((a33690.step hw).drop 4).take 4))) ?_
        refine vch_q e17 rfl ?_
        refine vch_l e4 rfl ?_
        obtain ⟨x34220, q34221, q34167⟩ := bind_some q34167
        refine ev_call rfl rfl C23 (((rational_Mul_ok n) _ _  (Rational.mk (Int_2.mk x33659.Lo.Num.Neg x33659.Lo.Num.Mag) (Int_2.mk x33659.Lo.Den.Neg x33659.Lo.Den.Mag)) v33660 r33661 v33662 r33663 (Rational.mk (Int_2.mk x33668.Hi.Num.Neg x33668.Hi.Num.Mag) (Int_2.mk x33668.Hi.Den.Neg x33668.Hi.Den.Mag)) v33673 r33674 v33675 r33676 hp.imm _ q34221).mono ?_)
        rintro _ w34222 ⟨I34223, v34224, v34226, hv, hq, r34225, r34227⟩
        replace hv := hv.symm
        subst hv
        have hs := hq.st
        have hp := hp.join0 hq
        replace hz := hz.trans hs
        replace r33665 := r33665.step hs
        replace r33667 := r33667.step hs
        replace r33670 := r33670.step hs
        replace r33672 := r33672.step hs
        replace r33674 := r33674.step hs
        replace r33676 := r33676.step hs
        replace r33715 := r33715.step hs
        replace r33717 := r33717.step hs
        refine ⟨Stp I34223 w34222 I34223, Stp.refl _ _, fun x hx => hz.held hx, ?_⟩
        have hz := Stp.refl I34223 w34222
        refine vch_l e9 rfl ?_
        obtain ⟨x34228, q34229, q34167⟩ := bind_some q34167
        refine ev_call rfl rfl C23 (((rational_Mul_ok n) _ _  (Rational.mk (Int_2.mk x33659.Hi.Num.Neg x33659.Hi.Num.Mag) (Int_2.mk x33659.Hi.Den.Neg x33659.Hi.Den.Mag)) v33664 r33665 v33666 r33667 (Rational.mk (Int_2.mk x33668.Lo.Num.Neg x33668.Lo.Num.Mag) (Int_2.mk x33668.Lo.Den.Neg x33668.Lo.Den.Mag)) v33669 r33670 v33671 r33672 hp.imm _ q34229).mono ?_)
        rintro _ w34230 ⟨I34231, v34232, v34234, hv, hq, r34233, r34235⟩
        replace hv := hv.symm
        subst hv
        have hs := hq.st
        have hp := hp.join0 hq
        replace hz := hz.trans hs
        replace r33665 := r33665.step hs
        replace r33667 := r33667.step hs
        replace r33674 := r33674.step hs
        replace r33676 := r33676.step hs
        replace r34225 := r34225.step hs
        replace r34227 := r34227.step hs
        replace r33715 := r33715.step hs
        replace r33717 := r33717.step hs
        refine ⟨Stp I34231 w34230 I34231, Stp.refl _ _, fun x hx => hz.held hx, ?_⟩
        have hz := Stp.refl I34231 w34230
        refine vch_l e14 rfl ?_
        obtain ⟨x34236, q34237, q34167⟩ := bind_some q34167
        refine ev_call rfl rfl C23 (((rational_Mul_ok n) _ _  (Rational.mk (Int_2.mk x33659.Hi.Num.Neg x33659.Hi.Num.Mag) (Int_2.mk x33659.Hi.Den.Neg x33659.Hi.Den.Mag)) v33664 r33665 v33666 r33667 (Rational.mk (Int_2.mk x33668.Hi.Num.Neg x33668.Hi.Num.Mag) (Int_2.mk x33668.Hi.Den.Neg x33668.Hi.Den.Mag)) v33673 r33674 v33675 r33676 hp.imm _ q34237).mono ?_)
        rintro _ w34238 ⟨I34239, v34240, v34242, hv, hq, r34241, r34243⟩
        replace hv := hv.symm
        subst hv
        have hs := hq.st
        have hp := hp.join0 hq
        replace hz := hz.trans hs
        replace r34225 := r34225.step hs
        replace r34227 := r34227.step hs
        replace r34233 := r34233.step hs
        replace r34235 := r34235.step hs
        replace r33715 := r33715.step hs
        replace r33717 := r33717.step hs
        refine ⟨Stp I34239 w34238 I34239, Stp.refl _ _, fun x hx => hz.held hx, ?_⟩
        have hz := Stp.refl I34239 w34238
        refine vch_l e15 rfl ?_
        obtain ⟨A34244, m34245, m34246, rfl⟩ := r34225.isSl
        obtain ⟨A34248, m34249, m34250, rfl⟩ := r34227.isSl
        obtain ⟨A34252, m34253, m34254, rfl⟩ := r34233.isSl
        obtain ⟨A34256, m34257, m34258, rfl⟩ := r34235.isSl
        obtain ⟨A34260, m34261, m34262, rfl⟩ := r34241.isSl
        obtain ⟨A34264, m34265, m34266, rfl⟩ := r34243.isSl
        refine ev_litN (d := dRational) (xs := [x34220, x34228, x34236]) (cs := [(.bool x34220.Num.Neg), (.slice A34244 m34245 m34246), (.bool x34220.Den.Neg), (.slice A34248 m34249 m34250), (.bool x34228.Num.Neg), (.slice A34252 m34253 m34254), (.bool x34228.Den.Neg), (.slice A34256 m34257 m34258), (.bool x34236.Num.Neg), (.slice A34260 m34261 m34262), (.bool x34236.Den.Neg), (.slice A34264 m34265 m34266)]) hp rfl rfl Tryd.underlying55 T26 (by decide) (by kernel_rfl) rfl (Elems.cons (d := dRational) (xs := _) (dRational_m r34225 r34227) (Elems.cons (d := dRational) (xs := _) (dRational_m r34233 r34235) (Elems.cons (d := dRational) (xs := _) (dRational_m r34241 r34243) (Elems.nil _ _ _ _)))) ?_
        intro v34268 I34270 w34269 hp hs r34271
        replace hz := hz.trans hs
        replace r33715 := r33715.step hs
        replace r33717 := r33717.step hs
        refine ⟨Stp I34270 w34269 I34270, Stp.refl _ _, fun x hx => hz.held hx, ?_⟩
        have hz := Stp.refl I34270 w34269
        refine vch_q e16 rfl ?_
        refine evh0 (rn_len rfl rfl Tryd.underlying55 r34271) ?_
        refine vch_end ?_
        apply go
        have hp := hp.perm [2, 0] (by decide)
        refine W.loop q34167 (γ := (Value × Value × Value × Value)) (fun s g => [(4, (.pointer (some ⟨g33691, 0, none⟩))), (7, (.pointer (some ⟨g33729, 0, none⟩))), (40, v34268), (41, (.int .i64 ([x34220, x34228, x34236].length : Int))), (42, (.int .i64 (s.2.2.2.2.2.2.2.2)))]) (fun s g w' => Hp ⟨w0, I0, []⟩ I34270 [some (g33691, [(.bool false), (.slice none 0 0), (.bool false), (.slice none 0 0), (.bool false), (.slice none 0 0), (.bool false), (.slice none 0 0)], 46), some (g33729, [(.bool (s.1)), (g.1), (.bool (s.2.2.1)), (g.2.1), (.bool (s.2.2.2.2.1)), (g.2.2.1), (.bool (s.2.2.2.2.2.2.1)), (g.2.2.2)], 46)] w' ∧ RepS (dI .u32) w' I34270 (g.1) (s.2.1) ∧ RepS (dI .u32) w' I34270 (g.2.1) (s.2.2.2.1) ∧ RepS (dI .u32) w' I34270 (g.2.2.1) (s.2.2.2.2.2.1) ∧ RepS (dI .u32) w' I34270 (g.2.2.2) (s.2.2.2.2.2.2.2.1) ∧ RepS dRational w' I34270 v34268 [x34220, x34228, x34236]) ((.slice A33721 m33722 m33723), (.slice A33725 m33726 m33727), (.slice A33721 m33722 m33723), (.slice A33725 m33726 m33727)) (.c rfl (.c rfl (.c rfl (.c rfl (.c rfl .n))))) ⟨hp, r33715, r33717, r33715, r33717, r34271⟩ ?_
        rintro ⟨x34363, x34364, x34367, x34368, x34371, x34372, x34375, x34376, x34379⟩ ⟨v34365, v34369, v34373, v34377⟩ w34488 y34489 ⟨hp, r34366, r34370, r34374, r34378, r34271⟩ q34490 q34491
        unfold rational_Times_L1 at q34490
        apply go
        apply go
        apply go
        apply go
        refine sel_of (fun hc => ?_) (fun hc => ?_)
        ·
          have q34490 := cond_t q34490 hc
          apply go
          obtain ⟨y34545, q34546, q34490⟩ := bind_some q34490
          refine W.cut (γ := (Bool × (List Int) × Bool × (List Int) × Bool × (List Int) × Bool × (List Int) × Value × Value × Value × Value)) (fun g => [(4, (.pointer (some ⟨g33691, 0, none⟩))), (7, (.pointer (some ⟨g33729, 0, none⟩))), (40, v34268), (41, (.int .i64 ([x34220, x34228, x34236].length : Int))), (42, (.int .i64 x34379))]) (fun g w' => y34545 = ((g.1), (g.2.1), (g.2.2.1), (g.2.2.2.1), (g.2.2.2.2.1), (g.2.2.2.2.2.1), (g.2.2.2.2.2.2.1), (g.2.2.2.2.2.2.2.1)) ∧ Hp ⟨w0, I0, []⟩ I34270 [some (g33691, [(.bool false), (.slice none 0 0), (.bool false), (.slice none 0 0), (.bool false), (.slice none 0 0), (.bool false), (.slice none 0 0)], 46), some (g33729, [(.bool (g.1)), (g.2.2.2.2.2.2.2.2.1), (.bool (g.2.2.1)), (g.2.2.2.2.2.2.2.2.2.1), (.bool (g.2.2.2.2.1)), (g.2.2.2.2.2.2.2.2.2.2.1), (.bool (g.2.2.2.2.2.2.1)), (g.2.2.2.2.2.2.2.2.2.2.2)], 46)] w' ∧ RepS (dI .u32) w' I34270 (g.2.2.2.2.2.2.2.2.1) (g.2.1) ∧ RepS (dI .u32) w' I34270 (g.2.2.2.2.2.2.2.2.2.1) (g.2.2.2.1) ∧ RepS (dI .u32) w' I34270 (g.2.2.2.2.2.2.2.2.2.2.1) (g.2.2.2.2.2.1) ∧ RepS (dI .u32) w' I34270 (g.2.2.2.2.2.2.2.2.2.2.2) (g.2.2.2.2.2.2.2.1) ∧ RepS dRational w' I34270 v34268 [x34220, x34228, x34236]) ?_ ?_
          ·
            apply go
            apply go
            apply go
            obtain ⟨x34547, q34548, q34546⟩ := bind_some q34546
            refine ev_index rfl rfl rfl Tryd.underlying55 T26 r34271 q34548 ?_
            intro p34549 c34550 d34551 a34552
            obtain ⟨v34553, v34555, rfl, r34554, r34556⟩ := dRational_o d34551
            refine ev (rn_load rfl rfl (run_loadVarA T26 rfl a34552)) ?_
            refine ev_alloc hp rfl T26 ?_
            intro g34557 w34558 hp hs
            replace r34271 := r34271.step hs
            replace r34554 := r34554.step hs
            replace r34556 := r34556.step hs
            replace r34366 := r34366.step hs
            replace r34370 := r34370.step hs
            replace r34374 := r34374.step hs
            replace r34378 := r34378.step hs
            refine ev_storeA hp (i := 0) (off := 0) (vs := [(.bool x34547.Num.Neg), v34553, (.bool x34547.Den.Neg), v34555]) rfl rfl rfl rfl T26 rfl (Nat.le_of_ble_eq_true rfl) (ones_cons rfl (ones_cons r34554.one (ones_cons rfl (ones_cons r34556.one ones_nil)))) ?_
            intro w34559 hp hs
            replace r34271 := r34271.step hs
            replace r34554 := r34554.step hs
            replace r34556 := r34556.step hs
            replace r34366 := r34366.step hs
            replace r34370 := r34370.step hs
            replace r34374 := r34374.step hs
            replace r34378 := r34378.step hs
            obtain ⟨y34573, q34574, q34546⟩ := bind_some q34546
            refine W.cut (γ := (Bool × (List Int) × Bool × (List Int) × Value × Value)) (fun g => [(4, (.pointer (some ⟨g33691, 0, none⟩))), (7, (.pointer (some ⟨g33729, 0, none⟩))), (9, (.pointer (some ⟨g34557, 0, none⟩))), (40, v34268), (41, (.int .i64 ([x34220, x34228, x34236].length : Int))), (42, (.int .i64 x34379))]) (fun g w' => y34573 = ((g.1), (g.2.1), (g.2.2.1), (g.2.2.2.1)) ∧ Hp ⟨w0, I0, []⟩ I34270 [some (g33691, [(.bool false), (.slice none 0 0), (.bool false), (.slice none 0 0), (.bool false), (.slice none 0 0), (.bool false), (.slice none 0 0)], 46), some (g33729, [(.bool (g.1)), (g.2.2.2.2.1), (.bool (g.2.2.1)), (g.2.2.2.2.2), (.bool x34371), v34373, (.bool x34375), v34377], 46), some (g34557, [(.bool x34547.Num.Neg), v34553, (.bool x34547.Den.Neg), v34555], 26)] w' ∧ RepS (dI .u32) w' I34270 (g.2.2.2.2.1) (g.2.1) ∧ RepS (dI .u32) w' I34270 (g.2.2.2.2.2) (g.2.2.2.1) ∧ RepS (dI .u32) w' I34270 v34373 x34372 ∧ RepS (dI .u32) w' I34270 v34377 x34376 ∧ RepS (dI .u32) w' I34270 v34553 x34547.Num.Mag ∧ RepS (dI .u32) w' I34270 v34555 x34547.Den.Mag ∧ RepS dRational w' I34270 v34268 [x34220, x34228, x34236]) ?_ ?_
            ·
              apply go
              apply go
              refine ev (rn_load rfl rfl (run_loadVarA T26 rfl (hp.at_ (i := 0) rfl))) ?_
              refine ev0 (rn_field rfl rfl FO46_0) ?_
              refine ev (rn_load rfl rfl (run_loadVarA T26 rfl (((hp.at_ (i := 2) rfl).drop 0).take 4))) ?_
              obtain ⟨x34575, q34576, q34574⟩ := bind_some q34574
              refine ev_call rfl rfl C28 (((rational_Cmp_ok n) _ _  (Rational.mk (Int_2.mk x34547.Num.Neg x34547.Num.Mag) (Int_2.mk x34547.Den.Neg x34547.Den.Mag)) v34553 r34554 v34555 r34556 (Rational.mk (Int_2.mk x34363 x34364) (Int_2.mk x34367 x34368)) v34365 r34366 v34369 r34370 hp.imm _ q34576).mono ?_)
              rintro _ w34577 ⟨rfl, hc⟩
              have hs := hp.stp hc
              replace hp := hp.ext hc
              replace r34271 := r34271.step hs
              replace r34554 := r34554.step hs
              replace r34556 := r34556.step hs
              replace r34366 := r34366.step hs
              replace r34370 := r34370.step hs
              replace r34374 := r34374.step hs
              replace r34378 := r34378.step hs
              apply go
              refine sel_of (fun hc => ?_) (fun hc => ?_)
              ·
                have q34574 := cond_t q34574 hc
                apply go
                refine ev (rn_load rfl rfl (run_loadVarA T26 rfl (hp.at_ (i := 0) rfl))) ?_
                refine ev0 (rn_field rfl rfl FO46_0) ?_
                refine ev_storeA hp (i := 2) (off := 0) (vs := [(.bool x34547.Num.Neg), v34553, (.bool x34547.Den.Neg), v34555]) rfl rfl rfl rfl T26 rfl (Nat.le_of_ble_eq_true rfl) (ones_cons rfl (ones_cons r34554.one (ones_cons rfl (ones_cons r34556.one ones_nil)))) ?_
                intro w34578 hp hs
                replace r34271 := r34271.step hs
                replace r34554 := r34554.step hs
                replace r34556 := r34556.step hs
                replace r34374 := r34374.step hs
                replace r34378 := r34378.step hs
                obtain rfl := Option.some.inj q34574
                have hp := hp.perm [1, 2, 0] (by decide)
                exact ⟨(x34547.Num.Neg, x34547.Num.Mag, x34547.Den.Neg, x34547.Den.Mag, v34553, v34555), (.c rfl (.c rfl (.c rfl (.c rfl (.c rfl (.c rfl .n)))))), rfl, hp, r34554, r34556, r34374, r34378, r34554, r34556, r34271⟩
              ·
                have q34574 := cond_f q34574 hc
                apply go
                obtain rfl := Option.some.inj q34574
                have hp := hp.perm [1, 2, 0] (by decide)
                exact ⟨(x34363, x34364, x34367, x34368, v34365, v34369), (.c rfl (.c rfl (.c rfl (.c rfl (.c rfl (.c rfl .n)))))), rfl, hp, r34366, r34370, r34374, r34378, r34554, r34556, r34271⟩
            ·
              rintro ⟨x34564, x34565, x34568, x34569, v34566, v34570⟩ w34572 ⟨hy, hp, r34567, r34571, r34374, r34378, r34554, r34556, r34271⟩
              replace hy := hy.symm
              subst hy
              apply go
              apply go
              refine ev (rn_load rfl rfl (run_loadVarA T26 rfl (hp.at_ (i := 2) rfl))) ?_
              refine ev0 (rn_field rfl rfl FO46_1) ?_
              refine ev (rn_load rfl rfl (run_loadVarA T26 rfl (((hp.at_ (i := 1) rfl).drop 4).take 4))) ?_
              obtain ⟨x34579, q34580, q34546⟩ := bind_some q34546
              refine ev_call rfl rfl C28 (((rational_Cmp_ok n) _ _  (Rational.mk (Int_2.mk x34547.Num.Neg x34547.Num.Mag) (Int_2.mk x34547.Den.Neg x34547.Den.Mag)) v34553 r34554 v34555 r34556 (Rational.mk (Int_2.mk x34371 x34372) (Int_2.mk x34375 x34376)) v34373 r34374 v34377 r34378 hp.imm _ q34580).mono ?_)
              rintro _ w34581 ⟨rfl, hc⟩
              have hs := hp.stp hc
              replace hp := hp.ext hc
              replace r34271 := r34271.step hs
              replace r34567 := r34567.step hs
              replace r34571 := r34571.step hs
              replace r34374 := r34374.step hs
              replace r34378 := r34378.step hs
              replace r34554 := r34554.step hs
              replace r34556 := r34556.step hs
              apply go
              refine sel_of (fun hc => ?_) (fun hc => ?_)
              ·
                have q34546 := cond_t q34546 hc
                apply go
                refine ev (rn_load rfl rfl (run_loadVarA T26 rfl (hp.at_ (i := 2) rfl))) ?_
                refine ev0 (rn_field rfl rfl FO46_1) ?_
                refine ev_storeA hp (i := 1) (off := 4) (vs := [(.bool x34547.Num.Neg), v34553, (.bool x34547.Den.Neg), v34555]) rfl rfl rfl rfl T26 rfl (Nat.le_of_ble_eq_true rfl) (ones_cons rfl (ones_cons r34554.one (ones_cons rfl (ones_cons r34556.one ones_nil)))) ?_
                intro w34582 hp hs
                replace r34271 := r34271.step hs
                replace r34567 := r34567.step hs
                replace r34571 := r34571.step hs
                replace r34554 := r34554.step hs
                replace r34556 := r34556.step hs
                obtain rfl := Option.some.inj q34546
                have hp := hp.sel [0, 1] (by decide)
                exact ⟨(x34564, x34565, x34568, x34569, x34547.Num.Neg, x34547.Num.Mag, x34547.Den.Neg, x34547.Den.Mag, v34566, v34570, v34553, v34555), (.c rfl (.c rfl (.c rfl (.c rfl (.c rfl .n))))), rfl, hp, r34567, r34571, r34554, r34556, r34271⟩
              ·
                have q34546 := cond_f q34546 hc
                apply go
                obtain rfl := Option.some.inj q34546
                have hp := hp.sel [0, 1] (by decide)
                exact ⟨(x34564, x34565, x34568, x34569, x34371, x34372, x34375, x34376, v34566, v34570, v34373, v34377), (.c rfl (.c rfl (.c rfl (.c rfl (.c rfl .n))))), rfl, hp, r34567, r34571, r34374, r34378, r34271⟩
          ·
            rintro ⟨x34528, x34529, x34532, x34533, x34536, x34537, x34540, x34541, v34530, v34534, v34538, v34542⟩ w34544 ⟨hy, hp, r34531, r34535, r34539, r34543, r34271⟩
            replace hy := hy.symm
            subst hy
            apply go
            exact ⟨_, (Option.some.inj q34490).symm, (v34530, v34534, v34538, v34542), (.c rfl (.c rfl (.c rfl (.c rfl (.c rfl .n))))), ⟨hp, r34531, r34535, r34539, r34543, r34271⟩⟩
        ·
          have q34490 := cond_f q34490 hc
          apply go
          have q34583 := congrArg some (q34491 _ (Option.some.inj q34490).symm)
          obtain rfl := Option.some.inj q34583
          exact ⟨(x34363, x34364, x34367, x34368, x34371, x34372, x34375, x34376, v34365, v34369, v34373, v34377, I34270), (.c rfl (.c rfl .n)), rfl, hp, r34366, r34370, r34374, r34378⟩
      ·
        rintro ⟨x34148, x34149, x34152, x34153, x34156, x34157, x34160, x34161, v34150, v34154, v34158, v34162, I34164⟩ w34165 ⟨hy, hp, r34151, r34155, r34159, r34163⟩
        replace hy := hy.symm
        subst hy
        apply go
        have hs := hp.stp (Ch.drew [] w34165)
        have hp := hp.drew
        replace r34151 := r34151.step hs
        replace r34155 := r34155.step hs
        replace r34159 := r34159.step hs
        replace r34163 := r34163.step hs
        refine W.heldG (.q 0 (.q 1 (.q 3 (.q 4 (.l 2 (.q 6 (.l 5 (.l 7 (.q 8 (.l 9 .done .no)) .no) .no)) .no))))) (SK (Stp I34164 w34165.drew I34164) [(g33729, [(.bool x34148), v34150, (.bool x34152), v34154, (.bool x34156), v34158, (.bool x34160), v34162], 46)] [[7, 9]]) MX (by kernel_rfl) ⟨Stp.refl _ _, (kp_cons (fun _ => (hp.own 1 _ _ _ rfl).1) kp_nil)⟩ ?_
        have hz := Stp.refl I34164 w34165.drew
        refine ⟨SK.same (by kernel_rfl), ?_⟩
        refine evh0 (rn_field rfl rfl FO46_0) ?_
        refine ⟨SK.same (by kernel_rfl), ?_⟩
        refine evh (fun w' hw => rn_load rfl rfl (run_loadVarA T26 rfl ((((S0.keep (p := 0) hw rfl rfl (by kernel_rfl)).at_ (i := 0) rfl).drop 0).take 4))) ?_
        refine ⟨SK.same (by kernel_rfl), ?_⟩
        refine evh0 (rn_field rfl rfl FO46_1) ?_
        refine ⟨SK.same (by kernel_rfl), ?_⟩
        refine evh (fun w' hw => rn_load rfl rfl (run_loadVarA T26 rfl ((((S0.keep (p := 0) hw rfl rfl (by kernel_rfl)).at_ (i := 0) rfl).drop 4).take 4))) ?_
        refine ⟨?_, trivial⟩
        obtain ⟨x34602, q34603, h⟩ := bind_some h
        refine ev_call rfl rfl C16 (((rational_Norm_ok n) _ _  (Rational.mk (Int_2.mk x34148 x34149) (Int_2.mk x34152 x34153)) v34150 r34151 v34154 r34155 hp.imm _ q34603).mono ?_)
        rintro _ w34604 ⟨I34605, v34606, v34608, hv, hq, r34607, r34609⟩
        replace hv := hv.symm
        subst hv
        have hs := hq.st
        have hp := hp.join0 hq
        replace hz := hz.trans hs
        replace r34159 := r34159.step hs
        replace r34163 := r34163.step hs
        replace r34151 := r34151.step hs
        replace r34155 := r34155.step hs
        refine ⟨SK (Stp I34605 w34604 I34605) [(g33729, [(.bool x34148), v34150, (.bool x34152), v34154, (.bool x34156), v34158, (.bool x34160), v34162], 46)] [[7, 9]], ⟨Stp.refl _ _, (kp_cons (fun _ => (hp.own 1 _ _ _ rfl).1) kp_nil)⟩, fun L x h => ⟨hz.held h.1, h.2⟩, ?_⟩
        have hz := Stp.refl I34605 w34604
        refine ⟨SK.same (by kernel_rfl), ?_⟩
        refine evh0 (rn_field rfl rfl FO46_0) ?_
        refine ⟨?_, trivial⟩
        obtain ⟨x34610, q34611, h⟩ := bind_some h
        refine ev_call rfl rfl C16 (((rational_Norm_ok n) _ _  (Rational.mk (Int_2.mk x34156 x34157) (Int_2.mk x34160 x34161)) v34158 r34159 v34162 r34163 hp.imm _ q34611).mono ?_)
        rintro _ w34612 ⟨I34613, v34614, v34616, hv, hq, r34615, r34617⟩
        replace hv := hv.symm
        subst hv
        have hs := hq.st
        have hp := hp.join0 hq
        replace hz := hz.trans hs
        replace r34607 := r34607.step hs
        replace r34609 := r34609.step hs
        replace r34151 := r34151.step hs
        replace r34155 := r34155.step hs
        replace r34159 := r34159.step hs
        replace r34163 := r34163.step hs
        refine ⟨SK (Stp I34613 w34612 I34613) [(g33729, [(.bool x34148), v34150, (.bool x34152), v34154, (.bool x34156), v34158, (.bool x34160), v34162], 46)] [[7, 9]], ⟨Stp.refl _ _, (kp_cons (fun _ => (hp.own 1 _ _ _ rfl).1) kp_nil)⟩, fun L x h => ⟨hz.held h.1, h.2⟩, ?_⟩
        have hz := Stp.refl I34613 w34612
        refine ⟨?_, trivial⟩
        refine ev_storeA hp (i := 1) (off := 0) (vs := [(.bool x34602.Num.Neg), v34606, (.bool x34602.Den.Neg), v34608]) rfl rfl rfl rfl T26 rfl (Nat.le_of_ble_eq_true rfl) (ones_cons rfl (ones_cons r34607.one (ones_cons rfl (ones_cons r34609.one ones_nil)))) ?_
        intro w34618 hp hs
        replace hz := hz.trans hs
        replace r34615 := r34615.step hs
        replace r34617 := r34617.step hs
        replace r34607 := r34607.step hs
        replace r34609 := r34609.step hs
        replace r34159 := r34159.step hs
        replace r34163 := r34163.step hs
        refine ⟨SK (Stp I34613 w34618 I34613) [(g33729, [(.bool x34148), v34150, (.bool x34152), v34154, (.bool x34156), v34158, (.bool x34160), v34162], 46)] [[7, 9]], ⟨Stp.refl _ _, (kp_cons (kp_off (by kernel_rfl)) kp_nil)⟩, fun L x h => ⟨hz.held h.1, h.2⟩, ?_⟩
        have hz := Stp.refl I34613 w34618
        refine ⟨SK.same (by kernel_rfl), ?_⟩
        refine evh0 (rn_field rfl rfl FO46_1) ?_
        refine ⟨?_, trivial⟩
        refine ev_storeA hp (i := 1) (off := 4) (vs := [(.bool x34610.Num.Neg), v34614, (.bool x34610.Den.Neg), v34616]) rfl rfl rfl rfl T26 rfl (Nat.le_of_ble_eq_true rfl) (ones_cons rfl (ones_cons r34615.one (ones_cons rfl (ones_cons r34617.one ones_nil)))) ?_
        intro w34619 hp hs
        replace hz := hz.trans hs
        replace r34607 := r34607.step hs
        replace r34609 := r34609.step hs
        replace r34615 := r34615.step hs
        replace r34617 := r34617.step hs
        refine ⟨SK (Stp I34613 w34619 I34613) [(g33729, [(.bool x34148), v34150, (.bool x34152), v34154, (.bool x34156), v34158, (.bool x34160), v34162], 46)] [[7, 9]], ⟨Stp.refl _ _, (kp_cons (kp_off (by kernel_rfl)) kp_nil)⟩, fun L x h => ⟨hz.held h.1, h.2⟩, ?_⟩
        have hz := Stp.refl I34613 w34619
        apply go
        apply go
        refine ev (rn_load rfl rfl (run_loadVarA T46 rfl (hp.at_ (i := 1) rfl))) ?_
        refine ev_storeA hp (i := 0) (off := 0) (vs := [(.bool x34602.Num.Neg), v34606, (.bool x34602.Den.Neg), v34608, (.bool x34610.Num.Neg), v34614, (.bool x34610.Den.Neg), v34616]) rfl rfl rfl rfl T46 rfl (Nat.le_of_ble_eq_true rfl) (ones_cons rfl (ones_cons r34607.one (ones_cons rfl (ones_cons r34609.one (ones_cons rfl (ones_cons r34615.one (ones_cons rfl (ones_cons r34617.one ones_nil)))))))) ?_
        intro w34620 hp hs
        replace r34607 := r34607.step hs
        replace r34609 := r34609.step hs
        replace r34615 := r34615.step hs
        replace r34617 := r34617.step hs
        apply go
        obtain rfl := Option.some.inj h
        refine ⟨_, run_loadVarA T46 rfl (hp.at_ (i := 0) rfl), ?_⟩
        have hp := hp.sel [] (by decide)
        exact ⟨I34613, v34606, v34608, v34614, v34616, rfl, hp, r34607, r34609, r34615, r34617⟩

end Go.Proofs.YtepadjfmcbjkmaaDoor

namespace Go.Proofs.YtepadjfmcbjkmaaDoor
open Go Go.Proofs.YtepadjfmcbjkmaaDoor.Gw Go.RowKit
set_option linter.unusedVariables false
attribute [local irreducible] Ev EvQ EvS EvH vch
def law02_RationalEncloses_S (f : Interval → Interval → (List Rational) → Option Bool) : Prop := ∀ (w0 : World) (I0 : Nat → Prop) (tb : Tb w0 I0 1 .u64 pow10) (x34686 : Interval) (v34687 : Value) (r34688 : RepS (dI .u32) w0 I0 v34687 x34686.Lo.Num.Mag) (v34689 : Value) (r34690 : RepS (dI .u32) w0 I0 v34689 x34686.Lo.Den.Mag) (v34691 : Value) (r34692 : RepS (dI .u32) w0 I0 v34691 x34686.Hi.Num.Mag) (v34693 : Value) (r34694 : RepS (dI .u32) w0 I0 v34693 x34686.Hi.Den.Mag) (x34695 : Interval) (v34696 : Value) (r34697 : RepS (dI .u32) w0 I0 v34696 x34695.Lo.Num.Mag) (v34698 : Value) (r34699 : RepS (dI .u32) w0 I0 v34698 x34695.Lo.Den.Mag) (v34700 : Value) (r34701 : RepS (dI .u32) w0 I0 v34700 x34695.Hi.Num.Mag) (v34702 : Value) (r34703 : RepS (dI .u32) w0 I0 v34702 x34695.Hi.Den.Mag) (x34704 : (List Rational)) (v34705 : List Value) (r34706 : (dA 2 dRational).rep w0 I0 v34705 x34704) (hI : ∀ g, I0 g → g < w0.heap.size) (r : Bool), f x34686 x34695 x34704 = some r →
    Ret Tryd.prog 7 #[(.agg #[(.bool x34686.Lo.Num.Neg), v34687, (.bool x34686.Lo.Den.Neg), v34689, (.bool x34686.Hi.Num.Neg), v34691, (.bool x34686.Hi.Den.Neg), v34693]), (.agg #[(.bool x34695.Lo.Num.Neg), v34696, (.bool x34695.Lo.Den.Neg), v34698, (.bool x34695.Hi.Num.Neg), v34700, (.bool x34695.Hi.Den.Neg), v34702]), (.agg v34705.toArray)] w0 fun v w1 => v = (.bool r) ∧ Ch [] w0 w1
theorem law02_RationalEncloses_ok (n : Nat) : law02_RationalEncloses_S (law02_RationalEncloses n) := by
  intro w0 I0 tb x34686 v34687 r34688 v34689 r34690 v34691 r34692 v34693 r34694 x34695 v34696 r34697 v34698 r34699 v34700 r34701 v34702 r34703 x34704 v34705 r34706 hI r h
  unfold law02_RationalEncloses at h
  refine enter Tryd.func7 rfl (Nat.le_of_ble_eq_true rfl) ?_
  have hp : Hp ⟨w0, I0, []⟩ I0 [] w0 := Hp.start hI
  apply go
  apply go
  refine ev_boxI hp rfl rfl ?_
  intro p34709 I34710 w34708 hp hs a34711
  replace r34697 := r34697.step hs
  replace r34699 := r34699.step hs
  replace r34701 := r34701.step hs
  replace r34703 := r34703.step hs
  replace r34706 := r34706.step hs
  replace r34688 := r34688.step hs
  replace r34690 := r34690.step hs
  replace r34692 := r34692.step hs
  replace r34694 := r34694.step hs
  replace tb := tb.step hs
  refine ev_boxI hp rfl rfl ?_
  intro p34714 I34715 w34713 hp hs a34716
  replace r34706 := r34706.step hs
  replace a34711 := a34711.step hs
  replace r34688 := r34688.step hs
  replace r34690 := r34690.step hs
  replace r34692 := r34692.step hs
  replace r34694 := r34694.step hs
  replace r34697 := r34697.step hs
  replace r34699 := r34699.step hs
  replace r34701 := r34701.step hs
  replace r34703 := r34703.step hs
  replace tb := tb.step hs
  obtain ⟨x34719, q34720, h⟩ := bind_some h
  obtain ⟨x34721, q34722, h⟩ := bind_some h
  obtain ⟨c34723, c34724, q34727, d34725, d34726⟩ := dA_two r34706 q34720 q34722
  obtain ⟨v34728, v34730, rfl, r34729, r34731⟩ := dRational_o d34725
  obtain ⟨v34732, v34734, rfl, r34733, r34735⟩ := dRational_o d34726
  subst q34727
  refine ev_boxI (cs := [(.bool x34719.Num.Neg), v34728, (.bool x34719.Den.Neg), v34730, (.bool x34721.Num.Neg), v34732, (.bool x34721.Den.Neg), v34734]) hp rfl rfl ?_
  intro p34736 I34737 w34718 hp hs a34738
  replace a34711 := a34711.step hs
  replace r34688 := r34688.step hs
  replace r34690 := r34690.step hs
  replace r34692 := r34692.step hs
  replace r34694 := r34694.step hs
  replace a34716 := a34716.step hs
  replace r34697 := r34697.step hs
  replace r34699 := r34699.step hs
  replace r34701 := r34701.step hs
  replace r34703 := r34703.step hs
  replace r34729 := r34729.step hs
  replace r34731 := r34731.step hs
  replace r34733 := r34733.step hs
  replace r34735 := r34735.step hs
  replace tb := tb.step hs
  obtain ⟨y34782, q34783, h⟩ := bind_some h
  refine W.cut (γ := (Bool × (List Int) × Bool × (List Int) × Bool × (List Int) × Bool × (List Int) × Nat × Value × Value × Nat × Value × Value)) (fun g => [(3, (.pointer (some (p34709)))), (4, (.pointer (some (p34714)))), (7, (.pointer (some ⟨(g.2.2.2.2.2.2.2.2.1), 0, none⟩))), (8, (.pointer (some ⟨(g.2.2.2.2.2.2.2.2.2.2.2.1), 0, none⟩)))]) (fun g w' => y34782 = ((g.1), (g.2.1), (g.2.2.1), (g.2.2.2.1), (g.2.2.2.2.1), (g.2.2.2.2.2.1), (g.2.2.2.2.2.2.1), (g.2.2.2.2.2.2.2.1)) ∧ Hp ⟨w0, I0, []⟩ I34737 [some ((g.2.2.2.2.2.2.2.2.1), [(.bool (g.1)), (g.2.2.2.2.2.2.2.2.2.1), (.bool (g.2.2.1)), (g.2.2.2.2.2.2.2.2.2.2.1)], 26), some ((g.2.2.2.2.2.2.2.2.2.2.2.1), [(.bool (g.2.2.2.2.1)), (g.2.2.2.2.2.2.2.2.2.2.2.2.1), (.bool (g.2.2.2.2.2.2.1)), (g.2.2.2.2.2.2.2.2.2.2.2.2.2)], 26)] w' ∧ RepS (dI .u32) w' I34737 v34687 x34686.Lo.Num.Mag ∧ RepS (dI .u32) w' I34737 v34689 x34686.Lo.Den.Mag ∧ RepS (dI .u32) w' I34737 v34691 x34686.Hi.Num.Mag ∧ RepS (dI .u32) w' I34737 v34693 x34686.Hi.Den.Mag ∧ At w' I34737 p34709 [(.bool x34686.Lo.Num.Neg), v34687, (.bool x34686.Lo.Den.Neg), v34689, (.bool x34686.Hi.Num.Neg), v34691, (.bool x34686.Hi.Den.Neg), v34693] ∧ RepS (dI .u32) w' I34737 v34696 x34695.Lo.Num.Mag ∧ RepS (dI .u32) w' I34737 v34698 x34695.Lo.Den.Mag ∧ RepS (dI .u32) w' I34737 v34700 x34695.Hi.Num.Mag ∧ RepS (dI .u32) w' I34737 v34702 x34695.Hi.Den.Mag ∧ At w' I34737 p34714 [(.bool x34695.Lo.Num.Neg), v34696, (.bool x34695.Lo.Den.Neg), v34698, (.bool x34695.Hi.Num.Neg), v34700, (.bool x34695.Hi.Den.Neg), v34702] ∧ RepS (dI .u32) w' I34737 (g.2.2.2.2.2.2.2.2.2.1) (g.2.1) ∧ RepS (dI .u32) w' I34737 (g.2.2.2.2.2.2.2.2.2.2.1) (g.2.2.2.1) ∧ RepS (dI .u32) w' I34737 (g.2.2.2.2.2.2.2.2.2.2.2.2.1) (g.2.2.2.2.2.1) ∧ RepS (dI .u32) w' I34737 (g.2.2.2.2.2.2.2.2.2.2.2.2.2) (g.2.2.2.2.2.2.2.1) ∧ Tb w' I34737 1 .u64 pow10) ?_ ?_
  ·
    have hs := hp.stp (Ch.drew [] w34718)
    have hp := hp.drew
    replace a34711 := a34711.step hs
    replace r34688 := r34688.step hs
    replace r34690 := r34690.step hs
    replace r34692 := r34692.step hs
    replace r34694 := r34694.step hs
    replace a34716 := a34716.step hs
    replace r34697 := r34697.step hs
    replace r34699 := r34699.step hs
    replace r34701 := r34701.step hs
    replace r34703 := r34703.step hs
    replace a34738 := a34738.step hs
    replace r34729 := r34729.step hs
    replace r34731 := r34731.step hs
    replace r34733 := r34733.step hs
    replace r34735 := r34735.step hs
    replace tb := tb.step hs
    refine W.heldG (.q 0 (.q 1 (.q 2 (.q 3 (.l 4 (.l 5 (.l 6 (.l 7 .done .no) .no) .no) (.l 5 (.l 4 (.l 6 (.l 7 .done .no) .no) .no) .no)))))) (SK (Stp I34737 w34718.drew I34737) [] []) MX (by kernel_rfl) ⟨Stp.refl _ _, kp_nil⟩ ?_
    have hz := Stp.refl I34737 w34718.drew
    refine ⟨SK.same (by kernel_rfl), ?_⟩
    refine evh0 (rn_indexC0 rfl rfl rfl Tryd.underlying47 T26 (by decide)) ?_
    refine ⟨SK.same (by kernel_rfl), ?_⟩
    refine evh (fun w' hw => rn_load rfl rfl (run_loadVarA T26 rfl (((a34738.step (S0.si hw)).drop 0).take 4))) ?_
    refine ⟨SK.same (by kernel_rfl), ?_⟩
    refine evh0 (rn_indexC (n := 1) rfl rfl rfl Tryd.underlying47 T26 (by decide)) ?_
    refine ⟨SK.same (by kernel_rfl), ?_⟩
    refine evh (fun w' hw => rn_load rfl rfl (run_loadVarA T26 rfl (((a34738.step (S0.si hw)).drop 4).take 4))) ?_
    refine ⟨?_, ?_⟩
    ·
      refine ev_alloc hp rfl T26 ?_
      intro g34796 w34797 hp hs
      replace hz := hz.trans hs
      replace a34711 := a34711.step hs
      replace r34688 := r34688.step hs
      replace r34690 := r34690.step hs
      replace r34692 := r34692.step hs
      replace r34694 := r34694.step hs
      replace a34716 := a34716.step hs
      replace r34697 := r34697.step hs
      replace r34699 := r34699.step hs
      replace r34701 := r34701.step hs
      replace r34703 := r34703.step hs
      replace r34729 := r34729.step hs
      replace r34731 := r34731.step hs
      replace r34733 := r34733.step hs
      replace r34735 := r34735.step hs
      replace tb := tb.step hs
      refine ⟨SK (Stp I34737 w34797 I34737) [] [], ⟨Stp.refl _ _, kp_nil⟩, fun L x h => ⟨hz.held h.1, h.2⟩, ?_⟩
      have hz := Stp.refl I34737 w34797
      refine ⟨?_, trivial⟩
      refine ev_alloc hp rfl T26 ?_
      intro g34798 w34799 hp hs
      replace hz := hz.trans hs
      replace a34711 := a34711.step hs
      replace r34688 := r34688.step hs
      replace r34690 := r34690.step hs
      replace r34692 := r34692.step hs
      replace r34694 := r34694.step hs
      replace a34716 := a34716.step hs
      replace r34697 := r34697.step hs
      replace r34699 := r34699.step hs
      replace r34701 := r34701.step hs
      replace r34703 := r34703.step hs
      replace r34729 := r34729.step hs
      replace r34731 := r34731.step hs
      replace r34733 := r34733.step hs
      replace r34735 := r34735.step hs
      replace tb := tb.step hs
      refine ⟨SK (Stp I34737 w34799 I34737) [] [], ⟨Stp.refl _ _, kp_nil⟩, fun L x h => ⟨hz.held h.1, h.2⟩, ?_⟩
      have hz := Stp.refl I34737 w34799
      refine ⟨?_, trivial⟩
      refine ev_storeA hp (i := 1) (off := 0) (vs := [(.bool x34719.Num.Neg), v34728, (.bool x34719.Den.Neg), v34730]) rfl rfl rfl rfl T26 rfl (Nat.le_of_ble_eq_true rfl) (ones_cons rfl (ones_cons r34729.one (ones_cons rfl (ones_cons r34731.one ones_nil)))) ?_
      intro w34800 hp hs
      replace hz := hz.trans hs
      replace a34711 := a34711.step hs
      replace r34688 := r34688.step hs
      replace r34690 := r34690.step hs
      replace r34692 := r34692.step hs
      replace r34694 := r34694.step hs
      replace a34716 := a34716.step hs
      replace r34697 := r34697.step hs
      replace r34699 := r34699.step hs
      replace r34701 := r34701.step hs
      replace r34703 := r34703.step hs
      replace r34733 := r34733.step hs
      replace r34735 := r34735.step hs
      replace r34729 := r34729.step hs
      replace r34731 := r34731.step hs
      replace tb := tb.step hs
      refine ⟨SK (Stp I34737 w34800 I34737) [] [], ⟨Stp.refl _ _, kp_nil⟩, fun L x h => ⟨hz.held h.1, h.2⟩, ?_⟩
      have hz := Stp.refl I34737 w34800
      refine ⟨?_, trivial⟩
      refine ev_storeA hp (i := 0) (off := 0) (vs := [(.bool x34721.Num.Neg), v34732, (.bool x34721.Den.Neg), v34734]) rfl rfl rfl rfl T26 rfl (Nat.le_of_ble_eq_true rfl) (ones_cons rfl (ones_cons r34733.one (ones_cons rfl (ones_cons r34735.one ones_nil)))) ?_
      intro w34801 hp hs
      replace hz := hz.trans hs
      replace a34711 := a34711.step hs
      replace r34688 := r34688.step hs
      replace r34690 := r34690.step hs
      replace r34692 := r34692.step hs
      replace r34694 := r34694.step hs
      replace a34716 := a34716.step hs
      replace r34697 := r34697.step hs
      replace r34699 := r34699.step hs
      replace r34701 := r34701.step hs
      replace r34703 := r34703.step hs
      replace r34733 := r34733.step hs
      replace r34735 := r34735.step hs
      replace r34729 := r34729.step hs
      replace r34731 := r34731.step hs
      replace tb := tb.step hs
      refine ⟨SK (Stp I34737 w34801 I34737) [] [], ⟨Stp.refl _ _, kp_nil⟩, fun L x h => ⟨hz.held h.1, h.2⟩, ?_⟩
      have hz := Stp.refl I34737 w34801
      obtain rfl := Option.some.inj q34783
      have hp := hp.perm [1, 0] (by decide)
      exact ⟨(x34719.Num.Neg, x34719.Num.Mag, x34719.Den.Neg, x34719.Den.Mag, x34721.Num.Neg, x34721.Num.Mag, x34721.Den.Neg, x34721.Den.Mag, g34796, v34728, v34730, g34798, v34732, v34734), (.c rfl (.c rfl (.c rfl (.c rfl .n)))), rfl, hp, r34688, r34690, r34692, r34694, a34711, r34697, r34699, r34701, r34703, a34716, r34729, r34731, r34733, r34735, tb⟩
    refine ⟨?_, trivial⟩
    refine ev_alloc hp rfl T26 ?_
    intro g34802 w34803 hp hs
    replace hz := hz.trans hs
    replace a34711 := a34711.step hs
    replace r34688 := r34688.step hs
    replace r34690 := r34690.step hs
    replace r34692 := r34692.step hs
    replace r34694 := r34694.step hs
    replace a34716 := a34716.step hs
    replace r34697 := r34697.step hs
    replace r34699 := r34699.step hs
    replace r34701 := r34701.step hs
    replace r34703 := r34703.step hs
    replace r34729 := r34729.step hs
    replace r34731 := r34731.step hs
    replace r34733 := r34733.step hs
    replace r34735 := r34735.step hs
    replace tb := tb.step hs
    refine ⟨SK (Stp I34737 w34803 I34737) [] [], ⟨Stp.refl _ _, kp_nil⟩, fun L x h => ⟨hz.held h.1, h.2⟩, ?_⟩
    have hz := Stp.refl I34737 w34803
    refine ⟨?_, trivial⟩
    refine ev_alloc hp rfl T26 ?_
    intro g34804 w34805 hp hs
    replace hz := hz.trans hs
    replace a34711 := a34711.step hs
    replace r34688 := r34688.step hs
    replace r34690 := r34690.step hs
    replace r34692 := r34692.step hs
    replace r34694 := r34694.step hs
    replace a34716 := a34716.step hs
    replace r34697 := r34697.step hs
    replace r34699 := r34699.step hs
    replace r34701 := r34701.step hs
    replace r34703 := r34703.step hs
    replace r34729 := r34729.step hs
    replace r34731 := r34731.step hs
    replace r34733 := r34733.step hs
    replace r34735 := r34735.step hs
    replace tb := tb.step hs
    refine ⟨SK (Stp I34737 w34805 I34737) [] [], ⟨Stp.refl _ _, kp_nil⟩, fun L x h => ⟨hz.held h.1, h.2⟩, ?_⟩
    have hz := Stp.refl I34737 w34805
    refine ⟨?_, trivial⟩
    refine ev_storeA hp (i := 0) (off := 0) (vs := [(.bool x34719.Num.Neg), v34728, (.bool x34719.Den.Neg), v34730]) rfl rfl rfl rfl T26 rfl (Nat.le_of_ble_eq_true rfl) (ones_cons rfl (ones_cons r34729.one (ones_cons rfl (ones_cons r34731.one ones_nil)))) ?_
    intro w34806 hp hs
    replace hz := hz.trans hs
    replace a34711 := a34711.step hs
    replace r34688 := r34688.step hs
    replace r34690 := r34690.step hs
    replace r34692 := r34692.step hs
    replace r34694 := r34694.step hs
    replace a34716 := a34716.step hs
    replace r34697 := r34697.step hs
    replace r34699 := r34699.step hs
    replace r34701 := r34701.step hs
    replace r34703 := r34703.step hs
    replace r34733 := r34733.step hs
    replace r34735 := r34735.step hs
    replace r34729 := r34729.step hs
    replace r34731 := r34731.step hs
    replace tb := tb.step hs
    refine ⟨SK (Stp I34737 w34806 I34737) [] [], ⟨Stp.refl _ _, kp_nil⟩, fun L x h => ⟨hz.held h.1, h.2⟩, ?_⟩
    have hz := Stp.refl I34737 w34806
    refine ⟨?_, trivial⟩
    refine ev_storeA hp (i := 1) (off := 0) (vs := [(.bool x34721.Num.Neg), v34732, (.bool x34721.Den.Neg), v34734]) rfl rfl rfl rfl T26 rfl (Nat.le_of_ble_eq_true rfl) (ones_cons rfl (ones_cons r34733.one (ones_cons rfl (ones_cons r34735.one ones_nil)))) ?_
    intro w34807 hp hs
    replace hz := hz.trans hs
    replace a34711 := a34711.step hs
    replace r34688 := r34688.step hs
    replace r34690 := r34690.step hs
    replace r34692 := r34692.step hs
    replace r34694 := r34694.step hs
    replace a34716 := a34716.step hs
    replace r34697 := r34697.step hs
    replace r34699 := r34699.step hs
    replace r34701 := r34701.step hs
    replace r34703 := r34703.step hs
    replace r34729 := r34729.step hs
    replace r34731 := r34731.step hs
    replace r34733 := r34733.step hs
    replace r34735 := r34735.step hs
    replace tb := tb.step hs
    refine ⟨SK (Stp I34737 w34807 I34737) [] [], ⟨Stp.refl _ _, kp_nil⟩, fun L x h => ⟨hz.held h.1, h.2⟩, ?_⟩
    have hz := Stp.refl I34737 w34807
    obtain rfl := Option.some.inj q34783
    exact ⟨(x34719.Num.Neg, x34719.Num.Mag, x34719.Den.Neg, x34719.Den.Mag, x34721.Num.Neg, x34721.Num.Mag, x34721.Den.Neg, x34721.Den.Mag, g34804, v34728, v34730, g34802, v34732, v34734), (.c rfl (.c rfl (.c rfl (.c rfl .n)))), rfl, hp, r34688, r34690, r34692, r34694, a34711, r34697, r34699, r34701, r34703, a34716, r34729, r34731, r34733, r34735, tb⟩
  ·
    rintro ⟨x34764, x34765, x34768, x34769, x34773, x34774, x34777, x34778, g34763, v34766, v34770, g34772, v34775, v34779⟩ w34781 ⟨hy, hp, r34688, r34690, r34692, r34694, a34711, r34697, r34699, r34701, r34703, a34716, r34767, r34771, r34776, r34780, tb⟩
    replace hy := hy.symm
    subst hy
    apply go
    obtain ⟨y34905, q34906, h⟩ := bind_some h
    refine W.cut (γ := ((List Int) × (List Int) × (List Int) × (List Int) × (List Int) × (List Int) × (List Int) × (List Int) × (List Int) × (List Int) × (List Int) × (List Int) × Bool × Value × Value × Value × Value × Value × Value × Value × Value × Value × Value × Value × Value × (Nat → Prop))) (fun g => [(3, (.pointer (some (p34709)))), (4, (.pointer (some (p34714)))), (7, (.pointer (some ⟨g34763, 0, none⟩))), (8, (.pointer (some ⟨g34772, 0, none⟩))), (37, (.bool (g.2.2.2.2.2.2.2.2.2.2.2.2.1)))]) (fun g w' => y34905 = ((g.1), (g.2.1), (g.2.2.1), (g.2.2.2.1), (g.2.2.2.2.1), (g.2.2.2.2.2.1), (g.2.2.2.2.2.2.1), (g.2.2.2.2.2.2.2.1), (g.2.2.2.2.2.2.2.2.1), (g.2.2.2.2.2.2.2.2.2.1), (g.2.2.2.2.2.2.2.2.2.2.1), (g.2.2.2.2.2.2.2.2.2.2.2.1), (g.2.2.2.2.2.2.2.2.2.2.2.2.1)) ∧ Hp ⟨w0, I0, []⟩ (g.2.2.2.2.2.2.2.2.2.2.2.2.2.2.2.2.2.2.2.2.2.2.2.2.2) [some (g34763, [(.bool x34764), (g.2.2.2.2.2.2.2.2.2.2.2.2.2.2.2.2.2.2.2.2.2.1), (.bool x34768), (g.2.2.2.2.2.2.2.2.2.2.2.2.2.2.2.2.2.2.2.2.2.2.1)], 26), some (g34772, [(.bool x34773), (g.2.2.2.2.2.2.2.2.2.2.2.2.2.2.2.2.2.2.2.2.2.2.2.1), (.bool x34777), (g.2.2.2.2.2.2.2.2.2.2.2.2.2.2.2.2.2.2.2.2.2.2.2.2.1)], 26)] w' ∧ RepS (dI .u32) w' (g.2.2.2.2.2.2.2.2.2.2.2.2.2.2.2.2.2.2.2.2.2.2.2.2.2) (g.2.2.2.2.2.2.2.2.2.2.2.2.2.1) (g.1) ∧ RepS (dI .u32) w' (g.2.2.2.2.2.2.2.2.2.2.2.2.2.2.2.2.2.2.2.2.2.2.2.2.2) (g.2.2.2.2.2.2.2.2.2.2.2.2.2.2.1) (g.2.1) ∧ RepS (dI .u32) w' (g.2.2.2.2.2.2.2.2.2.2.2.2.2.2.2.2.2.2.2.2.2.2.2.2.2) (g.2.2.2.2.2.2.2.2.2.2.2.2.2.2.2.1) (g.2.2.1) ∧ RepS (dI .u32) w' (g.2.2.2.2.2.2.2.2.2.2.2.2.2.2.2.2.2.2.2.2.2.2.2.2.2) (g.2.2.2.2.2.2.2.2.2.2.2.2.2.2.2.2.1) (g.2.2.2.1) ∧ At w' (g.2.2.2.2.2.2.2.2.2.2.2.2.2.2.2.2.2.2.2.2.2.2.2.2.2) p34709 [(.bool x34686.Lo.Num.Neg), (g.2.2.2.2.2.2.2.2.2.2.2.2.2.1), (.bool x34686.Lo.Den.Neg), (g.2.2.2.2.2.2.2.2.2.2.2.2.2.2.1), (.bool x34686.Hi.Num.Neg), (g.2.2.2.2.2.2.2.2.2.2.2.2.2.2.2.1), (.bool x34686.Hi.Den.Neg), (g.2.2.2.2.2.2.2.2.2.2.2.2.2.2.2.2.1)] ∧ RepS (dI .u32) w' (g.2.2.2.2.2.2.2.2.2.2.2.2.2.2.2.2.2.2.2.2.2.2.2.2.2) (g.2.2.2.2.2.2.2.2.2.2.2.2.2.2.2.2.2.1) (g.2.2.2.2.1) ∧ RepS (dI .u32) w' (g.2.2.2.2.2.2.2.2.2.2.2.2.2.2.2.2.2.2.2.2.2.2.2.2.2) (g.2.2.2.2.2.2.2.2.2.2.2.2.2.2.2.2.2.2.1) (g.2.2.2.2.2.1) ∧ RepS (dI .u32) w' (g.2.2.2.2.2.2.2.2.2.2.2.2.2.2.2.2.2.2.2.2.2.2.2.2.2) (g.2.2.2.2.2.2.2.2.2.2.2.2.2.2.2.2.2.2.2.1) (g.2.2.2.2.2.2.1) ∧ RepS (dI .u32) w' (g.2.2.2.2.2.2.2.2.2.2.2.2.2.2.2.2.2.2.2.2.2.2.2.2.2) (g.2.2.2.2.2.2.2.2.2.2.2.2.2.2.2.2.2.2.2.2.1) (g.2.2.2.2.2.2.2.1) ∧ At w' (g.2.2.2.2.2.2.2.2.2.2.2.2.2.2.2.2.2.2.2.2.2.2.2.2.2) p34714 [(.bool x34695.Lo.Num.Neg), (g.2.2.2.2.2.2.2.2.2.2.2.2.2.2.2.2.2.1), (.bool x34695.Lo.Den.Neg), (g.2.2.2.2.2.2.2.2.2.2.2.2.2.2.2.2.2.2.1), (.bool x34695.Hi.Num.Neg), (g.2.2.2.2.2.2.2.2.2.2.2.2.2.2.2.2.2.2.2.1), (.bool x34695.Hi.Den.Neg), (g.2.2.2.2.2.2.2.2.2.2.2.2.2.2.2.2.2.2.2.2.1)] ∧ RepS (dI .u32) w' (g.2.2.2.2.2.2.2.2.2.2.2.2.2.2.2.2.2.2.2.2.2.2.2.2.2) (g.2.2.2.2.2.2.2.2.2.2.2.2.2.2.2.2.2.2.2.2.2.1) (g.2.2.2.2.2.2.2.2.1) ∧ RepS (dI .u32) w' (g.2.2.2.2.2.2.2.2.2.2.2.2.2.2.2.2.2.2.2.2.2.2.2.2.2) (g.2.2.2.2.2.2.2.2.2.2.2.2.2.2.2.2.2.2.2.2.2.2.1) (g.2.2.2.2.2.2.2.2.2.1) ∧ RepS (dI .u32) w' (g.2.2.2.2.2.2.2.2.2.2.2.2.2.2.2.2.2.2.2.2.2.2.2.2.2) (g.2.2.2.2.2.2.2.2.2.2.2.2.2.2.2.2.2.2.2.2.2.2.2.1) (g.2.2.2.2.2.2.2.2.2.2.1) ∧ RepS (dI .u32) w' (g.2.2.2.2.2.2.2.2.2.2.2.2.2.2.2.2.2.2.2.2.2.2.2.2.2) (g.2.2.2.2.2.2.2.2.2.2.2.2.2.2.2.2.2.2.2.2.2.2.2.2.1) (g.2.2.2.2.2.2.2.2.2.2.2.1) ∧ Tb w' (g.2.2.2.2.2.2.2.2.2.2.2.2.2.2.2.2.2.2.2.2.2.2.2.2.2) 1 .u64 pow10) ?_ ?_
    ·
      apply go
      obtain ⟨x34907, q34908, q34906⟩ := bind_some q34906
      refine ev_call rfl rfl C8 (((law02_awake_ok n) _ _ tb  hp.imm _ q34908).mono ?_)
      rintro _ w34909 ⟨rfl, hc⟩
      have hs := hp.stp hc
      replace hp := hp.ext hc
      replace a34711 := a34711.step hs
      replace r34688 := r34688.step hs
      replace r34690 := r34690.step hs
      replace r34692 := r34692.step hs
      replace r34694 := r34694.step hs
      replace a34716 := a34716.step hs
      replace r34697 := r34697.step hs
      replace r34699 := r34699.step hs
      replace r34701 := r34701.step hs
      replace r34703 := r34703.step hs
      replace r34767 := r34767.step hs
      replace r34771 := r34771.step hs
      replace r34776 := r34776.step hs
      replace r34780 := r34780.step hs
      replace tb := tb.step hs
      refine sel_of (fun hc => ?_) (fun hc => ?_)
      ·
        have q34906 := cond_t q34906 hc
        obtain rfl := Option.some.inj q34906
        exact ⟨(x34686.Lo.Num.Mag, x34686.Lo.Den.Mag, x34686.Hi.Num.Mag, x34686.Hi.Den.Mag, x34695.Lo.Num.Mag, x34695.Lo.Den.Mag, x34695.Hi.Num.Mag, x34695.Hi.Den.Mag, x34765, x34769, x34774, x34778, true, v34687, v34689, v34691, v34693, v34696, v34698, v34700, v34702, v34766, v34770, v34775, v34779, I34737), (.c rfl (.c rfl (.c rfl (.c rfl (.c rfl .n))))), rfl, hp, r34688, r34690, r34692, r34694, a34711, r34697, r34699, r34701, r34703, a34716, r34767, r34771, r34776, r34780, tb⟩
      ·
        have q34906 := cond_f q34906 hc
        refine ev0 (rn_field rfl rfl FO46_0) ?_
        refine ev (rn_load rfl rfl (run_loadVarA T26 rfl ((a34711.drop 0).take 4))) ?_
        refine ev0 (rn_field rfl rfl FO46_1) ?_
        refine ev (rn_load rfl rfl (run_loadVarA T26 rfl ((a34711.drop 4).take 4))) ?_
        refine ev0 (rn_field rfl rfl FO46_0) ?_
        refine ev (rn_load rfl rfl (run_loadVarA T26 rfl ((a34716.drop 0).take 4))) ?_
        refine ev0 (rn_field rfl rfl FO46_1) ?_
        refine ev (rn_load rfl rfl (run_loadVarA T26 rfl ((a34716.drop 4).take 4))) ?_
        refine ev (rn_load rfl rfl (run_loadVarA T26 rfl (hp.at_ (i := 0) rfl))) ?_
        refine ev (rn_load rfl rfl (run_loadVarA T26 rfl (hp.at_ (i := 1) rfl))) ?_
        obtain ⟨A34910, m34911, m34912, rfl⟩ := r34688.isSl
        obtain ⟨A34914, m34915, m34916, rfl⟩ := r34690.isSl
        obtain ⟨A34918, m34919, m34920, rfl⟩ := r34692.isSl
        obtain ⟨A34922, m34923, m34924, rfl⟩ := r34694.isSl
        obtain ⟨A34926, m34927, m34928, rfl⟩ := r34697.isSl
        obtain ⟨A34930, m34931, m34932, rfl⟩ := r34699.isSl
        obtain ⟨A34934, m34935, m34936, rfl⟩ := r34701.isSl
        obtain ⟨A34938, m34939, m34940, rfl⟩ := r34703.isSl
        obtain ⟨A34942, m34943, m34944, rfl⟩ := r34767.isSl
        obtain ⟨A34946, m34947, m34948, rfl⟩ := r34771.isSl
        obtain ⟨A34950, m34951, m34952, rfl⟩ := r34776.isSl
        obtain ⟨A34954, m34955, m34956, rfl⟩ := r34780.isSl
        refine ev_litN (d := dRational) (xs := [(Rational.mk (Int_2.mk x34686.Lo.Num.Neg x34686.Lo.Num.Mag) (Int_2.mk x34686.Lo.Den.Neg x34686.Lo.Den.Mag)), (Rational.mk (Int_2.mk x34686.Hi.Num.Neg x34686.Hi.Num.Mag) (Int_2.mk x34686.Hi.Den.Neg x34686.Hi.Den.Mag)), (Rational.mk (Int_2.mk x34695.Lo.Num.Neg x34695.Lo.Num.Mag) (Int_2.mk x34695.Lo.Den.Neg x34695.Lo.Den.Mag)), (Rational.mk (Int_2.mk x34695.Hi.Num.Neg x34695.Hi.Num.Mag) (Int_2.mk x34695.Hi.Den.Neg x34695.Hi.Den.Mag)), (Rational.mk (Int_2.mk x34764 x34765) (Int_2.mk x34768 x34769)), (Rational.mk (Int_2.mk x34773 x34774) (Int_2.mk x34777 x34778))]) (cs := [(.bool x34686.Lo.Num.Neg), (.slice A34910 m34911 m34912), (.bool x34686.Lo.Den.Neg), (.slice A34914 m34915 m34916), (.bool x34686.Hi.Num.Neg), (.slice A34918 m34919 m34920), (.bool x34686.Hi.Den.Neg), (.slice A34922 m34923 m34924), (.bool x34695.Lo.Num.Neg), (.slice A34926 m34927 m34928), (.bool x34695.Lo.Den.Neg), (.slice A34930 m34931 m34932), (.bool x34695.Hi.Num.Neg), (.slice A34934 m34935 m34936), (.bool x34695.Hi.Den.Neg), (.slice A34938 m34939 m34940), (.bool x34764), (.slice A34942 m34943 m34944), (.bool x34768), (.slice A34946 m34947 m34948), (.bool x34773), (.slice A34950 m34951 m34952), (.bool x34777), (.slice A34954 m34955 m34956)]) hp rfl rfl Tryd.underlying55 T26 (by decide) (by kernel_rfl) rfl (Elems.cons (d := dRational) (xs := _) (dRational_m r34688 r34690) (Elems.cons (d := dRational) (xs := _) (dRational_m r34692 r34694) (Elems.cons (d := dRational) (xs := _) (dRational_m r34697 r34699) (Elems.cons (d := dRational) (xs := _) (dRational_m r34701 r34703) (Elems.cons (d := dRational) (xs := _) (dRational_m r34767 r34771) (Elems.cons (d := dRational) (xs := _) (dRational_m r34776 r34780) (Elems.nil _ _ _ _))))))) ?_
        intro v34958 I34960 w34959 hp hs r34961
        replace a34711 := a34711.step hs
        replace r34688 := r34688.step hs
        replace r34690 := r34690.step hs
        replace r34692 := r34692.step hs
        replace r34694 := r34694.step hs
        replace a34716 := a34716.step hs
        replace r34697 := r34697.step hs
        replace r34699 := r34699.step hs
        replace r34701 := r34701.step hs
        replace r34703 := r34703.step hs
        replace r34767 := r34767.step hs
        replace r34771 := r34771.step hs
        replace r34776 := r34776.step hs
        replace r34780 := r34780.step hs
        replace tb := tb.step hs
        obtain ⟨x34962, q34963, q34906⟩ := bind_some q34906
        refine ev_call rfl rfl C9 (((law02_few_ok n) _ _  [(Rational.mk (Int_2.mk x34686.Lo.Num.Neg x34686.Lo.Num.Mag) (Int_2.mk x34686.Lo.Den.Neg x34686.Lo.Den.Mag)), (Rational.mk (Int_2.mk x34686.Hi.Num.Neg x34686.Hi.Num.Mag) (Int_2.mk x34686.Hi.Den.Neg x34686.Hi.Den.Mag)), (Rational.mk (Int_2.mk x34695.Lo.Num.Neg x34695.Lo.Num.Mag) (Int_2.mk x34695.Lo.Den.Neg x34695.Lo.Den.Mag)), (Rational.mk (Int_2.mk x34695.Hi.Num.Neg x34695.Hi.Num.Mag) (Int_2.mk x34695.Hi.Den.Neg x34695.Hi.Den.Mag)), (Rational.mk (Int_2.mk x34764 x34765) (Int_2.mk x34768 x34769)), (Rational.mk (Int_2.mk x34773 x34774) (Int_2.mk x34777 x34778))] v34958 r34961 hp.imm _ q34963).mono ?_)
        rintro _ w34964 ⟨rfl, hc⟩
        have hs := hp.stp hc
        replace hp := hp.ext hc
        replace a34711 := a34711.step hs
        replace r34688 := r34688.step hs
        replace r34690 := r34690.step hs
        replace r34692 := r34692.step hs
        replace r34694 := r34694.step hs
        replace a34716 := a34716.step hs
        replace r34697 := r34697.step hs
        replace r34699 := r34699.step hs
        replace r34701 := r34701.step hs
        replace r34703 := r34703.step hs
        replace r34767 := r34767.step hs
        replace r34771 := r34771.step hs
        replace r34776 := r34776.step hs
        replace r34780 := r34780.step hs
        replace tb := tb.step hs
        obtain rfl := Option.some.inj q34906
        exact ⟨(x34686.Lo.Num.Mag, x34686.Lo.Den.Mag, x34686.Hi.Num.Mag, x34686.Hi.Den.Mag, x34695.Lo.Num.Mag, x34695.Lo.Den.Mag, x34695.Hi.Num.Mag, x34695.Hi.Den.Mag, x34765, x34769, x34774, x34778, (!x34962), (.slice A34910 m34911 m34912), (.slice A34914 m34915 m34916), (.slice A34918 m34919 m34920), (.slice A34922 m34923 m34924), (.slice A34926 m34927 m34928), (.slice A34930 m34931 m34932), (.slice A34934 m34935 m34936), (.slice A34938 m34939 m34940), (.slice A34942 m34943 m34944), (.slice A34946 m34947 m34948), (.slice A34950 m34951 m34952), (.slice A34954 m34955 m34956), I34960), (.c rfl (.c rfl (.c rfl (.c rfl (.c rfl .n))))), rfl, hp, r34688, r34690, r34692, r34694, a34711, r34697, r34699, r34701, r34703, a34716, r34767, r34771, r34776, r34780, tb⟩
    ·
      rintro ⟨x34866, x34869, x34872, x34875, x34878, x34881, x34884, x34887, x34890, x34893, x34896, x34899, x34902, v34867, v34870, v34873, v34876, v34879, v34882, v34885, v34888, v34891, v34894, v34897, v34900, I34903⟩ w34904 ⟨hy, hp, r34868, r34871, r34874, r34877, a34711, r34880, r34883, r34886, r34889, a34716, r34892, r34895, r34898, r34901, tb⟩
      replace hy := hy.symm
      subst hy
      apply go
      refine sel_of (fun hc => ?_) (fun hc => ?_)
      ·
        have h := cond_t h hc
        apply go
        apply go
        obtain ⟨x34965, q34966, h⟩ := bind_some h
        refine ev_call rfl rfl C8 (((law02_awake_ok n) _ _ tb  hp.imm _ q34966).mono ?_)
        rintro _ w34967 ⟨rfl, hc⟩
        have hs := hp.stp hc
        replace hp := hp.ext hc
        replace r34892 := r34892.step hs
        replace r34895 := r34895.step hs
        replace r34898 := r34898.step hs
        replace r34901 := r34901.step hs
        replace tb := tb.step hs
        apply go
        obtain rfl := Option.some.inj h
        exact ⟨rfl, hp.ch⟩
      ·
        have h := cond_f h hc
        apply go
        apply go
        refine W.quiet (fun w' => Ch [] w34904 w') MX (by kernel_rfl) (Ch.drew [] w34904) ?_
        refine evq (fun w' hw => rn_load rfl rfl (run_loadVarA T46 rfl (a34711.step (hp.stp hw)))) ?_
        refine evq (fun w' hw => rn_load rfl rfl (run_loadVarA T26 rfl ((hp.ext hw).at_ (i := 0) rfl))) ?_
        obtain ⟨x34968, q34969, h⟩ := bind_some h
        refine evq_call rfl rfl C31 (fun w' hw => ((rational_Has_ok n) _ _  (Interval.mk (Rational.mk (Int_2.mk x34686.Lo.Num.Neg x34866) (Int_2.mk x34686.Lo.Den.Neg x34869)) (Rational.mk (Int_2.mk x34686.Hi.Num.Neg x34872) (Int_2.mk x34686.Hi.Den.Neg x34875))) v34867 (r34868.step (hp.stp hw)) v34870 (r34871.step (hp.stp hw)) v34873 (r34874.step (hp.stp hw)) v34876 (r34877.step (hp.stp hw)) (Rational.mk (Int_2.mk x34764 x34890) (Int_2.mk x34768 x34893)) v34891 (r34892.step (hp.stp hw)) v34894 (r34895.step (hp.stp hw)) (hp.ext hw).imm _ q34969).mono fun _ _ ⟨e, hc⟩ => ⟨e, hw.trans hc⟩) ?_
        refine evq (fun w' hw => rn_load rfl rfl (run_loadVarA T46 rfl (a34716.step (hp.stp hw)))) ?_
        refine evq (fun w' hw => rn_load rfl rfl (run_loadVarA T26 rfl ((hp.ext hw).at_ (i := 1) rfl))) ?_
        obtain ⟨x34970, q34971, h⟩ := bind_some h
        refine evq_call rfl rfl C31 (fun w' hw => ((rational_Has_ok n) _ _  (Interval.mk (Rational.mk (Int_2.mk x34695.Lo.Num.Neg x34878) (Int_2.mk x34695.Lo.Den.Neg x34881)) (Rational.mk (Int_2.mk x34695.Hi.Num.Neg x34884) (Int_2.mk x34695.Hi.Den.Neg x34887))) v34879 (r34880.step (hp.stp hw)) v34882 (r34883.step (hp.stp hw)) v34885 (r34886.step (hp.stp hw)) v34888 (r34889.step (hp.stp hw)) (Rational.mk (Int_2.mk x34773 x34896) (Int_2.mk x34777 x34899)) v34897 (r34898.step (hp.stp hw)) v34900 (r34901.step (hp.stp hw)) (hp.ext hw).imm _ q34971).mono fun _ _ ⟨e, hc⟩ => ⟨e, hw.trans hc⟩) ?_
        intro w34972 hc
        have hs := hp.stp hc
        replace hp := hp.ext hc
        replace a34711 := a34711.step hs
        replace r34868 := r34868.step hs
        replace r34871 := r34871.step hs
        replace r34874 := r34874.step hs
        replace r34877 := r34877.step hs
        replace a34716 := a34716.step hs
        replace r34880 := r34880.step hs
        replace r34883 := r34883.step hs
        replace r34886 := r34886.step hs
        replace r34889 := r34889.step hs
        replace r34892 := r34892.step hs
        replace r34895 := r34895.step hs
        replace r34898 := r34898.step hs
        replace r34901 := r34901.step hs
        replace tb := tb.step hs
        apply go
        obtain ⟨y34981, q34982, h⟩ := bind_some h
        refine W.cut (γ := Bool) (fun g => [(3, (.pointer (some (p34709)))), (4, (.pointer (some (p34714)))), (7, (.pointer (some ⟨g34763, 0, none⟩))), (8, (.pointer (some ⟨g34772, 0, none⟩))), (9, (.bool x34968)), (10, (.bool x34970)), (58, (.bool (g)))]) (fun g w' => y34981 = (g) ∧ Hp ⟨w0, I0, []⟩ I34903 [some (g34763, [(.bool x34764), v34891, (.bool x34768), v34894], 26), some (g34772, [(.bool x34773), v34897, (.bool x34777), v34900], 26)] w' ∧ RepS (dI .u32) w' I34903 v34867 x34866 ∧ RepS (dI .u32) w' I34903 v34870 x34869 ∧ RepS (dI .u32) w' I34903 v34873 x34872 ∧ RepS (dI .u32) w' I34903 v34876 x34875 ∧ At w' I34903 p34709 [(.bool x34686.Lo.Num.Neg), v34867, (.bool x34686.Lo.Den.Neg), v34870, (.bool x34686.Hi.Num.Neg), v34873, (.bool x34686.Hi.Den.Neg), v34876] ∧ RepS (dI .u32) w' I34903 v34879 x34878 ∧ RepS (dI .u32) w' I34903 v34882 x34881 ∧ RepS (dI .u32) w' I34903 v34885 x34884 ∧ RepS (dI .u32) w' I34903 v34888 x34887 ∧ At w' I34903 p34714 [(.bool x34695.Lo.Num.Neg), v34879, (.bool x34695.Lo.Den.Neg), v34882, (.bool x34695.Hi.Num.Neg), v34885, (.bool x34695.Hi.Den.Neg), v34888] ∧ RepS (dI .u32) w' I34903 v34891 x34890 ∧ RepS (dI .u32) w' I34903 v34894 x34893 ∧ RepS (dI .u32) w' I34903 v34897 x34896 ∧ RepS (dI .u32) w' I34903 v34900 x34899 ∧ Tb w' I34903 1 .u64 pow10) ?_ ?_
        ·
          apply go
          refine ev0 (rn_field rfl rfl FO46_0) ?_
          refine ev (rn_load rfl rfl (run_loadVarA T26 rfl ((a34711.drop 0).take 4))) ?_
          refine ev (rn_load rfl rfl (run_loadVarA T26 rfl (hp.at_ (i := 0) rfl))) ?_
          obtain ⟨x34983, q34984, q34982⟩ := bind_some q34982
          refine ev_call rfl rfl C28 (((rational_Cmp_ok n) _ _  (Rational.mk (Int_2.mk x34686.Lo.Num.Neg x34866) (Int_2.mk x34686.Lo.Den.Neg x34869)) v34867 r34868 v34870 r34871 (Rational.mk (Int_2.mk x34764 x34890) (Int_2.mk x34768 x34893)) v34891 r34892 v34894 r34895 hp.imm _ q34984).mono ?_)
          rintro _ w34985 ⟨rfl, hc⟩
          have hs := hp.stp hc
          replace hp := hp.ext hc
          replace a34711 := a34711.step hs
          replace r34868 := r34868.step hs
          replace r34871 := r34871.step hs
          replace r34874 := r34874.step hs
          replace r34877 := r34877.step hs
          replace a34716 := a34716.step hs
          replace r34880 := r34880.step hs
          replace r34883 := r34883.step hs
          replace r34886 := r34886.step hs
          replace r34889 := r34889.step hs
          replace r34892 := r34892.step hs
          replace r34895 := r34895.step hs
          replace r34898 := r34898.step hs
          replace r34901 := r34901.step hs
          replace tb := tb.step hs
          refine sel_of (fun hc => ?_) (fun hc => ?_)
          ·
            have q34982 := cond_t q34982 hc
            refine ev (rn_load rfl rfl (run_loadVarA T26 rfl (hp.at_ (i := 0) rfl))) ?_
            refine ev0 (rn_field rfl rfl FO46_1) ?_
            refine ev (rn_load rfl rfl (run_loadVarA T26 rfl ((a34711.drop 4).take 4))) ?_
            obtain ⟨x34986, q34987, q34982⟩ := bind_some q34982
            refine ev_call rfl rfl C28 (((rational_Cmp_ok n) _ _  (Rational.mk (Int_2.mk x34764 x34890) (Int_2.mk x34768 x34893)) v34891 r34892 v34894 r34895 (Rational.mk (Int_2.mk x34686.Hi.Num.Neg x34872) (Int_2.mk x34686.Hi.Den.Neg x34875)) v34873 r34874 v34876 r34877 hp.imm _ q34987).mono ?_)
            rintro _ w34988 ⟨rfl, hc⟩
            have hs := hp.stp hc
            replace hp := hp.ext hc
            replace a34711 := a34711.step hs
            replace r34868 := r34868.step hs
            replace r34871 := r34871.step hs
            replace r34874 := r34874.step hs
            replace r34877 := r34877.step hs
            replace a34716 := a34716.step hs
            replace r34880 := r34880.step hs
            replace r34883 := r34883.step hs
            replace r34886 := r34886.step hs
            replace r34889 := r34889.step hs
            replace r34892 := r34892.step hs
            replace r34895 := r34895.step hs
            replace r34898 := r34898.step hs
            replace r34901 := r34901.step hs
            replace tb := tb.step hs
            refine ev0 (rn_neB rfl rfl rfl Tryd.underlying4) ?_
            obtain rfl := Option.some.inj q34982
            exact ⟨(!(x34968 == (decide (x34986 ≤ 0)))), (.c rfl (.c rfl (.c rfl (.c rfl (.c rfl (.c rfl (.c rfl .n))))))), rfl, hp, r34868, r34871, r34874, r34877, a34711, r34880, r34883, r34886, r34889, a34716, r34892, r34895, r34898, r34901, tb⟩
          ·
            have q34982 := cond_f q34982 hc
            refine ev0 (rn_neB rfl rfl rfl Tryd.underlying4) ?_
            obtain rfl := Option.some.inj q34982
            exact ⟨(!(x34968 == false)), (.c rfl (.c rfl (.c rfl (.c rfl (.c rfl (.c rfl (.c rfl .n))))))), rfl, hp, r34868, r34871, r34874, r34877, a34711, r34880, r34883, r34886, r34889, a34716, r34892, r34895, r34898, r34901, tb⟩
        ·
          rintro x34979 w34980 ⟨hy, hp, r34868, r34871, r34874, r34877, a34711, r34880, r34883, r34886, r34889, a34716, r34892, r34895, r34898, r34901, tb⟩
          replace hy := hy.symm
          subst hy
          apply go
          refine sel_of (fun hc => ?_) (fun hc => ?_)
          ·
            have h := cond_t h hc
            apply go
            apply go
            apply go
            obtain rfl := Option.some.inj h
            exact ⟨rfl, hp.ch⟩
          ·
            have h := cond_f h hc
            apply go
            apply go
            apply go
            refine ev (rn_load rfl rfl (run_loadVarA T46 rfl a34711)) ?_
            refine ev (rn_load rfl rfl (run_loadVarA T46 rfl a34716)) ?_
            obtain ⟨⟨x34989, x34990⟩, q34991, h⟩ := bind_some h
            refine ev_call rfl rfl C32 (((rational_Meet_ok n) _ _  (Interval.mk (Rational.mk (Int_2.mk x34686.Lo.Num.Neg x34866) (Int_2.mk x34686.Lo.Den.Neg x34869)) (Rational.mk (Int_2.mk x34686.Hi.Num.Neg x34872) (Int_2.mk x34686.Hi.Den.Neg x34875))) v34867 r34868 v34870 r34871 v34873 r34874 v34876 r34877 (Interval.mk (Rational.mk (Int_2.mk x34695.Lo.Num.Neg x34878) (Int_2.mk x34695.Lo.Den.Neg x34881)) (Rational.mk (Int_2.mk x34695.Hi.Num.Neg x34884) (Int_2.mk x34695.Hi.Den.Neg x34887))) v34879 r34880 v34882 r34883 v34885 r34886 v34888 r34889 hp.imm _ q34991).mono ?_)
            rintro _ w34992 ⟨I34993, v34994, v34996, v34998, v35000, hv, hq, r34995, r34997, r34999, r35001⟩
            replace hv := hv.symm
            subst hv
            have hs := hq.st
            have hp := hp.join0 hq
            replace a34711 := a34711.step hs
            replace r34868 := r34868.step hs
            replace r34871 := r34871.step hs
            replace r34874 := r34874.step hs
            replace r34877 := r34877.step hs
            replace a34716 := a34716.step hs
            replace r34880 := r34880.step hs
            replace r34883 := r34883.step hs
            replace r34886 := r34886.step hs
            replace r34889 := r34889.step hs
            replace r34892 := r34892.step hs
            replace r34895 := r34895.step hs
            replace r34898 := r34898.step hs
            replace r34901 := r34901.step hs
            replace tb := tb.step hs
            refine ev_alloc hp rfl T46 ?_
            intro g35002 w35003 hp hs
            replace a34711 := a34711.step hs
            replace r34868 := r34868.step hs
            replace r34871 := r34871.step hs
            replace r34874 := r34874.step hs
            replace r34877 := r34877.step hs
            replace a34716 := a34716.step hs
            replace r34880 := r34880.step hs
            replace r34883 := r34883.step hs
            replace r34886 := r34886.step hs
            replace r34889 := r34889.step hs
            replace r34995 := r34995.step hs
            replace r34997 := r34997.step hs
            replace r34999 := r34999.step hs
            replace r35001 := r35001.step hs
            replace r34892 := r34892.step hs
            replace r34895 := r34895.step hs
            replace r34898 := r34898.step hs
            replace r34901 := r34901.step hs
            replace tb := tb.step hs
            refine ev_storeA hp (i := 0) (off := 0) (vs := [(.bool x34989.Lo.Num.Neg), v34994, (.bool x34989.Lo.Den.Neg), v34996, (.bool x34989.Hi.Num.Neg), v34998, (.bool x34989.Hi.Den.Neg), v35000]) rfl rfl rfl rfl T46 rfl (Nat.le_of_ble_eq_true rfl) (ones_cons rfl (ones_cons r34995.one (ones_cons rfl (ones_cons r34997.one (ones_cons rfl (ones_cons r34999.one (ones_cons rfl (ones_cons r35001.one ones_nil)))))))) ?_
            intro w35004 hp hs
            replace a34711 := a34711.step hs
            replace r34868 := r34868.step hs
            replace r34871 := r34871.step hs
            replace r34874 := r34874.step hs
            replace r34877 := r34877.step hs
            replace a34716 := a34716.step hs
            replace r34880 := r34880.step hs
            replace r34883 := r34883.step hs
            replace r34886 := r34886.step hs
            replace r34889 := r34889.step hs
            replace r34995 := r34995.step hs
            replace r34997 := r34997.step hs
            replace r34999 := r34999.step hs
            replace r35001 := r35001.step hs
            replace r34892 := r34892.step hs
            replace r34895 := r34895.step hs
            replace r34898 := r34898.step hs
            replace r34901 := r34901.step hs
            replace tb := tb.step hs
            apply go
            obtain ⟨y35016, q35017, h⟩ := bind_some h
            refine W.cut (γ := Bool) (fun g => [(3, (.pointer (some (p34709)))), (4, (.pointer (some (p34714)))), (7, (.pointer (some ⟨g34763, 0, none⟩))), (8, (.pointer (some ⟨g34772, 0, none⟩))), (9, (.bool x34968)), (10, (.bool x34970)), (77, (.bool (g)))]) (fun g w' => y35016 = (g) ∧ Hp ⟨w0, I0, []⟩ I34993 [some (g34763, [(.bool x34764), v34891, (.bool x34768), v34894], 26), some (g34772, [(.bool x34773), v34897, (.bool x34777), v34900], 26)] w' ∧ RepS (dI .u32) w' I34993 v34867 x34866 ∧ RepS (dI .u32) w' I34993 v34870 x34869 ∧ RepS (dI .u32) w' I34993 v34873 x34872 ∧ RepS (dI .u32) w' I34993 v34876 x34875 ∧ At w' I34993 p34709 [(.bool x34686.Lo.Num.Neg), v34867, (.bool x34686.Lo.Den.Neg), v34870, (.bool x34686.Hi.Num.Neg), v34873, (.bool x34686.Hi.Den.Neg), v34876] ∧ RepS (dI .u32) w' I34993 v34879 x34878 ∧ RepS (dI .u32) w' I34993 v34882 x34881 ∧ RepS (dI .u32) w' I34993 v34885 x34884 ∧ RepS (dI .u32) w' I34993 v34888 x34887 ∧ At w' I34993 p34714 [(.bool x34695.Lo.Num.Neg), v34879, (.bool x34695.Lo.Den.Neg), v34882, (.bool x34695.Hi.Num.Neg), v34885, (.bool x34695.Hi.Den.Neg), v34888] ∧ RepS (dI .u32) w' I34993 v34891 x34890 ∧ RepS (dI .u32) w' I34993 v34894 x34893 ∧ RepS (dI .u32) w' I34993 v34897 x34896 ∧ RepS (dI .u32) w' I34993 v34900 x34899 ∧ Tb w' I34993 1 .u64 pow10) ?_ ?_
            ·
              apply go
              refine sel_of (fun hc => ?_) (fun hc => ?_)
              ·
                have q35017 := cond_t q35017 hc
                refine ev (rn_load rfl rfl (run_loadVarA T46 rfl (hp.at_ (i := 0) rfl))) ?_
                refine ev (rn_load rfl rfl (run_loadVarA T26 rfl (hp.at_ (i := 1) rfl))) ?_
                obtain ⟨x35018, q35019, q35017⟩ := bind_some q35017
                refine ev_call rfl rfl C31 (((rational_Has_ok n) _ _  (Interval.mk (Rational.mk (Int_2.mk x34989.Lo.Num.Neg x34989.Lo.Num.Mag) (Int_2.mk x34989.Lo.Den.Neg x34989.Lo.Den.Mag)) (Rational.mk (Int_2.mk x34989.Hi.Num.Neg x34989.Hi.Num.Mag) (Int_2.mk x34989.Hi.Den.Neg x34989.Hi.Den.Mag))) v34994 r34995 v34996 r34997 v34998 r34999 v35000 r35001 (Rational.mk (Int_2.mk x34764 x34890) (Int_2.mk x34768 x34893)) v34891 r34892 v34894 r34895 hp.imm _ q35019).mono ?_)
                rintro _ w35020 ⟨rfl, hc⟩
                have hs := hp.stp hc
                replace hp := hp.ext hc
                replace a34711 := a34711.step hs
                replace r34868 := r34868.step hs
                replace r34871 := r34871.step hs
                replace r34874 := r34874.step hs
                replace r34877 := r34877.step hs
                replace a34716 := a34716.step hs
                replace r34880 := r34880.step hs
                replace r34883 := r34883.step hs
                replace r34886 := r34886.step hs
                replace r34889 := r34889.step hs
                replace r34995 := r34995.step hs
                replace r34997 := r34997.step hs
                replace r34999 := r34999.step hs
                replace r35001 := r35001.step hs
                replace r34892 := r34892.step hs
                replace r34895 := r34895.step hs
                replace r34898 := r34898.step hs
                replace r34901 := r34901.step hs
                replace tb := tb.step hs
                refine sel_of (fun hc => ?_) (fun hc => ?_)
                ·
                  have q35017 := cond_t q35017 hc
                  refine ev (rn_load rfl rfl (run_loadVarA T46 rfl a34716)) ?_
                  refine ev (rn_load rfl rfl (run_loadVarA T26 rfl (hp.at_ (i := 1) rfl))) ?_
                  obtain ⟨x35021, q35022, q35017⟩ := bind_some q35017
                  refine ev_call rfl rfl C31 (((rational_Has_ok n) _ _  (Interval.mk (Rational.mk (Int_2.mk x34695.Lo.Num.Neg x34878) (Int_2.mk x34695.Lo.Den.Neg x34881)) (Rational.mk (Int_2.mk x34695.Hi.Num.Neg x34884) (Int_2.mk x34695.Hi.Den.Neg x34887))) v34879 r34880 v34882 r34883 v34885 r34886 v34888 r34889 (Rational.mk (Int_2.mk x34764 x34890) (Int_2.mk x34768 x34893)) v34891 r34892 v34894 r34895 hp.imm _ q35022).mono ?_)
                  rintro _ w35023 ⟨rfl, hc⟩
                  have hs := hp.stp hc
                  replace hp := hp.ext hc
                  replace a34711 := a34711.step hs
                  replace r34868 := r34868.step hs
                  replace r34871 := r34871.step hs
                  replace r34874 := r34874.step hs
                  replace r34877 := r34877.step hs
                  replace a34716 := a34716.step hs
                  replace r34880 := r34880.step hs
                  replace r34883 := r34883.step hs
                  replace r34886 := r34886.step hs
                  replace r34889 := r34889.step hs
                  replace r34995 := r34995.step hs
                  replace r34997 := r34997.step hs
                  replace r34999 := r34999.step hs
                  replace r35001 := r35001.step hs
                  replace r34892 := r34892.step hs
                  replace r34895 := r34895.step hs
                  replace r34898 := r34898.step hs
                  replace r34901 := r34901.step hs
                  replace tb := tb.step hs
                  refine ev0 (rn_neB rfl rfl rfl Tryd.underlying4) ?_
                  obtain rfl := Option.some.inj q35017
                  have hp := hp.sel [1, 2] (by decide)
                  exact ⟨(!(x35018 == x35021)), (.c rfl (.c rfl (.c rfl (.c rfl (.c rfl (.c rfl (.c rfl .n))))))), rfl, hp, r34868, r34871, r34874, r34877, a34711, r34880, r34883, r34886, r34889, a34716, r34892, r34895, r34898, r34901, tb⟩
                ·
                  have q35017 := cond_f q35017 hc
                  refine ev0 (rn_neB rfl rfl rfl Tryd.underlying4) ?_
                  obtain rfl := Option.some.inj q35017
                  have hp := hp.sel [1, 2] (by decide)
                  exact ⟨(!(x35018 == false)), (.c rfl (.c rfl (.c rfl (.c rfl (.c rfl (.c rfl (.c rfl .n))))))), rfl, hp, r34868, r34871, r34874, r34877, a34711, r34880, r34883, r34886, r34889, a34716, r34892, r34895, r34898, r34901, tb⟩
              ·
                have q35017 := cond_f q35017 hc
                refine sel_of (fun hc => ?_) (fun hc => ?_)
                ·
                  have q35017 := cond_t q35017 hc
                  refine ev (rn_load rfl rfl (run_loadVarA T46 rfl a34716)) ?_
                  refine ev (rn_load rfl rfl (run_loadVarA T26 rfl (hp.at_ (i := 1) rfl))) ?_
                  obtain ⟨x35024, q35025, q35017⟩ := bind_some q35017
                  refine ev_call rfl rfl C31 (((rational_Has_ok n) _ _  (Interval.mk (Rational.mk (Int_2.mk x34695.Lo.Num.Neg x34878) (Int_2.mk x34695.Lo.Den.Neg x34881)) (Rational.mk (Int_2.mk x34695.Hi.Num.Neg x34884) (Int_2.mk x34695.Hi.Den.Neg x34887))) v34879 r34880 v34882 r34883 v34885 r34886 v34888 r34889 (Rational.mk (Int_2.mk x34764 x34890) (Int_2.mk x34768 x34893)) v34891 r34892 v34894 r34895 hp.imm _ q35025).mono ?_)
                  rintro _ w35026 ⟨rfl, hc⟩
                  have hs := hp.stp hc
                  replace hp := hp.ext hc
                  replace a34711 := a34711.step hs
                  replace r34868 := r34868.step hs
                  replace r34871 := r34871.step hs
                  replace r34874 := r34874.step hs
                  replace r34877 := r34877.step hs
                  replace a34716 := a34716.step hs
                  replace r34880 := r34880.step hs
                  replace r34883 := r34883.step hs
                  replace r34886 := r34886.step hs
                  replace r34889 := r34889.step hs
                  replace r34995 := r34995.step hs
                  replace r34997 := r34997.step hs
                  replace r34999 := r34999.step hs
                  replace r35001 := r35001.step hs
                  replace r34892 := r34892.step hs
                  replace r34895 := r34895.step hs
                  replace r34898 := r34898.step hs
                  replace r34901 := r34901.step hs
                  replace tb := tb.step hs
                  refine ev0 (rn_neB rfl rfl rfl Tryd.underlying4) ?_
                  obtain rfl := Option.some.inj q35017
                  have hp := hp.sel [1, 2] (by decide)
                  exact ⟨(!(false == x35024)), (.c rfl (.c rfl (.c rfl (.c rfl (.c rfl (.c rfl (.c rfl .n))))))), rfl, hp, r34868, r34871, r34874, r34877, a34711, r34880, r34883, r34886, r34889, a34716, r34892, r34895, r34898, r34901, tb⟩
                ·
                  have q35017 := cond_f q35017 hc
                  refine ev0 (rn_neB rfl rfl rfl Tryd.underlying4) ?_
                  obtain rfl := Option.some.inj q35017
                  have hp := hp.sel [1, 2] (by decide)
                  exact ⟨(!(false == false)), (.c rfl (.c rfl (.c rfl (.c rfl (.c rfl (.c rfl (.c rfl .n))))))), rfl, hp, r34868, r34871, r34874, r34877, a34711, r34880, r34883, r34886, r34889, a34716, r34892, r34895, r34898, r34901, tb⟩
            ·
              rintro x35014 w35015 ⟨hy, hp, r34868, r34871, r34874, r34877, a34711, r34880, r34883, r34886, r34889, a34716, r34892, r34895, r34898, r34901, tb⟩
              replace hy := hy.symm
              subst hy
              apply go
              refine sel_of (fun hc => ?_) (fun hc => ?_)
              ·
                have h := cond_t h hc
                apply go
                apply go
                apply go
                obtain rfl := Option.some.inj h
                exact ⟨rfl, hp.ch⟩
              ·
                have h := cond_f h hc
                apply go
                apply go
                obtain ⟨y35028, q35029, h⟩ := bind_some h
                refine W.cut (γ := Bool) (fun g => [(3, (.pointer (some (p34709)))), (4, (.pointer (some (p34714)))), (7, (.pointer (some ⟨g34763, 0, none⟩))), (8, (.pointer (some ⟨g34772, 0, none⟩))), (83, (.bool (g)))]) (fun g w' => y35028 = (g) ∧ w35015 = w') ?_ ?_
                ·
                  apply go
                  refine sel_of (fun hc => ?_) (fun hc => ?_)
                  ·
                    have q35029 := cond_t q35029 hc
                    obtain rfl := Option.some.inj q35029
                    exact ⟨true, (.c rfl (.c rfl (.c rfl (.c rfl (.c rfl .n))))), rfl, rfl⟩
                  ·
                    have q35029 := cond_f q35029 hc
                    obtain rfl := Option.some.inj q35029
                    exact ⟨(!x34970), (.c rfl (.c rfl (.c rfl (.c rfl (.c rfl .n))))), rfl, rfl⟩
                ·
                  rintro x35027 _ ⟨hy, rfl⟩
                  replace hy := hy.symm
                  subst hy
                  apply go
                  refine sel_of (fun hc => ?_) (fun hc => ?_)
                  ·
                    have h := cond_t h hc
                    apply go
                    apply go
                    apply go
                    obtain rfl := Option.some.inj h
                    exact ⟨rfl, hp.ch⟩
                  ·
                    have h := cond_f h hc
                    apply go
                    apply go
                    apply go
                    refine ev (rn_load rfl rfl (run_loadVarA T46 rfl a34711)) ?_
                    refine ev (rn_load rfl rfl (run_loadVarA T46 rfl a34716)) ?_
                    obtain ⟨⟨x35030, x35031⟩, q35032, h⟩ := bind_some h
                    refine ev_call rfl rfl C33 (((rational_Plus_ok n) _ _  (Interval.mk (Rational.mk (Int_2.mk x34686.Lo.Num.Neg x34866) (Int_2.mk x34686.Lo.Den.Neg x34869)) (Rational.mk (Int_2.mk x34686.Hi.Num.Neg x34872) (Int_2.mk x34686.Hi.Den.Neg x34875))) v34867 r34868 v34870 r34871 v34873 r34874 v34876 r34877 (Interval.mk (Rational.mk (Int_2.mk x34695.Lo.Num.Neg x34878) (Int_2.mk x34695.Lo.Den.Neg x34881)) (Rational.mk (Int_2.mk x34695.Hi.Num.Neg x34884) (Int_2.mk x34695.Hi.Den.Neg x34887))) v34879 r34880 v34882 r34883 v34885 r34886 v34888 r34889 hp.imm _ q35032).mono ?_)
                    rintro _ w35033 ⟨I35034, v35035, v35037, v35039, v35041, hv, hq, r35036, r35038, r35040, r35042⟩
                    replace hv := hv.symm
                    subst hv
                    have hs := hq.st
                    have hp := hp.join0 hq
                    replace a34711 := a34711.step hs
                    replace r34868 := r34868.step hs
                    replace r34871 := r34871.step hs
                    replace r34874 := r34874.step hs
                    replace r34877 := r34877.step hs
                    replace a34716 := a34716.step hs
                    replace r34880 := r34880.step hs
                    replace r34883 := r34883.step hs
                    replace r34886 := r34886.step hs
                    replace r34889 := r34889.step hs
                    replace r34892 := r34892.step hs
                    replace r34895 := r34895.step hs
                    replace r34898 := r34898.step hs
                    replace r34901 := r34901.step hs
                    replace tb := tb.step hs
                    refine ev_alloc hp rfl T46 ?_
                    intro g35043 w35044 hp hs
                    replace a34711 := a34711.step hs
                    replace r34868 := r34868.step hs
                    replace r34871 := r34871.step hs
                    replace r34874 := r34874.step hs
                    replace r34877 := r34877.step hs
                    replace a34716 := a34716.step hs
                    replace r34880 := r34880.step hs
                    replace r34883 := r34883.step hs
                    replace r34886 := r34886.step hs
                    replace r34889 := r34889.step hs
                    replace r35036 := r35036.step hs
                    replace r35038 := r35038.step hs
                    replace r35040 := r35040.step hs
                    replace r35042 := r35042.step hs
                    replace r34892 := r34892.step hs
                    replace r34895 := r34895.step hs
                    replace r34898 := r34898.step hs
                    replace r34901 := r34901.step hs
                    replace tb := tb.step hs
                    refine ev_storeA hp (i := 0) (off := 0) (vs := [(.bool x35030.Lo.Num.Neg), v35035, (.bool x35030.Lo.Den.Neg), v35037, (.bool x35030.Hi.Num.Neg), v35039, (.bool x35030.Hi.Den.Neg), v35041]) rfl rfl rfl rfl T46 rfl (Nat.le_of_ble_eq_true rfl) (ones_cons rfl (ones_cons r35036.one (ones_cons rfl (ones_cons r35038.one (ones_cons rfl (ones_cons r35040.one (ones_cons rfl (ones_cons r35042.one ones_nil)))))))) ?_
                    intro w35045 hp hs
                    replace a34711 := a34711.step hs
                    replace r34868 := r34868.step hs
                    replace r34871 := r34871.step hs
                    replace r34874 := r34874.step hs
                    replace r34877 := r34877.step hs
                    replace a34716 := a34716.step hs
                    replace r34880 := r34880.step hs
                    replace r34883 := r34883.step hs
                    replace r34886 := r34886.step hs
                    replace r34889 := r34889.step hs
                    replace r35036 := r35036.step hs
                    replace r35038 := r35038.step hs
                    replace r35040 := r35040.step hs
                    replace r35042 := r35042.step hs
                    replace r34892 := r34892.step hs
                    replace r34895 := r34895.step hs
                    replace r34898 := r34898.step hs
                    replace r34901 := r34901.step hs
                    replace tb := tb.step hs
                    apply go
                    apply go
                    refine ev (rn_load rfl rfl (run_loadVarA T46 rfl a34711)) ?_
                    refine ev (rn_load rfl rfl (run_loadVarA T46 rfl a34716)) ?_
                    obtain ⟨⟨x35046, x35047⟩, q35048, h⟩ := bind_some h
                    refine ev_call rfl rfl C34 (((rational_Times_ok n) _ _  (Interval.mk (Rational.mk (Int_2.mk x34686.Lo.Num.Neg x34866) (Int_2.mk x34686.Lo.Den.Neg x34869)) (Rational.mk (Int_2.mk x34686.Hi.Num.Neg x34872) (Int_2.mk x34686.Hi.Den.Neg x34875))) v34867 r34868 v34870 r34871 v34873 r34874 v34876 r34877 (Interval.mk (Rational.mk (Int_2.mk x34695.Lo.Num.Neg x34878) (Int_2.mk x34695.Lo.Den.Neg x34881)) (Rational.mk (Int_2.mk x34695.Hi.Num.Neg x34884) (Int_2.mk x34695.Hi.Den.Neg x34887))) v34879 r34880 v34882 r34883 v34885 r34886 v34888 r34889 hp.imm _ q35048).mono ?_)
                    rintro _ w35049 ⟨I35050, v35051, v35053, v35055, v35057, hv, hq, r35052, r35054, r35056, r35058⟩
                    replace hv := hv.symm
                    subst hv
                    have hs := hq.st
                    have hp := hp.join0 hq
                    replace r35036 := r35036.step hs
                    replace r35038 := r35038.step hs
                    replace r35040 := r35040.step hs
                    replace r35042 := r35042.step hs
                    replace r34892 := r34892.step hs
                    replace r34895 := r34895.step hs
                    replace r34898 := r34898.step hs
                    replace r34901 := r34901.step hs
                    replace tb := tb.step hs
                    refine ev_alloc hp rfl T46 ?_
                    intro g35059 w35060 hp hs
                    replace r35052 := r35052.step hs
                    replace r35054 := r35054.step hs
                    replace r35056 := r35056.step hs
                    replace r35058 := r35058.step hs
                    replace r35036 := r35036.step hs
                    replace r35038 := r35038.step hs
                    replace r35040 := r35040.step hs
                    replace r35042 := r35042.step hs
                    replace r34892 := r34892.step hs
                    replace r34895 := r34895.step hs
                    replace r34898 := r34898.step hs
                    replace r34901 := r34901.step hs
                    replace tb := tb.step hs
                    refine ev_storeA hp (i := 0) (off := 0) (vs := [(.bool x35046.Lo.Num.Neg), v35051, (.bool x35046.Lo.Den.Neg), v35053, (.bool x35046.Hi.Num.Neg), v35055, (.bool x35046.Hi.Den.Neg), v35057]) rfl rfl rfl rfl T46 rfl (Nat.le_of_ble_eq_true rfl) (ones_cons rfl (ones_cons r35052.one (ones_cons rfl (ones_cons r35054.one (ones_cons rfl (ones_cons r35056.one (ones_cons rfl (ones_cons r35058.one ones_nil)))))))) ?_
                    intro w35061 hp hs
                    replace r35052 := r35052.step hs
                    replace r35054 := r35054.step hs
                    replace r35056 := r35056.step hs
                    replace r35058 := r35058.step hs
                    replace r35036 := r35036.step hs
                    replace r35038 := r35038.step hs
                    replace r35040 := r35040.step hs
                    replace r35042 := r35042.step hs
                    replace r34892 := r34892.step hs
                    replace r34895 := r34895.step hs
                    replace r34898 := r34898.step hs
                    replace r34901 := r34901.step hs
                    replace tb := tb.step hs
                    obtain ⟨y35109, q35110, h⟩ := bind_some h
                    refine W.cut (γ := (Bool × (Nat → Prop))) (fun g => [(6, (.bool (g.1)))]) (fun g w' => y35109 = (g.1) ∧ Hp ⟨w0, I0, []⟩ (g.2) [] w' ∧ Tb w' (g.2) 1 .u64 pow10) ?_ ?_
                    ·
                      have hs := hp.stp (Ch.drew [] w35061)
                      have hp := hp.drew
                      replace r35052 := r35052.step hs
                      replace r35054 := r35054.step hs
                      replace r35056 := r35056.step hs
                      replace r35058 := r35058.step hs
                      replace r35036 := r35036.step hs
                      replace r35038 := r35038.step hs
                      replace r35040 := r35040.step hs
                      replace r35042 := r35042.step hs
                      replace r34892 := r34892.step hs
                      replace r34895 := r34895.step hs
                      replace r34898 := r34898.step hs
                      replace r34901 := r34901.step hs
                      replace tb := tb.step hs
                      refine W.heldT [(0, true), (1, true), (2, true), (3, true), (4, true), (5, true), (6, true), (7, true), (8, true), (9, true), (10, false), (11, false), (12, true), (13, true), (14, true), (15, true), (16, true), (17, false), (18, false), (19, true), (20, true)] (fun x => Stp I35050 w35061.drew I35050 x ∧ OwnK [(g35043, [(.bool x35030.Lo.Num.Neg), v35035, (.bool x35030.Lo.Den.Neg), v35037, (.bool x35030.Hi.Num.Neg), v35039, (.bool x35030.Hi.Den.Neg), v35041], 46), (g34763, [(.bool x34764), v34891, (.bool x34768), v34894], 26), (g34772, [(.bool x34773), v34897, (.bool x34777), v34900], 26), (g35059, [(.bool x35046.Lo.Num.Neg), v35051, (.bool x35046.Lo.Den.Neg), v35053, (.bool x35046.Hi.Num.Neg), v35055, (.bool x35046.Hi.Den.Neg), v35057], 46)] x) MX (by kernel_rfl) ⟨Stp.refl _ _, (OwnK.cons (hp.own 1 _ _ _ rfl).1 (OwnK.cons (hp.own 2 _ _ _ rfl).1 (OwnK.cons (hp.own 3 _ _ _ rfl).1 (OwnK.cons (hp.own 0 _ _ _ rfl).1 OwnK.nil))))⟩ ?_
                      have hz := Stp.refl I35050 w35061.drew
                      intro ops hops
                      have e0 : nthO ops 0 = some _ := (hops 0).trans rfl
                      have e1 : nthO ops 1 = some _ := (hops 1).trans rfl
                      have e2 : nthO ops 2 = some _ := (hops 2).trans rfl
                      have e3 : nthO ops 3 = some _ := (hops 3).trans rfl
                      have e4 : nthO ops 4 = some _ := (hops 4).trans rfl
                      have e5 : nthO ops 5 = some _ := (hops 5).trans rfl
                      have e6 : nthO ops 6 = some _ := (hops 6).trans rfl
                      have e7 : nthO ops 7 = some _ := (hops 7).trans rfl
                      have e8 : nthO ops 8 = some _ := (hops 8).trans rfl
                      have e9 : nthO ops 9 = some _ := (hops 9).trans rfl
                      have e10 : nthO ops 10 = some _ := (hops 10).trans rfl
                      have e11 : nthO ops 11 = some _ := (hops 11).trans rfl
                      have e12 : nthO ops 12 = some _ := (hops 12).trans rfl
                      have e13 : nthO ops 13 = some _ := (hops 13).trans rfl
                      have e14 : nthO ops 14 = some _ := (hops 14).trans rfl
                      have e15 : nthO ops 15 = some _ := (hops 15).trans rfl
                      have e16 : nthO ops 16 = some _ := (hops 16).trans rfl
                      have e17 : nthO ops 17 = some _ := (hops 17).trans rfl
                      have e18 : nthO ops 18 = some _ := (hops 18).trans rfl
                      have e19 : nthO ops 19 = some _ := (hops 19).trans rfl
                      have e20 : nthO ops 20 = some _ := (hops 20).trans rfl
                      clear hops
                      refine vch_q e0 rfl ?_
                      refine vch_q e1 rfl ?_
                      refine vch_q e2 rfl ?_
                      rcases Bool.eq_false_or_eq_true (x35031 == 0) with hc | hc
                      ·
                        have q35110 := cond_t q35110 hc
                        refine vch_qt e3 rfl e2 rfl rfl hc ?_
                        refine vch_qt e4 rfl e2 rfl rfl rfl ?_
                        refine vch_q e5 rfl ?_
                        refine vch_q e6 rfl ?_
                        rcases Bool.eq_false_or_eq_true (x35047 == 0) with hc | hc
                        ·
                          have q35110 := cond_t q35110 hc
                          refine vch_qt e7 rfl e6 rfl rfl hc ?_
                          refine evh (fun w' hw => rn_load rfl rfl (run_loadVarA T46 rfl (hw.2.at_ (i := 0) rfl))) ?_
                          refine vch_qt e8 rfl e6 rfl rfl rfl ?_
                          refine evh (fun w' hw => rn_load rfl rfl (run_loadVarA T26 rfl (hw.2.at_ (i := 1) rfl))) ?_
                          refine vch_qt e9 rfl e6 rfl rfl rfl ?_
                          refine evh (fun w' hw => rn_load rfl rfl (run_loadVarA T26 rfl (hw.2.at_ (i := 2) rfl))) ?_
                          refine vch_lt e10 rfl e6 rfl rfl rfl ?_
                          obtain ⟨x35133, q35134, q35110⟩ := bind_some q35110
                          refine ev_call rfl rfl C19 (((rational_Add_ok n) _ _  (Rational.mk (Int_2.mk x34764 x34890) (Int_2.mk x34768 x34893)) v34891 r34892 v34894 r34895 (Rational.mk (Int_2.mk x34773 x34896) (Int_2.mk x34777 x34899)) v34897 r34898 v34900 r34901 hp.imm _ q35134).mono ?_)
                          rintro _ w35135 ⟨I35136, v35137, v35139, hv, hq, r35138, r35140⟩
                          replace hv := hv.symm
                          subst hv
                          have hs := hq.st
                          have hp := hp.join0 hq
                          replace hz := hz.trans hs
                          replace r35036 := r35036.step hs
                          replace r35038 := r35038.step hs
                          replace r35040 := r35040.step hs
                          replace r35042 := r35042.step hs
                          replace r35052 := r35052.step hs
                          replace r35054 := r35054.step hs
                          replace r35056 := r35056.step hs
                          replace r35058 := r35058.step hs
                          replace r34892 := r34892.step hs
                          replace r34895 := r34895.step hs
                          replace r34898 := r34898.step hs
                          replace r34901 := r34901.step hs
                          replace tb := tb.step hs
                          refine ⟨fun x => Stp I35136 w35135 I35136 x ∧ OwnK [(g35043, [(.bool x35030.Lo.Num.Neg), v35035, (.bool x35030.Lo.Den.Neg), v35037, (.bool x35030.Hi.Num.Neg), v35039, (.bool x35030.Hi.Den.Neg), v35041], 46), (g34763, [(.bool x34764), v34891, (.bool x34768), v34894], 26), (g34772, [(.bool x34773), v34897, (.bool x34777), v34900], 26), (g35059, [(.bool x35046.Lo.Num.Neg), v35051, (.bool x35046.Lo.Den.Neg), v35053, (.bool x35046.Hi.Num.Neg), v35055, (.bool x35046.Hi.Den.Neg), v35057], 46)] x, ⟨Stp.refl _ _, (OwnK.cons (hp.own 1 _ _ _ rfl).1 (OwnK.cons (hp.own 2 _ _ _ rfl).1 (OwnK.cons (hp.own 3 _ _ _ rfl).1 (OwnK.cons (hp.own 0 _ _ _ rfl).1 OwnK.nil))))⟩, fun x hx => ⟨hz.held hx.1, hx.2⟩, ?_⟩
                          have hz := Stp.refl I35136 w35135
                          refine vch_lt e11 rfl e6 rfl rfl rfl ?_
                          obtain ⟨x35141, q35142, q35110⟩ := bind_some q35110
                          refine ev_call rfl rfl C31 (((rational_Has_ok n) _ _  (Interval.mk (Rational.mk (Int_2.mk x35030.Lo.Num.Neg x35030.Lo.Num.Mag) (Int_2.mk x35030.Lo.Den.Neg x35030.Lo.Den.Mag)) (Rational.mk (Int_2.mk x35030.Hi.Num.Neg x35030.Hi.Num.Mag) (Int_2.mk x35030.Hi.Den.Neg x35030.Hi.Den.Mag))) v35035 r35036 v35037 r35038 v35039 r35040 v35041 r35042 x35133 v35137 r35138 v35139 r35140 hp.imm _ q35142).mono ?_)
                          rintro _ w35143 ⟨rfl, hc⟩
                          have hs := hp.stp hc
                          replace hp := hp.ext hc
                          replace hz := hz.trans hs
                          replace r35052 := r35052.step hs
                          replace r35054 := r35054.step hs
                          replace r35056 := r35056.step hs
                          replace r35058 := r35058.step hs
                          replace r35036 := r35036.step hs
                          replace r35038 := r35038.step hs
                          replace r35040 := r35040.step hs
                          replace r35042 := r35042.step hs
                          replace r34892 := r34892.step hs
                          replace r34895 := r34895.step hs
                          replace r34898 := r34898.step hs
                          replace r34901 := r34901.step hs
                          replace tb := tb.step hs
                          refine ⟨fun x => Stp I35136 w35143 I35136 x ∧ OwnK [(g35043, [(.bool x35030.Lo.Num.Neg), v35035, (.bool x35030.Lo.Den.Neg), v35037, (.bool x35030.Hi.Num.Neg), v35039, (.bool x35030.Hi.Den.Neg), v35041], 46), (g34763, [(.bool x34764), v34891, (.bool x34768), v34894], 26), (g34772, [(.bool x34773), v34897, (.bool x34777), v34900], 26), (g35059, [(.bool x35046.Lo.Num.Neg), v35051, (.bool x35046.Lo.Den.Neg), v35053, (.bool x35046.Hi.Num.Neg), v35055, (.bool x35046.Hi.Den.Neg), v35057], 46)] x, ⟨Stp.refl _ _, (OwnK.cons (hp.own 1 _ _ _ rfl).1 (OwnK.cons (hp.own 2 _ _ _ rfl).1 (OwnK.cons (hp.own 3 _ _ _ rfl).1 (OwnK.cons (hp.own 0 _ _ _ rfl).1 OwnK.nil))))⟩, fun x hx => ⟨hz.held hx.1, hx.2⟩, ?_⟩
                          have hz := Stp.refl I35136 w35143
                          refine vch_q e12 rfl ?_
                          refine vch_q e13 rfl ?_
                          rcases Bool.eq_false_or_eq_true x35141 with hc | hc
                          ·
                            have q35110 := cond_t q35110 hc
                            refine vch_qt e14 rfl e13 rfl rfl hc ?_
                            refine evh (fun w' hw => rn_load rfl rfl (run_loadVarA T46 rfl (hw.2.at_ (i := 3) rfl))) ?_
                            refine vch_qt e15 rfl e13 rfl rfl rfl ?_
                            refine evh (fun w' hw => rn_load rfl rfl (run_loadVarA T26 rfl (hw.2.at_ (i := 1) rfl))) ?_
                            refine vch_qt e16 rfl e13 rfl rfl rfl ?_
                            refine evh (fun w' hw => rn_load rfl rfl (run_loadVarA T26 rfl (hw.2.at_ (i := 2) rfl))) ?_
                            refine vch_lt e17 rfl e13 rfl rfl rfl ?_
                            obtain ⟨x35144, q35145, q35110⟩ := bind_some q35110
                            refine ev_call rfl rfl C23 (((rational_Mul_ok n) _ _  (Rational.mk (Int_2.mk x34764 x34890) (Int_2.mk x34768 x34893)) v34891 r34892 v34894 r34895 (Rational.mk (Int_2.mk x34773 x34896) (Int_2.mk x34777 x34899)) v34897 r34898 v34900 r34901 hp.imm _ q35145).mono ?_)
                            rintro _ w35146 ⟨I35147, v35148, v35150, hv, hq, r35149, r35151⟩
                            replace hv := hv.symm
                            subst hv
                            have hs := hq.st
                            have hp := hp.join0 hq
                            replace hz := hz.trans hs
                            replace r35052 := r35052.step hs
                            replace r35054 := r35054.step hs
                            replace r35056 := r35056.step hs
                            replace r35058 := r35058.step hs
                            replace r35036 := r35036.step hs
                            replace r35038 := r35038.step hs
                            replace r35040 := r35040.step hs
                            replace r35042 := r35042.step hs
                            replace r34892 := r34892.step hs
                            replace r34895 := r34895.step hs
                            replace r34898 := r34898.step hs
                            replace r34901 := r34901.step hs
                            replace tb := tb.step hs
                            refine ⟨fun x => Stp I35147 w35146 I35147 x ∧ OwnK [(g35043, [(.bool x35030.Lo.Num.Neg), v35035, (.bool x35030.Lo.Den.Neg), v35037, (.bool x35030.Hi.Num.Neg), v35039, (.bool x35030.Hi.Den.Neg), v35041], 46), (g34763, [(.bool x34764), v34891, (.bool x34768), v34894], 26), (g34772, [(.bool x34773), v34897, (.bool x34777), v34900], 26), (g35059, [(.bool x35046.Lo.Num.Neg), v35051, (.bool x35046.Lo.Den.Neg), v35053, (.bool x35046.Hi.Num.Neg), v35055, (.bool x35046.Hi.Den.Neg), v35057], 46)] x, ⟨Stp.refl _ _, (OwnK.cons (hp.own 1 _ _ _ rfl).1 (OwnK.cons (hp.own 2 _ _ _ rfl).1 (OwnK.cons (hp.own 3 _ _ _ rfl).1 (OwnK.cons (hp.own 0 _ _ _ rfl).1 OwnK.nil))))⟩, fun x hx => ⟨hz.held hx.1, hx.2⟩, ?_⟩
                            have hz := Stp.refl I35147 w35146
                            refine vch_lt e18 rfl e13 rfl rfl rfl ?_
                            obtain ⟨x35152, q35153, q35110⟩ := bind_some q35110
                            refine ev_call rfl rfl C31 (((rational_Has_ok n) _ _  (Interval.mk (Rational.mk (Int_2.mk x35046.Lo.Num.Neg x35046.Lo.Num.Mag) (Int_2.mk x35046.Lo.Den.Neg x35046.Lo.Den.Mag)) (Rational.mk (Int_2.mk x35046.Hi.Num.Neg x35046.Hi.Num.Mag) (Int_2.mk x35046.Hi.Den.Neg x35046.Hi.Den.Mag))) v35051 r35052 v35053 r35054 v35055 r35056 v35057 r35058 x35144 v35148 r35149 v35150 r35151 hp.imm _ q35153).mono ?_)
                            rintro _ w35154 ⟨rfl, hc⟩
                            have hs := hp.stp hc
                            replace hp := hp.ext hc
                            replace hz := hz.trans hs
                            replace r35052 := r35052.step hs
                            replace r35054 := r35054.step hs
                            replace r35056 := r35056.step hs
                            replace r35058 := r35058.step hs
                            replace r35036 := r35036.step hs
                            replace r35038 := r35038.step hs
                            replace r35040 := r35040.step hs
                            replace r35042 := r35042.step hs
                            replace r34892 := r34892.step hs
                            replace r34895 := r34895.step hs
                            replace r34898 := r34898.step hs
                            replace r34901 := r34901.step hs
                            replace tb := tb.step hs
                            refine ⟨fun x => Stp I35147 w35154 I35147 x ∧ OwnK [(g35043, [(.bool x35030.Lo.Num.Neg), v35035, (.bool x35030.Lo.Den.Neg), v35037, (.bool x35030.Hi.Num.Neg), v35039, (.bool x35030.Hi.Den.Neg), v35041], 46), (g34763, [(.bool x34764), v34891, (.bool x34768), v34894], 26), (g34772, [(.bool x34773), v34897, (.bool x34777), v34900], 26), (g35059, [(.bool x35046.Lo.Num.Neg), v35051, (.bool x35046.Lo.Den.Neg), v35053, (.bool x35046.Hi.Num.Neg), v35055, (.bool x35046.Hi.Den.Neg), v35057], 46)] x, ⟨Stp.refl _ _, (OwnK.cons (hp.own 1 _ _ _ rfl).1 (OwnK.cons (hp.own 2 _ _ _ rfl).1 (OwnK.cons (hp.own 3 _ _ _ rfl).1 (OwnK.cons (hp.own 0 _ _ _ rfl).1 OwnK.nil))))⟩, fun x hx => ⟨hz.held hx.1, hx.2⟩, ?_⟩
                            have hz := Stp.refl I35147 w35154
                            refine vch_q e19 rfl ?_
                            refine vch_q e20 rfl ?_
                            refine vch_end ?_
                            obtain rfl := Option.some.inj q35110
                            have hp := hp.sel [] (by decide)
                            exact ⟨(x35152, I35147), (.c rfl .n), rfl, hp, tb⟩
                          ·
                            have q35110 := cond_f q35110 hc
                            refine vch_qf e14 rfl e13 rfl rfl hc ?_
                            refine vch_qf e15 rfl e13 rfl rfl rfl ?_
                            refine vch_qf e16 rfl e13 rfl rfl rfl ?_
                            refine vch_lf e17 rfl e13 rfl rfl rfl ?_
                            refine ⟨fun x => Stp I35136 w35143 I35136 x ∧ OwnK [(g35043, [(.bool x35030.Lo.Num.Neg), v35035, (.bool x35030.Lo.Den.Neg), v35037, (.bool x35030.Hi.Num.Neg), v35039, (.bool x35030.Hi.Den.Neg), v35041], 46), (g34763, [(.bool x34764), v34891, (.bool x34768), v34894], 26), (g34772, [(.bool x34773), v34897, (.bool x34777), v34900], 26), (g35059, [(.bool x35046.Lo.Num.Neg), v35051, (.bool x35046.Lo.Den.Neg), v35053, (.bool x35046.Hi.Num.Neg), v35055, (.bool x35046.Hi.Den.Neg), v35057], 46)] x, ⟨Stp.refl _ _, (OwnK.cons (hp.own 1 _ _ _ rfl).1 (OwnK.cons (hp.own 2 _ _ _ rfl).1 (OwnK.cons (hp.own 3 _ _ _ rfl).1 (OwnK.cons (hp.own 0 _ _ _ rfl).1 OwnK.nil))))⟩, fun x hx => ⟨hz.held hx.1, hx.2⟩, ?_⟩
                            have hz := Stp.refl I35136 w35143
                            refine vch_lf e18 rfl e13 rfl rfl rfl ?_
                            refine ⟨fun x => Stp I35136 w35143 I35136 x ∧ OwnK [(g35043, [(.bool x35030.Lo.Num.Neg), v35035, (.bool x35030.Lo.Den.Neg), v35037, (.bool x35030.Hi.Num.Neg), v35039, (.bool x35030.Hi.Den.Neg), v35041], 46), (g34763, [(.bool x34764), v34891, (.bool x34768), v34894], 26), (g34772, [(.bool x34773), v34897, (.bool x34777), v34900], 26), (g35059, [(.bool x35046.Lo.Num.Neg), v35051, (.bool x35046.Lo.Den.Neg), v35053, (.bool x35046.Hi.Num.Neg), v35055, (.bool x35046.Hi.Den.Neg), v35057], 46)] x, ⟨Stp.refl _ _, (OwnK.cons (hp.own 1 _ _ _ rfl).1 (OwnK.cons (hp.own 2 _ _ _ rfl).1 (OwnK.cons (hp.own 3 _ _ _ rfl).1 (OwnK.cons (hp.own 0 _ _ _ rfl).1 OwnK.nil))))⟩, fun x hx => ⟨hz.held hx.1, hx.2⟩, ?_⟩
                            have hz := Stp.refl I35136 w35143
                            refine vch_q e19 rfl ?_
                            refine vch_q e20 rfl ?_
                            refine vch_end ?_
                            obtain rfl := Option.some.inj q35110
                            have hp := hp.sel [] (by decide)
                            exact ⟨(false, I35136), (.c rfl .n), rfl, hp, tb⟩
                        ·
                          have q35110 := cond_f q35110 hc
                          refine vch_qf e7 rfl e6 rfl rfl hc ?_
                          refine vch_qf e8 rfl e6 rfl rfl rfl ?_
                          refine vch_qf e9 rfl e6 rfl rfl rfl ?_
                          refine vch_lf e10 rfl e6 rfl rfl rfl ?_
                          refine ⟨fun x => Stp I35050 w35061.drew I35050 x ∧ OwnK [(g35043, [(.bool x35030.Lo.Num.Neg), v35035, (.bool x35030.Lo.Den.Neg), v35037, (.bool x35030.Hi.Num.Neg), v35039, (.bool x35030.Hi.Den.Neg), v35041], 46), (g34763, [(.bool x34764), v34891, (.bool x34768), v34894], 26), (g34772, [(.bool x34773), v34897, (.bool x34777), v34900], 26), (g35059, [(.bool x35046.Lo.Num.Neg), v35051, (.bool x35046.Lo.Den.Neg), v35053, (.bool x35046.Hi.Num.Neg), v35055, (.bool x35046.Hi.Den.Neg), v35057], 46)] x, ⟨Stp.refl _ _, (OwnK.cons (hp.own 1 _ _ _ rfl).1 (OwnK.cons (hp.own 2 _ _ _ rfl).1 (OwnK.cons (hp.own 3 _ _ _ rfl).1 (OwnK.cons (hp.own 0 _ _ _ rfl).1 OwnK.nil))))⟩, fun x hx => ⟨hz.held hx.1, hx.2⟩, ?_⟩
                          have hz := Stp.refl I35050 w35061.drew
                          refine vch_lf e11 rfl e6 rfl rfl rfl ?_
                          refine ⟨fun x => Stp I35050 w35061.drew I35050 x ∧ OwnK [(g35043, [(.bool x35030.Lo.Num.Neg), v35035, (.bool x35030.Lo.Den.Neg), v35037, (.bool x35030.Hi.Num.Neg), v35039, (.bool x35030.Hi.Den.Neg), v35041], 46), (g34763, [(.bool x34764), v34891, (.bool x34768), v34894], 26), (g34772, [(.bool x34773), v34897, (.bool x34777), v34900], 26), (g35059, [(.bool x35046.Lo.Num.Neg), v35051, (.bool x35046.Lo.Den.Neg), v35053, (.bool x35046.Hi.Num.Neg), v35055, (.bool x35046.Hi.Den.Neg), v35057], 46)] x, ⟨Stp.refl _ _, (OwnK.cons (hp.own 1 _ _ _ rfl).1 (OwnK.cons (hp.own 2 _ _ _ rfl).1 (OwnK.cons (hp.own 3 _ _ _ rfl).1 (OwnK.cons (hp.own 0 _ _ _ rfl).1 OwnK.nil))))⟩, fun x hx => ⟨hz.held hx.1, hx.2⟩, ?_⟩
                          have hz := Stp.refl I35050 w35061.drew
                          refine vch_q e12 rfl ?_
                          refine vch_q e13 rfl ?_
                          refine vch_qf e14 rfl e13 rfl rfl rfl ?_
                          refine vch_qf e15 rfl e13 rfl rfl rfl ?_
                          refine vch_qf e16 rfl e13 rfl rfl rfl ?_
                          refine vch_lf e17 rfl e13 rfl rfl rfl ?_
                          refine ⟨fun x => Stp I35050 w35061.drew I35050 x ∧ OwnK [(g35043, [(.bool x35030.Lo.Num.Neg), v35035, (.bool x35030.Lo.Den.Neg), v35037, (.bool x35030.Hi.Num.Neg), v35039, (.bool x35030.Hi.Den.Neg), v35041], 46), (g34763, [(.bool x34764), v34891, (.bool x34768), v34894], 26), (g34772, [(.bool x34773), v34897, (.bool x34777), v34900], 26), (g35059, [(.bool x35046.Lo.Num.Neg), v35051, (.bool x35046.Lo.Den.Neg), v35053, (.bool x35046.Hi.Num.Neg), v35055, (.bool x35046.Hi.Den.Neg), v35057], 46)] x, ⟨Stp.refl _ _, (OwnK.cons (hp.own 1 _ _ _ rfl).1 (OwnK.cons (hp.own 2 _ _ _ rfl).1 (OwnK.cons (hp.own 3 _ _ _ rfl).1 (OwnK.cons (hp.own 0 _ _ _ rfl).1 OwnK.nil))))⟩, fun x hx => ⟨hz.held hx.1, hx.2⟩, ?_⟩
                          have hz := Stp.refl I35050 w35061.drew
                          refine vch_lf e18 rfl e13 rfl rfl rfl ?_
                          refine ⟨fun x => Stp I35050 w35061.drew I35050 x ∧ OwnK [(g35043, [(.bool x35030.Lo.Num.Neg), v35035, (.bool x35030.Lo.Den.Neg), v35037, (.bool x35030.Hi.Num.Neg), v35039, (.bool x35030.Hi.Den.Neg), v35041], 46), (g34763, [(.bool x34764), v34891, (.bool x34768), v34894], 26), (g34772, [(.bool x34773), v34897, (.bool x34777), v34900], 26), (g35059, [(.bool x35046.Lo.Num.Neg), v35051, (.bool x35046.Lo.Den.Neg), v35053, (.bool x35046.Hi.Num.Neg), v35055, (.bool x35046.Hi.Den.Neg), v35057], 46)] x, ⟨Stp.refl _ _, (OwnK.cons (hp.own 1 _ _ _ rfl).1 (OwnK.cons (hp.own 2 _ _ _ rfl).1 (OwnK.cons (hp.own 3 _ _ _ rfl).1 (OwnK.cons (hp.own 0 _ _ _ rfl).1 OwnK.nil))))⟩, fun x hx => ⟨hz.held hx.1, hx.2⟩, ?_⟩
                          have hz := Stp.refl I35050 w35061.drew
                          refine vch_q e19 rfl ?_
                          refine vch_q e20 rfl ?_
                          refine vch_end ?_
                          obtain rfl := Option.some.inj q35110
                          have hp := hp.sel [] (by decide)
                          exact ⟨(false, I35050), (.c rfl .n), rfl, hp, tb⟩
                      ·
                        have q35110 := cond_f q35110 hc
                        refine vch_qf e3 rfl e2 rfl rfl hc ?_
                        refine vch_qf e4 rfl e2 rfl rfl rfl ?_
                        refine vch_q e5 rfl ?_
                        refine vch_q e6 rfl ?_
                        refine vch_qf e7 rfl e6 rfl rfl rfl ?_
                        refine vch_qf e8 rfl e6 rfl rfl rfl ?_
                        refine vch_qf e9 rfl e6 rfl rfl rfl ?_
                        refine vch_lf e10 rfl e6 rfl rfl rfl ?_
                        refine ⟨fun x => Stp I35050 w35061.drew I35050 x ∧ OwnK [(g35043, [(.bool x35030.Lo.Num.Neg), v35035, (.bool x35030.Lo.Den.Neg), v35037, (.bool x35030.Hi.Num.Neg), v35039, (.bool x35030.Hi.Den.Neg), v35041], 46), (g34763, [(.bool x34764), v34891, (.bool x34768), v34894], 26), (g34772, [(.bool x34773), v34897, (.bool x34777), v34900], 26), (g35059, [(.bool x35046.Lo.Num.Neg), v35051, (.bool x35046.Lo.Den.Neg), v35053, (.bool x35046.Hi.Num.Neg), v35055, (.bool x35046.Hi.Den.Neg), v35057], 46)] x, ⟨Stp.refl _ _, (OwnK.cons (hp.own 1 _ _ _ rfl).1 (OwnK.cons (hp.own 2 _ _ _ rfl).1 (OwnK.cons (hp.own 3 _ _ _ rfl).1 (OwnK.cons (hp.own 0 _ _ _ rfl).1 OwnK.nil))))⟩, fun x hx => ⟨hz.held hx.1, hx.2⟩, ?_⟩
                        have hz := Stp.refl I35050 w35061.drew
                        refine vch_lf e11 rfl e6 rfl rfl rfl ?_
                        refine ⟨fun x => Stp I35050 w35061.drew I35050 x ∧ OwnK [(g35043, [(.bool x35030.Lo.Num.Neg), v35035, (.bool x35030.Lo.Den.Neg), v35037, (.bool x35030.Hi.Num.Neg), v35039, (.bool x35030.Hi.Den.Neg), v35041], 46), (g34763, [(.bool x34764), v34891, (.bool x34768), v34894], 26), (g34772, [(.bool x34773), v34897, (.bool x34777), v34900], 26), (g35059, [(.bool x35046.Lo.Num.Neg), v35051, (.bool x35046.Lo.Den.Neg), v35053, (.bool x35046.Hi.Num.Neg), v35055, (.bool x35046.Hi.Den.Neg), v35057], 46)] x, ⟨Stp.refl _ _, (OwnK.cons (hp.own 1 _ _ _ rfl).1 (OwnK.cons (hp.own 2 _ _ _ rfl).1 (OwnK.cons (hp.own 3 _ _ _ rfl).1 (OwnK.cons (hp.own 0 _ _ _ rfl).1 OwnK.nil))))⟩, fun x hx => ⟨hz.held hx.1, hx.2⟩, ?_⟩
                        have hz := Stp.refl I35050 w35061.drew
                        refine vch_q e12 rfl ?_
                        refine vch_q e13 rfl ?_
                        refine vch_qf e14 rfl e13 rfl rfl rfl ?_
                        refine vch_qf e15 rfl e13 rfl rfl rfl ?_
                        refine vch_qf e16 rfl e13 rfl rfl rfl ?_
                        refine vch_lf e17 rfl e13 rfl rfl rfl ?_
                        refine ⟨fun x => Stp I35050 w35061.drew I35050 x ∧ OwnK [(g35043, [(.bool x35030.Lo.Num.Neg), v35035, (.bool x35030.Lo.Den.Neg), v35037, (.bool x35030.Hi.Num.Neg), v35039, (.bool x35030.Hi.Den.Neg), v35041], 46), (g34763, [(.bool x34764), v34891, (.bool x34768), v34894], 26), (g34772, [(.bool x34773), v34897, (.bool x34777), v34900], 26), (g35059, [(.bool x35046.Lo.Num.Neg), v35051, (.bool x35046.Lo.Den.Neg), v35053, (.bool x35046.Hi.Num.Neg), v35055, (.bool x35046.Hi.Den.Neg), v35057], 46)] x, ⟨Stp.refl _ _, (OwnK.cons (hp.own 1 _ _ _ rfl).1 (OwnK.cons (hp.own 2 _ _ _ rfl).1 (OwnK.cons (hp.own 3 _ _ _ rfl).1 (OwnK.cons (hp.own 0 _ _ _ rfl).1 OwnK.nil))))⟩, fun x hx => ⟨hz.held hx.1, hx.2⟩, ?_⟩
                        have hz := Stp.refl I35050 w35061.drew
                        refine vch_lf e18 rfl e13 rfl rfl rfl ?_
                        refine ⟨fun x => Stp I35050 w35061.drew I35050 x ∧ OwnK [(g35043, [(.bool x35030.Lo.Num.Neg), v35035, (.bool x35030.Lo.Den.Neg), v35037, (.bool x35030.Hi.Num.Neg), v35039, (.bool x35030.Hi.Den.Neg), v35041], 46), (g34763, [(.bool x34764), v34891, (.bool x34768), v34894], 26), (g34772, [(.bool x34773), v34897, (.bool x34777), v34900], 26), (g35059, [(.bool x35046.Lo.Num.Neg), v35051, (.bool x35046.Lo.Den.Neg), v35053, (.bool x35046.Hi.Num.Neg), v35055, (.bool x35046.Hi.Den.Neg), v35057], 46)] x, ⟨Stp.refl _ _, (OwnK.cons (hp.own 1 _ _ _ rfl).1 (OwnK.cons (hp.own 2 _ _ _ rfl).1 (OwnK.cons (hp.own 3 _ _ _ rfl).1 (OwnK.cons (hp.own 0 _ _ _ rfl).1 OwnK.nil))))⟩, fun x hx => ⟨hz.held hx.1, hx.2⟩, ?_⟩
                        have hz := Stp.refl I35050 w35061.drew
                        refine vch_q e19 rfl ?_
                        refine vch_q e20 rfl ?_
                        refine vch_end ?_
                        obtain rfl := Option.some.inj q35110
                        have hp := hp.sel [] (by decide)
                        exact ⟨(false, I35050), (.c rfl .n), rfl, hp, tb⟩
                    ·
                      rintro ⟨x35106, I35107⟩ w35108 ⟨hy, hp, tb⟩
                      replace hy := hy.symm
                      subst hy
                      apply go
                      obtain rfl := Option.some.inj h
                      exact ⟨rfl, hp.ch⟩

end Go.Proofs.YtepadjfmcbjkmaaDoor
