/-
  Each function of the program computes the plain function of its name.
-/
import Derived.Test.YtepadjfmcbjkmaaDoorFactsA
import Derived.Test.YtepadjfmcbjkmaaDoorWalkA
import Derived.Lib.Walk
import Derived.BigCall
import Derived.BigGuard
import Derived.Test.YtepadjfmcbjkmaaDoorCoreA
namespace Go.Proofs.YtepadjfmcbjkmaaDoor
open Go Go.Proofs.YtepadjfmcbjkmaaDoor.Gw Go.RowKit
set_option linter.unusedVariables false
attribute [local irreducible] Ev EvQ EvS EvH
def rational_one_S (f : Int_2 → Option Bool) : Prop := ∀ (w0 : World) (I0 : Nat → Prop) (x17386 : Int_2) (v17387 : Value) (r17388 : RepS (dI .u32) w0 I0 v17387 x17386.Mag) (hI : ∀ g, I0 g → g < w0.heap.size) (r : Bool), f x17386 = some r →
    Ret Tryd.prog 52 #[(.agg #[(.bool x17386.Neg), v17387])] w0 fun v w1 => v = (.bool r) ∧ Ch [] w0 w1
theorem rational_one_ok (n : Nat) : rational_one_S (rational_one n) := by
  intro w0 I0 x17386 v17387 r17388 hI r h
  unfold rational_one at h
  refine enter Tryd.func52 rfl (Nat.le_of_ble_eq_true rfl) ?_
  have hp : Hp ⟨w0, I0, []⟩ I0 [] w0 := Hp.start hI
  apply go
  apply go
  refine ev_boxI hp rfl rfl ?_
  intro p17391 I17392 w17390 hp hs a17393
  replace r17388 := r17388.step hs
  apply go
  have hs := hp.stp (Ch.drew [] w17390)
  have hp := hp.drew
  replace a17393 := a17393.step hs
  replace r17388 := r17388.step hs
  refine W.held [(0, true), (1, false), (2, false), (3, true), (4, true)] (Stp I17392 w17390.drew I17392) MX (by kernel_rfl) (Stp.refl _ _) ?_
  have hz := Stp.refl I17392 w17390.drew
  refine evh (fun w' hw => rn_load rfl rfl (run_loadVarA T24 rfl (a17393.step hw))) ?_
  obtain ⟨x17403, q17404, h⟩ := bind_some h
  refine ev_call rfl rfl C38 (((integer_Of_ok n) _ _  1 hp.imm _ q17404).mono ?_)
  rintro _ w17405 ⟨I17406, v17407, hv, hq, r17408⟩
  replace hv := hv.symm
  subst hv
  have hs := hq.st
  have hp := hp.join0 hq
  replace hz := hz.trans hs
  replace r17388 := r17388.step hs
  refine ⟨Stp I17406 w17405 I17406, Stp.refl _ _, fun x hx => hz.held hx, ?_⟩
  have hz := Stp.refl I17406 w17405
  obtain ⟨x17409, q17410, h⟩ := bind_some h
  refine ev_call rfl rfl C51 (((integer_Cmp_ok n) _ _  (Int_2.mk x17386.Neg x17386.Mag) v17387 r17388 x17403 v17407 r17408 hp.imm _ q17410).mono ?_)
  rintro _ w17411 ⟨rfl, hc⟩
  have hs := hp.stp hc
  replace hp := hp.ext hc
  replace hz := hz.trans hs
  refine ⟨Stp I17406 w17411 I17406, Stp.refl _ _, fun x hx => hz.held hx, ?_⟩
  have hz := Stp.refl I17406 w17411
  apply go
  obtain rfl := Option.some.inj h
  exact ⟨rfl, hp.ch⟩

end Go.Proofs.YtepadjfmcbjkmaaDoor

namespace Go.Proofs.YtepadjfmcbjkmaaDoor
open Go Go.Proofs.YtepadjfmcbjkmaaDoor.Gw Go.RowKit
set_option linter.unusedVariables false
attribute [local irreducible] Ev EvQ EvS EvH
def strconv_FormatUint_S (f : Int → Int → Option ByteArray) : Prop := ∀ (w0 : World) (I0 : Nat → Prop) (tb : Tb w0 I0 1 .u64 pow10) (x17427 : Int) (x17428 : Int) (hI : ∀ g, I0 g → g < w0.heap.size) (r : ByteArray), f x17427 x17428 = some r →
    Ret Tryd.prog 73 #[(.int .u64 x17427), (.int .i64 x17428)] w0 fun v w1 => v = (.string r) ∧ Ch [] w0 w1

open Go.Sort in
theorem fmt_zero (w : World) (nd : Nat) (hs : nd ≤ 24) : Holds (fun (b : UInt8) => Value.int .u8 (b.toNat : Int)) (w.alloc (.cells Lib.zeros24 103)) w.heap.size 0 (Array.replicate nd (0 : UInt8)) := fun j hj => by
  have hj' : j < nd := by simpa using hj
  refine ⟨?_, World.frozen?_alloc_new _ _ _ _⟩
  rw [World.cell?_alloc_new, Lib.zeros24_at _ (by omega), getElem!_pos _ j hj]
  simp
open Go.Sort in
theorem fmt_below (w : World) (o : Obj) (dk : Array UInt8) (k : Nat) : Below w.heap.size w ((putRow (fun (b : UInt8) => Value.int .u8 (b.toNat : Int)) (w.alloc o) w.heap.size 0 dk).drewN k) := by
  have h1 : Below w.heap.size w (putRow (fun (b : UInt8) => Value.int .u8 (b.toNat : Int)) (w.alloc o) w.heap.size 0 dk) := by
    refine ⟨rfl, rfl, rfl, by rw [size_putRow]; exact (Below.alloc (Below.refl w.heap.size w) (Nat.le_refl _) o).size, fun g hg => ?_⟩
    rw [← Below.heap_alloc w o g hg]
    unfold putRow mapBlock
    dsimp only
    rw [Array.getElem?_modify, if_neg (by omega)]
  refine ⟨?_, ?_, ?_, ?_, ?_⟩
  · exact h1.os
  · exact h1.tape
  · exact h1.output
  · exact h1.size
  · exact h1.block
set_option maxHeartbeats 6400000 in
set_option maxRecDepth 100000 in
theorem fmt_big (u : Nat) (h100 : 100 ≤ u) (hu64 : u < 18446744073709551616) (w : World) (htab : Lib.TabIs Tryd.prog w "internal/strconv.uint64pow10" .u64 Lib.pow10Tab) :
    Calls Tryd.prog 85 #[.int .u64 u, .int .i64 10] w fun e w' => e = .returned (.string ⟨(Lib.decDigits u).toArray⟩) ∧ Below w.heap.size w w' := by
  have hu1 : 1 ≤ u := by omega
  have hnd20 : Lib.nDigits u ≤ 20 := by have := Lib.numDigits_eq u hu1 hu64; split at this <;> omega
  have hb3 : Lib.nDigits u ≤ 24 := by omega
  have hal : Tryd.prog.arrayLen 103 = 24 := by simp [Program.arrayLen, Tryd.underlying103]
  have hsl : ∀ W, (Instr.sliceAt 103 (.pointer (some ⟨w.heap.size, 0, none⟩)) none (some (.int .i64 (Lib.nDigits u : Int))) none).run Tryd.prog W = .ok (.slice (some ⟨w.heap.size, 0, none⟩) (Lib.nDigits u) 24) W := fun W => by
    rw [run_sliceAt_array_h W 103 ⟨w.heap.size, 0, none⟩ (by simp [Program.arrayLen, Program.elem, Tryd.underlying103]) .i64 (Lib.nDigits u : Int) (by omega) (by rw [hal]; omega)]
    go_simp
  have hH0 := fmt_zero w (Lib.nDigits u) (by omega)
  have hfmt := sh_internal_strconv_formatBase10 w.heap.size 0 24 u (Array.replicate (Lib.nDigits u) 0) (w.alloc (.cells Lib.zeros24 103)) hH0 (by rw [Array.size_replicate]; exact Lib.lt_pow_nDigits u) hu64 (by rw [Array.size_replicate]; omega)
  rw [Array.size_replicate] at hfmt
  have HH0 := Lib.hid hH0
  clear hH0 hal
  go_enter Tryd.func85, Tryd.ntmps85
  go_wp2_with (first
    | (go_at_call 96; refine (sh_internal_strconv_numDigits u hu1 hu64 _ (Lib.tabIs_alloc htab _)).mono ?_; rintro e w' ⟨rfl, rfl⟩))
  go_at_call 97
  refine hfmt.mono ?_
  rintro e w' ⟨rfl, k, v', dk, rfl, hF⟩
  have hcv : (convert 92 9 (.slice (some ⟨w.heap.size, 0, none⟩) (Lib.nDigits u) 24)).run Tryd.prog ((Go.Sort.putRow (fun (b : UInt8) => Value.int .u8 (b.toNat : Int)) (w.alloc (.cells Lib.zeros24 103)) w.heap.size 0 dk).drewN k) = .ok (.string ⟨(Lib.decDigits u).toArray⟩) ((Go.Sort.putRow (fun (b : UInt8) => Value.int .u8 (b.toNat : Int)) (w.alloc (.cells Lib.zeros24 103)) w.heap.size 0 dk).drewN k) := by
    have h := run_convert_bytes_back (P := Tryd.prog) ((Go.Sort.putRow (fun (b : UInt8) => Value.int .u8 (b.toNat : Int)) (w.alloc (.cells Lib.zeros24 103)) w.heap.size 0 dk).drewN k) 92 9 5 ⟨w.heap.size, 0, none⟩ 24 (Lib.decDigits u) Tryd.underlying92 Tryd.underlying5 Tryd.underlying9 (fun j hj => by
      rw [Lib.row_is_numeral hF j hj, Lib.add_plain, World.cell?_drewN]
      exact Go.Sort.cell?_putRow (fun (b : UInt8) => Value.int .u8 (b.toNat : Int)) _ w.heap.size 0 _ dk HH0.out (by rw [hF.size, Array.size_replicate]) j (by rw [hF.size]; rw [Lib.decDigits_length] at hj; exact hj))
    rw [Lib.decDigits_length] at h
    exact h
  go_wp2
  go_ret
  exact ⟨rfl, fmt_below w _ dk k⟩
theorem fmt_inner (u : Nat) (hu64 : u < 18446744073709551616) (w : World) (htab : Lib.TabIs Tryd.prog w "internal/strconv.uint64pow10" .u64 Lib.pow10Tab) :
    Calls Tryd.prog 85 #[.int .u64 u, .int .i64 10] w fun e w' => e = .returned (.string ⟨(Lib.decDigits u).toArray⟩) ∧ Below w.heap.size w w' := by
  by_cases h100 : u < 100
  · go_enter Tryd.func85, Tryd.ntmps85
    go_wp2_with (first
      | (go_at_call 95; refine (sh_internal_strconv_small u h100 _).mono ?_; rintro e w' ⟨rfl, rfl⟩))
    go_ret
    exact ⟨rfl, Below.refl _ _⟩
  · exact fmt_big u (by omega) hu64 w htab
theorem strconv_FormatUint_ok (n : Nat) : strconv_FormatUint_S (strconv_FormatUint n) := by
  intro w0 I0 tb x b hI r h
  obtain ⟨rfl, ⟨u, rfl, hu⟩, rfl⟩ := fmtU_some h
  have htab : Lib.TabIs Tryd.prog w0 "internal/strconv.uint64pow10" .u64 Lib.pow10Tab := tb.tab (zs := Lib.pow10Tab) (by kernel_rfl)
  apply ret_below
  go_enter Tryd.func73, Tryd.ntmps73
  go_wp2_with (first
    | (go_at_call 85; refine (fmt_inner u hu _ htab).mono ?_; rintro e w' ⟨rfl, hb⟩))
  go_ret
  exact ⟨rfl, hb⟩

end Go.Proofs.YtepadjfmcbjkmaaDoor

namespace Go.Proofs.YtepadjfmcbjkmaaDoor
open Go Go.Proofs.YtepadjfmcbjkmaaDoor.Gw Go.RowKit
set_option linter.unusedVariables false
attribute [local irreducible] Ev EvQ EvS EvH
def bits_Mul32_S (f : Int → Int → Option (Int × Int)) : Prop := ∀ (w0 : World) (I0 : Nat → Prop) (x17429 : Int) (x17430 : Int) (hI : ∀ g, I0 g → g < w0.heap.size) (r : (Int × Int)), f x17429 x17430 = some r →
    Ret Tryd.prog 99 #[(.int .u32 x17429), (.int .u32 x17430)] w0 fun v w1 => v = (.tuple #[(.int .u32 r.1), (.int .u32 r.2)]) ∧ Ch [] w0 w1
theorem bits_Mul32_ok (n : Nat) : bits_Mul32_S (bits_Mul32 n) := by
  intro w0 I0 x17429 x17430 hI r h
  unfold bits_Mul32 at h
  refine enter Tryd.func99 rfl (Nat.le_of_ble_eq_true rfl) ?_
  have hp : Hp ⟨w0, I0, []⟩ I0 [] w0 := Hp.start hI
  apply go
  apply go
  apply go
  apply go
  refine ev0 (rn_conv rfl rfl U42 Tryd.underlying68) ?_
  refine ev0 (rn_conv rfl rfl U42 Tryd.underlying68) ?_
  apply go
  apply go
  refine ⟨by decide, ?_⟩
  refine ev0 (rn_conv rfl rfl U68 Tryd.underlying42) ?_
  refine ev0 (rn_conv rfl rfl U68 Tryd.underlying42) ?_
  apply go
  obtain rfl := Option.some.inj h
  exact ⟨rfl, hp.ch⟩

end Go.Proofs.YtepadjfmcbjkmaaDoor

namespace Go.Proofs.YtepadjfmcbjkmaaDoor
open Go Go.Proofs.YtepadjfmcbjkmaaDoor.Gw Go.RowKit
set_option linter.unusedVariables false
attribute [local irreducible] Ev EvQ EvS EvH
def bits_Mul64_S (f : Int → Int → Option (Int × Int)) : Prop := ∀ (w0 : World) (I0 : Nat → Prop) (x17431 : Int) (x17432 : Int) (hI : ∀ g, I0 g → g < w0.heap.size) (r : (Int × Int)), f x17431 x17432 = some r →
    Ret Tryd.prog 100 #[(.int .u64 x17431), (.int .u64 x17432)] w0 fun v w1 => v = (.tuple #[(.int .u64 r.1), (.int .u64 r.2)]) ∧ Ch [] w0 w1
theorem bits_Mul64_ok (n : Nat) : bits_Mul64_S (bits_Mul64 n) := by
  intro w0 I0 x17431 x17432 hI r h
  unfold bits_Mul64 at h
  refine enter Tryd.func100 rfl (Nat.le_of_ble_eq_true rfl) ?_
  have hp : Hp ⟨w0, I0, []⟩ I0 [] w0 := Hp.start hI
  apply go
  apply go
  apply go
  apply go
  apply go
  apply go
  refine ⟨by decide, ?_⟩
  apply go
  apply go
  apply go
  apply go
  refine ⟨by decide, ?_⟩
  apply go
  apply go
  apply go
  apply go
  refine ⟨by decide, ?_⟩
  apply go
  apply go
  apply go
  apply go
  refine ⟨by decide, ?_⟩
  apply go
  apply go
  apply go
  apply go
  refine ⟨by decide, ?_⟩
  apply go
  apply go
  apply go
  obtain rfl := Option.some.inj h
  exact ⟨rfl, hp.ch⟩

end Go.Proofs.YtepadjfmcbjkmaaDoor

namespace Go.Proofs.YtepadjfmcbjkmaaDoor
open Go Go.Proofs.YtepadjfmcbjkmaaDoor.Gw Go.RowKit
set_option linter.unusedVariables false
attribute [local irreducible] Ev EvQ EvS EvH
def bits_Mul_S (f : Int → Int → Option (Int × Int)) : Prop := ∀ (w0 : World) (I0 : Nat → Prop) (x17433 : Int) (x17434 : Int) (hI : ∀ g, I0 g → g < w0.heap.size) (r : (Int × Int)), f x17433 x17434 = some r →
    Ret Tryd.prog 86 #[(.int .u64 x17433), (.int .u64 x17434)] w0 fun v w1 => v = (.tuple #[(.int .u64 r.1), (.int .u64 r.2)]) ∧ Ch [] w0 w1
theorem bits_Mul_ok (n : Nat) : bits_Mul_S (bits_Mul n) := by
  intro w0 I0 x17433 x17434 hI r h
  unfold bits_Mul at h
  refine enter Tryd.func86 rfl (Nat.le_of_ble_eq_true rfl) ?_
  have hp : Hp ⟨w0, I0, []⟩ I0 [] w0 := Hp.start hI
  apply go
  apply go
  apply go
  apply go
  apply go
  apply go
  apply go
  obtain ⟨⟨x17435, x17436⟩, q17437, h⟩ := bind_some h
  refine ev_call rfl rfl C100 (((bits_Mul64_ok n) _ _  x17433 x17434 hp.imm _ q17437).mono ?_)
  rintro _ w17438 ⟨rfl, hc⟩
  have hs := hp.stp hc
  replace hp := hp.ext hc
  apply go
  apply go
  apply go
  obtain rfl := Option.some.inj h
  exact ⟨rfl, hp.ch⟩

end Go.Proofs.YtepadjfmcbjkmaaDoor

namespace Go.Proofs.YtepadjfmcbjkmaaDoor
open Go Go.Proofs.YtepadjfmcbjkmaaDoor.Gw Go.RowKit
set_option linter.unusedVariables false
attribute [local irreducible] Ev EvQ EvS EvH
def strings_Repeat_S (f : ByteArray → Int → Option ByteArray) : Prop := ∀ (w0 : World) (I0 : Nat → Prop) (x17439 : ByteArray) (x17440 : Int) (hI : ∀ g, I0 g → g < w0.heap.size) (r : ByteArray), f x17439 x17440 = some r →
    Ret Tryd.prog 74 #[(.string x17439), (.int .i64 x17440)] w0 fun v w1 => v = (.string r) ∧ Ch [] w0 w1

theorem strings_Repeat_ok (n : Nat) : strings_Repeat_S (strings_Repeat n) := by
  intro w0 I0 s c hI r h
  obtain ⟨⟨k, rfl, hk⟩, hs, rfl⟩ := repS_some h
  have hm : s.size * k ≤ 1000000 * 1000000 := Nat.mul_le_mul hs hk
  exact ret_below (sh_strings_Repeat s k w0 (by omega) (by omega))

end Go.Proofs.YtepadjfmcbjkmaaDoor

namespace Go.Proofs.YtepadjfmcbjkmaaDoor
open Go Go.Proofs.YtepadjfmcbjkmaaDoor.Gw Go.RowKit
set_option linter.unusedVariables false
attribute [local irreducible] Ev EvQ EvS EvH vch
def slices_Reversestring_string__S (f : (List ByteArray) → Option (List ByteArray)) : Prop := ∀ (w0 : World) (I0 : Nat → Prop) (x17530 : (List ByteArray)) (v17531 : Value) (e17532 : Ent) (o17533 : OwnS dS 9 w0 I0 v17531 e17532 x17530) (hp : Hp ⟨w0, I0, (blk e17532)⟩ I0 [e17532] w0) (r : (List ByteArray)), f x17530 = some r →
    Ret Tryd.prog 75 #[v17531] w0 fun v w1 => ∃ (I1 : Nat → Prop) (u17534 : Ent), v = (.tuple #[]) ∧ Hp ⟨w0, I0, (blk e17532)⟩ I1 [u17534] w1 ∧ OwnS dS 9 w1 I1 v17531 u17534 r ∧ blk u17534 = blk e17532
theorem slices_Reversestring_string__ok (n : Nat) : slices_Reversestring_string__S (slices_Reversestring_string_ n) := by
  intro w0 I0 x17530 v17531 e17532 o17533 hp r h
  unfold slices_Reversestring_string_ at h
  refine enter Tryd.func75 rfl (Nat.le_of_ble_eq_true rfl) ?_
  have o17533z := o17533
  apply go
  apply go
  refine ev0 (x_lenO rfl rfl Tryd.underlying77 o17533) ?_
  apply go
  refine W.loop h (γ := Ent) (fun s g => [(0, v17531), (2, (.int .i64 (s.2.1))), (3, (.int .i64 (s.2.2)))]) (fun s g w' => Hp ⟨w0, I0, (blk e17532)⟩ I0 [(g)] w' ∧ OwnS dS 9 w' I0 v17531 (g) (s.1)) e17532 (.c rfl (.c rfl (.c rfl .n))) ⟨hp, o17533⟩ ?_
  rintro ⟨x17846, x17850, x17851⟩ e17848 w18169 y18170 ⟨hp, o17849⟩ q18171 q18172
  unfold slices_Reversestring_string__L0 at q18171
  apply go
  apply go
  apply go
  apply go
  refine sel_of (fun hc => ?_) (fun hc => ?_)
  ·
    have q18171 := cond_t q18171 hc
    apply go
    obtain ⟨y18330, q18331, q18171⟩ := bind_some q18171
    refine W.cut (γ := ((List ByteArray) × Ent)) (fun g => [(0, v17531), (2, (.int .i64 x17850)), (3, (.int .i64 x17851))]) (fun g w' => y18330 = (g.1) ∧ Hp ⟨w0, I0, (blk e17532)⟩ I0 [(g.2)] w' ∧ OwnS dS 9 w' I0 v17531 (g.2) (g.1)) ?_ ?_
    ·
      apply go
      have hs := hp.stp (Ch.drew [] w18169)
      have hp := hp.drew
      replace o17849 := o17849.step hs
      refine W.heldG (.q 0 (.q 1 (.q 2 (.q 3 (.q 4 (.q 5 (.q 6 (.q 8 (.q 9 (.q 10 (.l 7 (.l 11 (.q 12 (.l 13 (.q 14 (.l 15 .done .no)) .no)) .no) (.l 11 (.l 7 (.q 12 (.l 13 (.q 14 (.l 15 .done .no)) .no)) .no) .no)))))))))))) (SK (Stp I0 w18169.drew I0) [] []) MX (by kernel_rfl) ⟨Stp.refl _ _, kp_nil⟩ ?_
      have hz := Stp.refl I0 w18169.drew
      refine ⟨SK.same (by kernel_rfl), ?_⟩
      refine ⟨SK.same (by kernel_rfl), ?_⟩
      refine ⟨SK.same (by kernel_rfl), ?_⟩
      refine ⟨SK.same (by kernel_rfl), ?_⟩
      refine ⟨SK.same (by kernel_rfl), ?_⟩
      refine ⟨SK.same (by kernel_rfl), ?_⟩
      refine ⟨SK.same (by kernel_rfl), ?_⟩
      obtain ⟨x18416, q18417, q18331⟩ := bind_some q18331
      refine evh_indexO rfl rfl rfl Tryd.underlying77 T9 o17849 q18417 ?_
      intro g18418 c18419 h18422 d18420 l18421
      refine ⟨SK.same (by kernel_rfl), ?_⟩
      refine ⟨SK.same (by kernel_rfl), ?_⟩
      refine ⟨SK.same (by kernel_rfl), ?_⟩
      obtain ⟨x18424, q18425, q18331⟩ := bind_some q18331
      refine evh_indexO rfl rfl rfl Tryd.underlying77 T9 o17849 q18425 ?_
      intro g18426 c18427 h18430 d18428 l18429
      refine ⟨?_, ?_⟩
      ·
        refine ev (rn_load rfl rfl (run_loadVar1 T9 (hp.cellE (i := 0) rfl h18422 d18420 (j := 0) rfl))) ?_
        refine ⟨SK (Stp I0 w18169.drew I0) [] [], ⟨Stp.refl _ _, kp_nil⟩, fun L x h => ⟨hz.held h.1, h.2⟩, ?_⟩
        have hz := Stp.refl I0 w18169.drew
        refine ⟨?_, trivial⟩
        refine ev (rn_load rfl rfl (run_loadVar1 T9 (hp.cellE (i := 0) rfl h18430 d18428 (j := 0) rfl))) ?_
        refine ⟨SK (Stp I0 w18169.drew I0) [] [], ⟨Stp.refl _ _, kp_nil⟩, fun L x h => ⟨hz.held h.1, h.2⟩, ?_⟩
        have hz := Stp.refl I0 w18169.drew
        refine ⟨SK.same (by kernel_rfl), ?_⟩
        obtain ⟨x18432, q18433, q18331⟩ := bind_some q18331
        refine evh_indexO rfl rfl rfl Tryd.underlying77 T9 o17849 q18433 ?_
        intro g18434 c18435 h18438 d18436 l18437
        refine ⟨?_, trivial⟩
        refine ev_storeE hp (i := 0) rfl h18438 rfl rfl rfl T9 o17849 q18433 (x0 := x18416) rfl ?_
        intro e18441 w18440 hp hs o18442
        replace hz := hz.trans hs
        refine ⟨SK (Stp I0 w18440 I0) [] [], ⟨Stp.refl _ _, kp_nil⟩, fun L x h => ⟨hz.held h.1, h.2⟩, ?_⟩
        have hz := Stp.refl I0 w18440
        refine ⟨SK.same (by kernel_rfl), ?_⟩
        obtain ⟨x18445, q18446, q18331⟩ := bind_some q18331
        refine evh_indexO rfl rfl rfl Tryd.underlying77 T9 o18442 q18446 ?_
        intro g18447 c18448 h18451 d18449 l18450
        refine ⟨?_, trivial⟩
        refine ev_storeE hp (i := 0) rfl h18451 rfl rfl rfl T9 o18442 q18446 (x0 := x18424) rfl ?_
        intro e18454 w18453 hp hs o18455
        replace hz := hz.trans hs
        refine ⟨SK (Stp I0 w18453 I0) [] [], ⟨Stp.refl _ _, kp_nil⟩, fun L x h => ⟨hz.held h.1, h.2⟩, ?_⟩
        have hz := Stp.refl I0 w18453
        obtain rfl := Option.some.inj q18331
        exact ⟨((upd (upd x17846 x17850 x18416) x17851 x18424), e18454), (.c rfl (.c rfl (.c rfl .n))), rfl, hp, o18455⟩
      refine ⟨?_, trivial⟩
      refine ev (rn_load rfl rfl (run_loadVar1 T9 (hp.cellE (i := 0) rfl h18430 d18428 (j := 0) rfl))) ?_
      refine ⟨SK (Stp I0 w18169.drew I0) [] [], ⟨Stp.refl _ _, kp_nil⟩, fun L x h => ⟨hz.held h.1, h.2⟩, ?_⟩
      have hz := Stp.refl I0 w18169.drew
      refine ⟨?_, trivial⟩
      refine ev (rn_load rfl rfl (run_loadVar1 T9 (hp.cellE (i := 0) rfl h18422 d18420 (j := 0) rfl))) ?_
      refine ⟨SK (Stp I0 w18169.drew I0) [] [], ⟨Stp.refl _ _, kp_nil⟩, fun L x h => ⟨hz.held h.1, h.2⟩, ?_⟩
      have hz := Stp.refl I0 w18169.drew
      refine ⟨SK.same (by kernel_rfl), ?_⟩
      obtain ⟨x18458, q18459, q18331⟩ := bind_some q18331
      refine evh_indexO rfl rfl rfl Tryd.underlying77 T9 o17849 q18459 ?_
      intro g18460 c18461 h18464 d18462 l18463
      refine ⟨?_, trivial⟩
      refine ev_storeE hp (i := 0) rfl h18464 rfl rfl rfl T9 o17849 q18459 (x0 := x18416) rfl ?_
      intro e18467 w18466 hp hs o18468
      replace hz := hz.trans hs
      refine ⟨SK (Stp I0 w18466 I0) [] [], ⟨Stp.refl _ _, kp_nil⟩, fun L x h => ⟨hz.held h.1, h.2⟩, ?_⟩
      have hz := Stp.refl I0 w18466
      refine ⟨SK.same (by kernel_rfl), ?_⟩
      obtain ⟨x18471, q18472, q18331⟩ := bind_some q18331
      refine evh_indexO rfl rfl rfl Tryd.underlying77 T9 o18468 q18472 ?_
      intro g18473 c18474 h18477 d18475 l18476
      refine ⟨?_, trivial⟩
      refine ev_storeE hp (i := 0) rfl h18477 rfl rfl rfl T9 o18468 q18472 (x0 := x18424) rfl ?_
      intro e18480 w18479 hp hs o18481
      replace hz := hz.trans hs
      refine ⟨SK (Stp I0 w18479 I0) [] [], ⟨Stp.refl _ _, kp_nil⟩, fun L x h => ⟨hz.held h.1, h.2⟩, ?_⟩
      have hz := Stp.refl I0 w18479
      obtain rfl := Option.some.inj q18331
      exact ⟨((upd (upd x17846 x17850 x18416) x17851 x18424), e18480), (.c rfl (.c rfl (.c rfl .n))), rfl, hp, o18481⟩
    ·
      rintro ⟨x18325, e18327⟩ w18329 ⟨hy, hp, o18328⟩
      replace hy := hy.symm
      subst hy
      apply go
      exact ⟨_, (Option.some.inj q18171).symm, e18327, (.c rfl (.c rfl (.c rfl .n))), ⟨hp, o18328⟩⟩
  ·
    have q18171 := cond_f q18171 hc
    apply go
    have q18484 := congrArg some (q18172 _ (Option.some.inj q18171).symm)
    obtain rfl := Option.some.inj q18484
    exact ⟨I0, e17848, rfl, hp, o17849, (OwnS.blk o17533z o17849)⟩

end Go.Proofs.YtepadjfmcbjkmaaDoor

namespace Go.Proofs.YtepadjfmcbjkmaaDoor
open Go Go.Proofs.YtepadjfmcbjkmaaDoor.Gw Go.RowKit
set_option linter.unusedVariables false
attribute [local irreducible] Ev EvQ EvS EvH
def strings_Join_S (f : (List ByteArray) → ByteArray → Option ByteArray) : Prop := ∀ (w0 : World) (I0 : Nat → Prop) (x18485 : (List ByteArray)) (v18486 : Value) (r18487 : RepS dS w0 I0 v18486 x18485) (x18488 : ByteArray) (hI : ∀ g, I0 g → g < w0.heap.size) (r : ByteArray), f x18485 x18488 = some r →
    Ret Tryd.prog 76 #[v18486, (.string x18488)] w0 fun v w1 => v = (.string r) ∧ Ch [] w0 w1

theorem strings_Join_ok (n : Nat) : strings_Join_S (strings_Join n) := by
  intro w0 I0 xs v hr sep hI r h
  obtain ⟨hN, hL, rfl⟩ := joinS_some h
  rcases Nat.eq_zero_or_pos xs.length with h0 | h0
  · obtain rfl := List.eq_nil_of_length_eq_zero h0
    obtain ⟨a, c, rfl, _, _⟩ := hr
    exact ret_same (sh_strings_Join_none a c sep w0)
  · obtain ⟨b, o, c, rfl, hc, hb, hcells⟩ := hr.strs h0
    exact ret_below (sh_strings_Join b o c xs sep w0 hcells (hI b hb) hN hc hL)

end Go.Proofs.YtepadjfmcbjkmaaDoor

namespace Go.Proofs.YtepadjfmcbjkmaaDoor
open Go Go.Proofs.YtepadjfmcbjkmaaDoor.Gw Go.RowKit
set_option linter.unusedVariables false
attribute [local irreducible] Ev EvQ EvS EvH
def integer_Text_S (f : Int_2 → Option ByteArray) : Prop := ∀ (w0 : World) (I0 : Nat → Prop) (tb : Tb w0 I0 1 .u64 pow10) (x18489 : Int_2) (v18490 : Value) (r18491 : RepS (dI .u32) w0 I0 v18490 x18489.Mag) (hI : ∀ g, I0 g → g < w0.heap.size) (r : ByteArray), f x18489 = some r →
    Ret Tryd.prog 54 #[(.agg #[(.bool x18489.Neg), v18490])] w0 fun v w1 => v = (.string r) ∧ Ch [] w0 w1
theorem integer_Text_ok (n : Nat) : integer_Text_S (integer_Text n) := by
  intro w0 I0 tb x18489 v18490 r18491 hI r h
  unfold integer_Text at h
  refine enter Tryd.func54 rfl (Nat.le_of_ble_eq_true rfl) ?_
  have hp : Hp ⟨w0, I0, []⟩ I0 [] w0 := Hp.start hI
  apply go
  apply go
  refine ev_boxI hp rfl rfl ?_
  intro p18494 I18495 w18493 hp hs a18496
  replace r18491 := r18491.step hs
  replace tb := tb.step hs
  apply go
  apply go
  refine ev0 (rn_field rfl rfl FO24_1) ?_
  refine ev (rn_load rfl rfl (run_loadVar1 T22 (a18496.2 1 _ rfl))) ?_
  obtain ⟨x18497, q18498, h⟩ := bind_some h
  refine ev_call rfl rfl C60 (((integer_trim_ok n) _ _  x18489.Mag v18490 r18491 hp.imm _ q18498).mono ?_)
  rintro _ w18499 ⟨I18500, v18501, hv, hq, r18502⟩
  replace hv := hv.symm
  subst hv
  have hs := hq.st
  have hp := hp.join0 hq
  replace a18496 := a18496.step hs
  replace r18491 := r18491.step hs
  replace tb := tb.step hs
  obtain ⟨x18503, q18504, h⟩ := bind_some h
  refine ev_call rfl rfl C61 (((slices_Cloneuint32_uint32__ok n) _ _  x18497 v18501 r18502 hp.imm _ q18504).mono ?_)
  rintro _ w18505 ⟨I18506, v18507, hv, hq, r18508⟩
  replace hv := hv.symm
  subst hv
  have hs := hq.st
  have hp := hp.join0 hq
  replace a18496 := a18496.step hs
  replace r18491 := r18491.step hs
  replace tb := tb.step hs
  apply go
  apply go
  apply go
  refine ev0 (rn_len rfl rfl Tryd.underlying22 r18508) ?_
  apply go
  refine sel_of (fun hc => ?_) (fun hc => ?_)
  ·
    have h := cond_t h hc
    apply go
    apply go
    apply go
    obtain rfl := Option.some.inj h
    exact ⟨rfl, hp.ch⟩
  ·
    have h := cond_f h hc
    apply go
    apply go
    apply go
    obtain ⟨y18652, q18653, h⟩ := bind_some h
    refine W.cut (γ := ((List ByteArray) × Value × Ent × (Nat → Prop))) (fun g => [(1, (.pointer (some (p18494)))), (4, (g.2.1))]) (fun g w' => y18652 = (g.1) ∧ Hp ⟨w0, I0, []⟩ (g.2.2.2) [(g.2.2.1)] w' ∧ RepS (dI .u32) w' (g.2.2.2) v18490 x18489.Mag ∧ At w' (g.2.2.2) p18494 [(.bool x18489.Neg), v18490] ∧ OwnS dS 9 w' (g.2.2.2) (g.2.1) (g.2.2.1) (g.1) ∧ Tb w' (g.2.2.2) 1 .u64 pow10) ?_ ?_
    ·
      apply go
      have hp := hp.none_
      have o18748 := OwnS.nil dS 9 w18505 I18506
      refine W.loop q18653 (γ := (Value × Value × Ent × (Nat → Prop))) (fun s g => [(1, (.pointer (some (p18494)))), (3, (g.1)), (4, (g.2.1))]) (fun s g w' => Hp ⟨w0, I0, []⟩ (g.2.2.2) [(g.2.2.1)] w' ∧ RepS (dI .u32) w' (g.2.2.2) v18490 x18489.Mag ∧ At w' (g.2.2.2) p18494 [(.bool x18489.Neg), v18490] ∧ RepS (dI .u32) w' (g.2.2.2) (g.1) (s.1) ∧ OwnS dS 9 w' (g.2.2.2) (g.2.1) (g.2.2.1) (s.2) ∧ Tb w' (g.2.2.2) 1 .u64 pow10) (v18507, (.slice none 0 0), none, I18506) (.c rfl (.c rfl (.c rfl .n))) ⟨hp, r18491, a18496, r18508, o18748, tb⟩ ?_
      rintro ⟨x18693, x18696⟩ ⟨v18694, v18697, e18698, I18700⟩ w18747 y18749 ⟨hp, r18491, a18496, r18695, o18699, tb⟩ q18750 q18751
      unfold integer_Text_L1 at q18750
      apply go
      apply go
      apply go
      refine ev0 (rn_len rfl rfl Tryd.underlying22 r18695) ?_
      apply go
      refine sel_of (fun hc => ?_) (fun hc => ?_)
      ·
        have q18750 := cond_t q18750 hc
        apply go
        apply go
        apply go
        apply go
        apply go
        apply go
        obtain ⟨⟨x18752, x18753⟩, q18754, q18750⟩ := bind_some q18750
        refine ev_call rfl rfl C72 (((integer_short_ok n) _ _  x18693 v18694 r18695 1000000000 hp.imm _ q18754).mono ?_)
        rintro _ w18755 ⟨I18756, v18757, hv, hq, r18758⟩
        replace hv := hv.symm
        subst hv
        have hs := hq.st
        have hp := hp.join0 hq
        replace a18496 := a18496.step hs
        replace r18491 := r18491.step hs
        replace o18699 := o18699.step hs
        replace tb := tb.step hs
        apply go
        apply go
        obtain ⟨x18759, q18760, q18750⟩ := bind_some q18750
        refine ev_call rfl rfl C60 (((integer_trim_ok n) _ _  x18752 v18757 r18758 hp.imm _ q18760).mono ?_)
        rintro _ w18761 ⟨I18762, v18763, hv, hq, r18764⟩
        replace hv := hv.symm
        subst hv
        have hs := hq.st
        have hp := hp.join0 hq
        replace a18496 := a18496.step hs
        replace r18491 := r18491.step hs
        replace o18699 := o18699.step hs
        replace tb := tb.step hs
        apply go
        apply go
        refine ev0 (rn_conv rfl rfl U42 Tryd.underlying68) ?_
        obtain ⟨x18765, q18766, q18750⟩ := bind_some q18750
        refine ev_call rfl rfl C73 (((strconv_FormatUint_ok n) _ _ tb (IntKind.u64.wrap x18753) 10 hp.imm _ q18766).mono ?_)
        rintro _ w18767 ⟨rfl, hc⟩
        have hs := hp.stp hc
        replace hp := hp.ext hc
        replace a18496 := a18496.step hs
        replace r18491 := r18491.step hs
        replace o18699 := o18699.step hs
        replace r18764 := r18764.step hs
        replace tb := tb.step hs
        obtain ⟨y18774, q18775, q18750⟩ := bind_some q18750
        refine W.cut (γ := ByteArray) (fun g => [(1, (.pointer (some (p18494)))), (3, v18763), (4, v18697), (6, (.string (g)))]) (fun g w' => y18774 = (g) ∧ Hp ⟨w0, I0, []⟩ I18762 [e18698] w' ∧ RepS (dI .u32) w' I18762 v18490 x18489.Mag ∧ At w' I18762 p18494 [(.bool x18489.Neg), v18490] ∧ RepS (dI .u32) w' I18762 v18763 x18759 ∧ OwnS dS 9 w' I18762 v18697 e18698 x18696 ∧ Tb w' I18762 1 .u64 pow10) ?_ ?_
        ·
          apply go
          apply go
          refine ev0 (rn_len rfl rfl Tryd.underlying22 r18764) ?_
          apply go
          refine sel_of (fun hc => ?_) (fun hc => ?_)
          ·
            have q18775 := cond_t q18775 hc
            apply go
            refine ev0 (rn_lenS rfl rfl Tryd.underlying9) ?_
            obtain ⟨x18776, q18777, q18775⟩ := bind_some q18775
            refine ev_call rfl rfl C74 (((strings_Repeat_ok n) _ _  (ByteArray.mk #[48]) (IntKind.i64.wrap (9 - (x18765.size : Int))) hp.imm _ q18777).mono ?_)
            rintro _ w18778 ⟨rfl, hc⟩
            have hs := hp.stp hc
            replace hp := hp.ext hc
            replace a18496 := a18496.step hs
            replace r18491 := r18491.step hs
            replace o18699 := o18699.step hs
            replace r18764 := r18764.step hs
            replace tb := tb.step hs
            obtain ⟨q18779, _, q18775⟩ := need_some q18775
            refine ⟨q18779, ?_⟩
            obtain rfl := Option.some.inj q18775
            exact ⟨(x18776 ++ x18765), (.c rfl (.c rfl (.c rfl (.c rfl .n)))), rfl, hp, r18491, a18496, r18764, o18699, tb⟩
          ·
            have q18775 := cond_f q18775 hc
            apply go
            obtain rfl := Option.some.inj q18775
            exact ⟨x18765, (.c rfl (.c rfl (.c rfl (.c rfl .n)))), rfl, hp, r18491, a18496, r18764, o18699, tb⟩
        ·
          rintro x18772 w18773 ⟨hy, hp, r18491, a18496, r18764, o18699, tb⟩
          replace hy := hy.symm
          subst hy
          apply go
          refine ev_litN (d := dS) (xs := [x18772]) (cs := [(.string x18772)]) hp rfl rfl Tryd.underlying77 T9 (by decide) rfl rfl (Elems.cons (d := dS) (xs := _) rfl (Elems.nil _ _ _ _)) ?_
          intro v18780 I18782 w18781 hp hs r18783
          replace a18496 := a18496.step hs
          replace r18491 := r18491.step hs
          replace r18764 := r18764.step hs
          replace o18699 := o18699.step hs
          replace tb := tb.step hs
          obtain ⟨x18784, q18785, q18750⟩ := bind_some q18750
          refine ev_append hp (i := 0) rfl rfl rfl rfl Tryd.underlying77 T9 rfl rfl o18699 r18783 q18785 ?_
          rintro v18786 e18787 w18788 hp hs o18789
          replace a18496 := a18496.step hs
          replace r18491 := r18491.step hs
          replace r18764 := r18764.step hs
          replace tb := tb.step hs
          exact ⟨_, (Option.some.inj q18750).symm, (v18763, v18786, e18787, I18782), (.c rfl (.c rfl (.c rfl .n))), ⟨hp, r18491, a18496, r18764, o18789, tb⟩⟩
      ·
        have q18750 := cond_f q18750 hc
        apply go
        have q18790 := congrArg some (q18751 _ (Option.some.inj q18750).symm)
        obtain rfl := Option.some.inj q18790
        exact ⟨(x18696, v18697, e18698, I18700), (.c rfl (.c rfl .n)), rfl, hp, r18491, a18496, o18699, tb⟩
    ·
      rintro ⟨x18646, v18647, e18648, I18650⟩ w18651 ⟨hy, hp, r18491, a18496, o18649, tb⟩
      replace hy := hy.symm
      subst hy
      obtain ⟨y18807, q18808, h⟩ := bind_some h
      refine W.cut (γ := ((List ByteArray) × Value × Ent × (Nat → Prop))) (fun g => [(4, (g.2.1))]) (fun g w' => y18807 = (g.1) ∧ Hp ⟨w0, I0, []⟩ (g.2.2.2) [(g.2.2.1)] w' ∧ OwnS dS 9 w' (g.2.2.2) (g.2.1) (g.2.2.1) (g.1) ∧ Tb w' (g.2.2.2) 1 .u64 pow10) ?_ ?_
      ·
        apply go
        apply go
        refine ev0 (rn_field rfl rfl FO24_0) ?_
        refine ev (rn_load rfl rfl (run_loadVar1 T4 (a18496.2 0 _ rfl))) ?_
        apply go
        refine sel_of (fun hc => ?_) (fun hc => ?_)
        ·
          have q18808 := cond_t q18808 hc
          apply go
          refine ev_litN (d := dS) (xs := [(ByteArray.mk #[45])]) (cs := [(.string (ByteArray.mk #[45]))]) hp rfl rfl Tryd.underlying77 T9 (by decide) rfl rfl (Elems.cons (d := dS) (xs := _) rfl (Elems.nil _ _ _ _)) ?_
          intro v18809 I18811 w18810 hp hs r18812
          replace o18649 := o18649.step hs
          replace tb := tb.step hs
          obtain ⟨x18813, q18814, q18808⟩ := bind_some q18808
          refine ev_append hp (i := 0) rfl rfl rfl rfl Tryd.underlying77 T9 rfl rfl o18649 r18812 q18814 ?_
          rintro v18815 e18816 w18817 hp hs o18818
          replace tb := tb.step hs
          obtain rfl := Option.some.inj q18808
          exact ⟨(x18813, v18815, e18816, I18811), (.c rfl .n), rfl, hp, o18818, tb⟩
        ·
          have q18808 := cond_f q18808 hc
          apply go
          obtain rfl := Option.some.inj q18808
          exact ⟨(x18646, v18647, e18648, I18650), (.c rfl .n), rfl, hp, o18649, tb⟩
      ·
        rintro ⟨x18801, v18802, e18803, I18805⟩ w18806 ⟨hy, hp, o18804, tb⟩
        replace hy := hy.symm
        subst hy
        apply go
        apply go
        obtain ⟨x18819, q18820, h⟩ := bind_some h
        refine ev_call rfl rfl C75 (((slices_Reversestring_string__ok n) _ _  x18801 v18802 e18803 o18804 (hp.lend (i := 0) rfl) _ q18820).mono ?_)
        rintro _ w18821 ⟨I18822, e18823, hv, hq, o18824, hsame⟩
        replace hv := hv.symm
        subst hv
        have hs := hq.st
        have hp := hp.backO (i := 0) rfl hq hsame
        replace tb := tb.step hs
        apply go
        apply go
        have r18825 := o18824.frz hp (i := 0) rfl
        obtain ⟨hp, hs⟩ := freeze_hp hp (i := 0) rfl
        replace tb := tb.step hs
        have hp := hp.sel [] (by decide)
        obtain ⟨x18826, q18827, h⟩ := bind_some h
        refine ev_call rfl rfl C76 (((strings_Join_ok n) _ _  x18819 v18802 r18825 (ByteArray.mk #[]) hp.imm _ q18827).mono ?_)
        rintro _ w18828 ⟨rfl, hc⟩
        have hs := hp.stp hc
        replace hp := hp.ext hc
        replace tb := tb.step hs
        apply go
        obtain rfl := Option.some.inj h
        exact ⟨rfl, hp.ch⟩

end Go.Proofs.YtepadjfmcbjkmaaDoor

namespace Go.Proofs.YtepadjfmcbjkmaaDoor
open Go Go.Proofs.YtepadjfmcbjkmaaDoor.Gw Go.RowKit
set_option linter.unusedVariables false
attribute [local irreducible] Ev EvQ EvS EvH
def rational_Text_S (f : Rational → Option ByteArray) : Prop := ∀ (w0 : World) (I0 : Nat → Prop) (tb : Tb w0 I0 1 .u64 pow10) (x18829 : Rational) (v18830 : Value) (r18831 : RepS (dI .u32) w0 I0 v18830 x18829.Num.Mag) (v18832 : Value) (r18833 : RepS (dI .u32) w0 I0 v18832 x18829.Den.Mag) (hI : ∀ g, I0 g → g < w0.heap.size) (r : ByteArray), f x18829 = some r →
    Ret Tryd.prog 35 #[(.agg #[(.bool x18829.Num.Neg), v18830, (.bool x18829.Den.Neg), v18832])] w0 fun v w1 => v = (.string r) ∧ Ch [] w0 w1
theorem rational_Text_ok (n : Nat) : rational_Text_S (rational_Text n) := by
  intro w0 I0 tb x18829 v18830 r18831 v18832 r18833 hI r h
  unfold rational_Text at h
  refine enter Tryd.func35 rfl (Nat.le_of_ble_eq_true rfl) ?_
  have hp : Hp ⟨w0, I0, []⟩ I0 [] w0 := Hp.start hI
  apply go
  apply go
  refine ev_box hp rfl rfl ?_
  intro g18834 w18835 hp hs
  replace r18831 := r18831.step hs
  replace r18833 := r18833.step hs
  replace tb := tb.step hs
  apply go
  apply go
  refine ev (rn_load rfl rfl (run_loadVarA T26 rfl (hp.at_ (i := 0) rfl))) ?_
  obtain ⟨x18836, q18837, h⟩ := bind_some h
  refine ev_call rfl rfl C16 (((rational_Norm_ok n) _ _  (Rational.mk (Int_2.mk x18829.Num.Neg x18829.Num.Mag) (Int_2.mk x18829.Den.Neg x18829.Den.Mag)) v18830 r18831 v18832 r18833 hp.imm _ q18837).mono ?_)
  rintro _ w18838 ⟨I18839, v18840, v18842, hv, hq, r18841, r18843⟩
  replace hv := hv.symm
  subst hv
  have hs := hq.st
  have hp := hp.join0 hq
  replace r18831 := r18831.step hs
  replace r18833 := r18833.step hs
  replace tb := tb.step hs
  refine ev_storeA hp (i := 0) (off := 0) (vs := [(.bool x18836.Num.Neg), v18840, (.bool x18836.Den.Neg), v18842]) rfl rfl rfl rfl T26 rfl (Nat.le_of_ble_eq_true rfl) (ones_cons rfl (ones_cons r18841.one (ones_cons rfl (ones_cons r18843.one ones_nil)))) ?_
  intro w18844 hp hs
  replace r18841 := r18841.step hs
  replace r18843 := r18843.step hs
  replace tb := tb.step hs
  apply go
  apply go
  apply go
  refine ev0 (rn_field rfl rfl FO26_1) ?_
  refine ev (rn_load rfl rfl (run_loadVarA T24 rfl (((hp.at_ (i := 0) rfl).drop 2).take 2))) ?_
  obtain ⟨x18845, q18846, h⟩ := bind_some h
  refine ev_call rfl rfl C52 (((rational_one_ok n) _ _  (Int_2.mk x18836.Den.Neg x18836.Den.Mag) v18842 r18843 hp.imm _ q18846).mono ?_)
  rintro _ w18847 ⟨rfl, hc⟩
  have hs := hp.stp hc
  replace hp := hp.ext hc
  replace r18841 := r18841.step hs
  replace r18843 := r18843.step hs
  replace tb := tb.step hs
  apply go
  refine sel_of (fun hc => ?_) (fun hc => ?_)
  ·
    have h := cond_t h hc
    apply go
    apply go
    refine ev0 (rn_field rfl rfl FO26_0) ?_
    refine ev (rn_load rfl rfl (run_loadVarA T24 rfl (((hp.at_ (i := 0) rfl).drop 0).take 2))) ?_
    obtain ⟨x18848, q18849, h⟩ := bind_some h
    refine ev_call rfl rfl C54 (((integer_Text_ok n) _ _ tb (Int_2.mk x18836.Num.Neg x18836.Num.Mag) v18840 r18841 hp.imm _ q18849).mono ?_)
    rintro _ w18850 ⟨rfl, hc⟩
    have hs := hp.stp hc
    replace hp := hp.ext hc
    replace r18841 := r18841.step hs
    replace r18843 := r18843.step hs
    replace tb := tb.step hs
    apply go
    obtain rfl := Option.some.inj h
    exact ⟨rfl, hp.ch⟩
  ·
    have h := cond_f h hc
    apply go
    apply go
    refine W.quiet (fun w' => Ch [] w18847 w') MX (by kernel_rfl) (Ch.drew [] w18847) ?_
    refine evq0 (rn_field rfl rfl FO26_0) ?_
    refine evq (fun w' hw => rn_load rfl rfl (run_loadVarA T24 rfl ((((hp.ext hw).at_ (i := 0) rfl).drop 0).take 2))) ?_
    obtain ⟨x18851, q18852, h⟩ := bind_some h
    refine evq_call rfl rfl C54 (fun w' hw => ((integer_Text_ok n) _ _ (tb.step (hp.stp hw)) (Int_2.mk x18836.Num.Neg x18836.Num.Mag) v18840 (r18841.step (hp.stp hw)) (hp.ext hw).imm _ q18852).mono fun _ _ ⟨e, hc⟩ => ⟨e, hw.trans hc⟩) ?_
    obtain ⟨q18853, _, h⟩ := need_some h
    refine ⟨q18853, ?_⟩
    refine evq0 (rn_field rfl rfl FO26_1) ?_
    refine evq (fun w' hw => rn_load rfl rfl (run_loadVarA T24 rfl ((((hp.ext hw).at_ (i := 0) rfl).drop 2).take 2))) ?_
    obtain ⟨x18854, q18855, h⟩ := bind_some h
    refine evq_call rfl rfl C54 (fun w' hw => ((integer_Text_ok n) _ _ (tb.step (hp.stp hw)) (Int_2.mk x18836.Den.Neg x18836.Den.Mag) v18842 (r18843.step (hp.stp hw)) (hp.ext hw).imm _ q18855).mono fun _ _ ⟨e, hc⟩ => ⟨e, hw.trans hc⟩) ?_
    obtain ⟨q18856, _, h⟩ := need_some h
    refine ⟨q18856, ?_⟩
    intro w18857 hc
    have hs := hp.stp hc
    replace hp := hp.ext hc
    replace r18841 := r18841.step hs
    replace r18843 := r18843.step hs
    replace tb := tb.step hs
    apply go
    obtain rfl := Option.some.inj h
    exact ⟨rfl, hp.ch⟩

end Go.Proofs.YtepadjfmcbjkmaaDoor

namespace Go.Proofs.YtepadjfmcbjkmaaDoor
open Go Go.Proofs.YtepadjfmcbjkmaaDoor.Gw Go.RowKit
set_option linter.unusedVariables false
attribute [local irreducible] Ev EvQ EvS EvH
def law02_awake_S (f : Option Bool) : Prop := ∀ (w0 : World) (I0 : Nat → Prop) (tb : Tb w0 I0 1 .u64 pow10)  (hI : ∀ g, I0 g → g < w0.heap.size) (r : Bool), f  = some r →
    Ret Tryd.prog 8 #[] w0 fun v w1 => v = (.bool r) ∧ Ch [] w0 w1
theorem law02_awake_ok (n : Nat) : law02_awake_S (law02_awake n) := by
  intro w0 I0 tb hI r h
  unfold law02_awake at h
  refine enter Tryd.func8 rfl (Nat.le_of_ble_eq_true rfl) ?_
  have hp : Hp ⟨w0, I0, []⟩ I0 [] w0 := Hp.start hI
  apply go
  apply go
  obtain ⟨y21857, q21858, h⟩ := bind_some h
  refine W.cut (γ := (Bool × (Nat → Prop))) (fun g => [(0, (.bool (g.1)))]) (fun g w' => y21857 = (g.1) ∧ Hp ⟨w0, I0, []⟩ (g.2) [] w' ∧ Tb w' (g.2) 1 .u64 pow10) ?_ ?_
  ·
    apply go
    obtain ⟨x21859, q21860, q21858⟩ := bind_some q21858
    refine ev_call rfl rfl C12 (((rational_Of_ok n) _ _  6 (-4) hp.imm _ q21860).mono ?_)
    rintro _ w21861 ⟨I21862, v21863, v21865, hv, hq, r21864, r21866⟩
    replace hv := hv.symm
    subst hv
    have hs := hq.st
    have hp := hp.join0 hq
    replace tb := tb.step hs
    obtain ⟨x21867, q21868, q21858⟩ := bind_some q21858
    refine ev_call rfl rfl C35 (((rational_Text_ok n) _ _ tb x21859 v21863 r21864 v21865 r21866 hp.imm _ q21868).mono ?_)
    rintro _ w21869 ⟨rfl, hc⟩
    have hs := hp.stp hc
    replace hp := hp.ext hc
    replace tb := tb.step hs
    refine sel_of (fun hc => ?_) (fun hc => ?_)
    ·
      have q21858 := cond_t q21858 hc
      obtain ⟨x21870, q21871, q21858⟩ := bind_some q21858
      refine ev_call rfl rfl C12 (((rational_Of_ok n) _ _  1 2 hp.imm _ q21871).mono ?_)
      rintro _ w21872 ⟨I21873, v21874, v21876, hv, hq, r21875, r21877⟩
      replace hv := hv.symm
      subst hv
      have hs := hq.st
      have hp := hp.join0 hq
      replace tb := tb.step hs
      obtain ⟨x21878, q21879, q21858⟩ := bind_some q21858
      refine ev_call rfl rfl C12 (((rational_Of_ok n) _ _  1 3 hp.imm _ q21879).mono ?_)
      rintro _ w21880 ⟨I21881, v21882, v21884, hv, hq, r21883, r21885⟩
      replace hv := hv.symm
      subst hv
      have hs := hq.st
      have hp := hp.join0 hq
      replace r21875 := r21875.step hs
      replace r21877 := r21877.step hs
      replace tb := tb.step hs
      obtain ⟨x21886, q21887, q21858⟩ := bind_some q21858
      refine ev_call rfl rfl C19 (((rational_Add_ok n) _ _  x21870 v21874 r21875 v21876 r21877 x21878 v21882 r21883 v21884 r21885 hp.imm _ q21887).mono ?_)
      rintro _ w21888 ⟨I21889, v21890, v21892, hv, hq, r21891, r21893⟩
      replace hv := hv.symm
      subst hv
      have hs := hq.st
      have hp := hp.join0 hq
      replace tb := tb.step hs
      obtain ⟨x21894, q21895, q21858⟩ := bind_some q21858
      refine ev_call rfl rfl C35 (((rational_Text_ok n) _ _ tb x21886 v21890 r21891 v21892 r21893 hp.imm _ q21895).mono ?_)
      rintro _ w21896 ⟨rfl, hc⟩
      have hs := hp.stp hc
      replace hp := hp.ext hc
      replace tb := tb.step hs
      obtain rfl := Option.some.inj q21858
      exact ⟨((x21894.toList == (ByteArray.mk #[53, 47, 54]).toList), I21889), (.c rfl .n), rfl, hp, tb⟩
    ·
      have q21858 := cond_f q21858 hc
      obtain rfl := Option.some.inj q21858
      exact ⟨(false, I21862), (.c rfl .n), rfl, hp, tb⟩
  ·
    rintro ⟨x21854, I21855⟩ w21856 ⟨hy, hp, tb⟩
    replace hy := hy.symm
    subst hy
    apply go
    obtain rfl := Option.some.inj h
    exact ⟨rfl, hp.ch⟩

end Go.Proofs.YtepadjfmcbjkmaaDoor

namespace Go.Proofs.YtepadjfmcbjkmaaDoor
open Go Go.Proofs.YtepadjfmcbjkmaaDoor.Gw Go.RowKit
set_option linter.unusedVariables false
attribute [local irreducible] Ev EvQ EvS EvH
def ref02_Few_S (f : (List Rational) → Option Bool) : Prop := ∀ (w0 : World) (I0 : Nat → Prop) (x21897 : (List Rational)) (v21898 : Value) (r21899 : RepS dRational w0 I0 v21898 x21897) (hI : ∀ g, I0 g → g < w0.heap.size) (r : Bool), f x21897 = some r →
    Ret Tryd.prog 36 #[v21898] w0 fun v w1 => v = (.bool r) ∧ Ch [] w0 w1
theorem ref02_Few_ok (n : Nat) : ref02_Few_S (ref02_Few n) := by
  intro w0 I0 x21897 v21898 r21899 hI r h
  unfold ref02_Few at h
  refine enter Tryd.func36 rfl (Nat.le_of_ble_eq_true rfl) ?_
  have hp : Hp ⟨w0, I0, []⟩ I0 [] w0 := Hp.start hI
  apply go
  apply go
  apply go
  apply go
  obtain ⟨y21983, q21984, h⟩ := bind_some h
  refine W.cut (γ := Int) (fun g => [(0, v21898), (3, (.int .i64 (g)))]) (fun g w' => y21983 = (g) ∧ Hp ⟨w0, I0, []⟩ I0 [] w' ∧ RepS dRational w' I0 v21898 x21897) ?_ ?_
  ·
    apply go
    apply go
    apply go
    refine W.loop q21984 (γ := Unit) (fun s _ => [(0, v21898), (3, (.int .i64 (s.1))), (4, (.int .i64 (s.2)))]) (fun s _ w' => Hp ⟨w0, I0, []⟩ I0 [] w' ∧ RepS dRational w' I0 v21898 x21897) () (.c rfl (.c rfl (.c rfl .n))) ⟨hp, r21899⟩ ?_
    rintro ⟨x22009, x22010⟩ ⟨⟩ w22037 y22038 ⟨hp, r21899⟩ q22039 q22040
    unfold ref02_Few_L1 at q22039
    apply go
    obtain ⟨y22042, q22043, q22039⟩ := bind_some q22039
    refine W.cut (γ := Bool) (fun g => [(0, v21898), (3, (.int .i64 x22009)), (4, (.int .i64 x22010)), (12, (.bool (g)))]) (fun g w' => y22042 = (g) ∧ w22037 = w') ?_ ?_
    ·
      apply go
      refine ev0 (rn_len rfl rfl Tryd.underlying55 r21899) ?_
      refine sel_of (fun hc => ?_) (fun hc => ?_)
      ·
        have q22043 := cond_t q22043 hc
        obtain rfl := Option.some.inj q22043
        exact ⟨(decide (x22010 < 50)), (.c rfl (.c rfl (.c rfl (.c rfl .n)))), rfl, rfl⟩
      ·
        have q22043 := cond_f q22043 hc
        obtain rfl := Option.some.inj q22043
        exact ⟨false, (.c rfl (.c rfl (.c rfl (.c rfl .n)))), rfl, rfl⟩
    ·
      rintro x22041 _ ⟨hy, rfl⟩
      replace hy := hy.symm
      subst hy
      apply go
      refine sel_of (fun hc => ?_) (fun hc => ?_)
      ·
        have q22039 := cond_t q22039 hc
        apply go
        apply go
        apply go
        refine W.quiet (fun w' => Ch [] w22037 w') MX (by kernel_rfl) (Ch.drew [] w22037) ?_
        obtain ⟨x22044, q22045, q22039⟩ := bind_some q22039
        refine evq_index rfl rfl rfl Tryd.underlying55 T26 r21899 q22045 ?_
        intro p22046 c22047 d22048 a22049
        obtain ⟨v22050, v22052, rfl, r22051, r22053⟩ := dRational_o d22048
        refine evq0 (rn_field rfl rfl FO26_0) ?_
        refine evq0 (rn_field rfl rfl FO24_1) ?_
        refine evq (fun w' hw => rn_load rfl rfl (run_loadVar1 T22 ((a22049.step (hp.stp hw)).2 1 _ rfl))) ?_
        refine evq0 (rn_len rfl rfl Tryd.underlying22 r22051) ?_
        refine evq0 (rn_min rfl rfl rfl) ?_
        obtain ⟨x22054, q22055, q22039⟩ := bind_some q22039
        refine evq_index rfl rfl rfl Tryd.underlying55 T26 r21899 q22055 ?_
        intro p22056 c22057 d22058 a22059
        obtain ⟨v22060, v22062, rfl, r22061, r22063⟩ := dRational_o d22058
        refine evq0 (rn_field rfl rfl FO26_1) ?_
        refine evq0 (rn_fieldAt rfl rfl FO24_1) ?_
        refine evq (fun w' hw => rn_load rfl rfl (run_loadVar1 T22 ((a22059.step (hp.stp hw)).2 3 _ rfl))) ?_
        refine evq0 (rn_len rfl rfl Tryd.underlying22 r22063) ?_
        refine evq0 (rn_min rfl rfl rfl) ?_
        intro w22064 hc
        have hs := hp.stp hc
        replace hp := hp.ext hc
        replace r21899 := r21899.step hs
        apply go
        exact ⟨_, (Option.some.inj q22039).symm, (), (.c rfl (.c rfl (.c rfl .n))), ⟨hp, r21899⟩⟩
      ·
        have q22039 := cond_f q22039 hc
        apply go
        have q22065 := congrArg some (q22040 _ (Option.some.inj q22039).symm)
        obtain rfl := Option.some.inj q22065
        exact ⟨x22009, (.c rfl (.c rfl .n)), rfl, hp, r21899⟩
  ·
    rintro x21981 w21982 ⟨hy, hp, r21899⟩
    replace hy := hy.symm
    subst hy
    obtain ⟨y22067, q22068, h⟩ := bind_some h
    refine W.cut (γ := Bool) (fun g => [(2, (.bool (g)))]) (fun g w' => y22067 = (g) ∧ w21982 = w') ?_ ?_
    ·
      apply go
      refine ev0 (rn_len rfl rfl Tryd.underlying55 r21899) ?_
      refine sel_of (fun hc => ?_) (fun hc => ?_)
      ·
        have q22068 := cond_t q22068 hc
        obtain rfl := Option.some.inj q22068
        exact ⟨(decide (x21981 ≤ 60)), (.c rfl .n), rfl, rfl⟩
      ·
        have q22068 := cond_f q22068 hc
        obtain rfl := Option.some.inj q22068
        exact ⟨false, (.c rfl .n), rfl, rfl⟩
    ·
      rintro x22066 _ ⟨hy, rfl⟩
      replace hy := hy.symm
      subst hy
      apply go
      obtain rfl := Option.some.inj h
      exact ⟨rfl, hp.ch⟩

end Go.Proofs.YtepadjfmcbjkmaaDoor

namespace Go.Proofs.YtepadjfmcbjkmaaDoor
open Go Go.Proofs.YtepadjfmcbjkmaaDoor.Gw Go.RowKit
set_option linter.unusedVariables false
attribute [local irreducible] Ev EvQ EvS EvH
def law02_few_S (f : (List Rational) → Option Bool) : Prop := ∀ (w0 : World) (I0 : Nat → Prop) (x22069 : (List Rational)) (v22070 : Value) (r22071 : RepS dRational w0 I0 v22070 x22069) (hI : ∀ g, I0 g → g < w0.heap.size) (r : Bool), f x22069 = some r →
    Ret Tryd.prog 9 #[v22070] w0 fun v w1 => v = (.bool r) ∧ Ch [] w0 w1
theorem law02_few_ok (n : Nat) : law02_few_S (law02_few n) := by
  intro w0 I0 x22069 v22070 r22071 hI r h
  unfold law02_few at h
  refine enter Tryd.func9 rfl (Nat.le_of_ble_eq_true rfl) ?_
  have hp : Hp ⟨w0, I0, []⟩ I0 [] w0 := Hp.start hI
  apply go
  apply go
  apply go
  apply go
  obtain ⟨x22072, q22073, h⟩ := bind_some h
  refine ev_call rfl rfl C36 (((ref02_Few_ok n) _ _  x22069 v22070 r22071 hp.imm _ q22073).mono ?_)
  rintro _ w22074 ⟨rfl, hc⟩
  have hs := hp.stp hc
  replace hp := hp.ext hc
  apply go
  obtain rfl := Option.some.inj h
  exact ⟨rfl, hp.ch⟩

end Go.Proofs.YtepadjfmcbjkmaaDoor

namespace Go.Proofs.YtepadjfmcbjkmaaDoor
open Go Go.Proofs.YtepadjfmcbjkmaaDoor.Gw Go.RowKit
set_option linter.unusedVariables false
attribute [local irreducible] Ev EvQ EvS EvH
def base_Int_S (f : Int_2 → Int_2 → Option Bool) : Prop := ∀ (w0 : World) (I0 : Nat → Prop) (x26691 : Int_2) (v26692 : Value) (r26693 : RepS (dI .u32) w0 I0 v26692 x26691.Mag) (x26694 : Int_2) (v26695 : Value) (r26696 : RepS (dI .u32) w0 I0 v26695 x26694.Mag) (hI : ∀ g, I0 g → g < w0.heap.size) (r : Bool), f x26691 x26694 = some r →
    Ret Tryd.prog 37 #[(.agg #[(.bool x26691.Neg), v26692]), (.agg #[(.bool x26694.Neg), v26695])] w0 fun v w1 => v = (.bool r) ∧ Ch [] w0 w1
theorem base_Int_ok (n : Nat) : base_Int_S (base_Int n) := by
  intro w0 I0 x26691 v26692 r26693 x26694 v26695 r26696 hI r h
  unfold base_Int at h
  refine enter Tryd.func37 rfl (Nat.le_of_ble_eq_true rfl) ?_
  have hp : Hp ⟨w0, I0, []⟩ I0 [] w0 := Hp.start hI
  apply go
  apply go
  refine ev_boxI hp rfl rfl ?_
  intro p26699 I26700 w26698 hp hs a26701
  replace r26696 := r26696.step hs
  replace r26693 := r26693.step hs
  refine ev_boxI hp rfl rfl ?_
  intro p26704 I26705 w26703 hp hs a26706
  replace a26701 := a26701.step hs
  replace r26693 := r26693.step hs
  replace r26696 := r26696.step hs
  apply go
  obtain ⟨y26708, q26709, h⟩ := bind_some h
  refine W.cut (γ := Bool) (fun g => [(2, (.pointer (some (p26699)))), (3, (.pointer (some (p26704)))), (19, (.bool (g)))]) (fun g w' => y26708 = (g) ∧ w26703 = w') ?_ ?_
  ·
    apply go
    refine ev0 (rn_field rfl rfl FO24_0) ?_
    refine ev (rn_load rfl rfl (run_loadVar1 T4 (a26701.2 0 _ rfl))) ?_
    refine ev0 (rn_field rfl rfl FO24_0) ?_
    refine ev (rn_load rfl rfl (run_loadVar1 T4 (a26706.2 0 _ rfl))) ?_
    refine ev0 (rn_neB rfl rfl rfl Tryd.underlying4) ?_
    refine sel_of (fun hc => ?_) (fun hc => ?_)
    ·
      have q26709 := cond_t q26709 hc
      obtain rfl := Option.some.inj q26709
      exact ⟨true, (.c rfl (.c rfl (.c rfl .n))), rfl, rfl⟩
    ·
      have q26709 := cond_f q26709 hc
      refine ev0 (rn_field rfl rfl FO24_1) ?_
      refine ev (rn_load rfl rfl (run_loadVar1 T22 (a26701.2 1 _ rfl))) ?_
      refine ev0 (rn_len rfl rfl Tryd.underlying22 r26693) ?_
      refine ev0 (rn_field rfl rfl FO24_1) ?_
      refine ev (rn_load rfl rfl (run_loadVar1 T22 (a26706.2 1 _ rfl))) ?_
      refine ev0 (rn_len rfl rfl Tryd.underlying22 r26696) ?_
      obtain rfl := Option.some.inj q26709
      exact ⟨((x26691.Mag.length : Int) != (x26694.Mag.length : Int)), (.c rfl (.c rfl (.c rfl .n))), rfl, rfl⟩
  ·
    rintro x26707 _ ⟨hy, rfl⟩
    replace hy := hy.symm
    subst hy
    apply go
    refine sel_of (fun hc => ?_) (fun hc => ?_)
    ·
      have h := cond_t h hc
      apply go
      apply go
      apply go
      obtain rfl := Option.some.inj h
      exact ⟨rfl, hp.ch⟩
    ·
      have h := cond_f h hc
      apply go
      obtain ⟨y26758, q26759, h⟩ := bind_some h
      refine W.cut (γ := Unit) (fun _ => []) (fun _ w' => y26758 = .go () ∧ Hp ⟨w0, I0, []⟩ I26705 [] w') ?_ ?_
      ·
        apply go
        apply go
        apply go
        refine W.loop q26759 (γ := Unit) (fun s _ => [(2, (.pointer (some (p26699)))), (3, (.pointer (some (p26704)))), (5, (.int .i64 (s)))]) (fun s _ w' => Hp ⟨w0, I0, []⟩ I26705 [] w' ∧ RepS (dI .u32) w' I26705 v26692 x26691.Mag ∧ At w' I26705 p26699 [(.bool x26691.Neg), v26692] ∧ RepS (dI .u32) w' I26705 v26695 x26694.Mag ∧ At w' I26705 p26704 [(.bool x26694.Neg), v26695]) () (.c rfl (.c rfl (.c rfl .n))) ⟨hp, r26693, a26701, r26696, a26706⟩ ?_
        rintro x26773 ⟨⟩ w26788 y26789 ⟨hp, r26693, a26701, r26696, a26706⟩ q26790 q26791
        unfold base_Int_L1 at q26790
        apply go
        apply go
        apply go
        refine ev0 (rn_field rfl rfl FO24_1) ?_
        refine ev (rn_load rfl rfl (run_loadVar1 T22 (a26701.2 1 _ rfl))) ?_
        refine ev0 (rn_len rfl rfl Tryd.underlying22 r26693) ?_
        apply go
        refine sel_of (fun hc => ?_) (fun hc => ?_)
        ·
          have q26790 := cond_t q26790 hc
          apply go
          apply go
          apply go
          apply go
          refine W.quiet (fun w' => Ch [] w26788 w') MX (by kernel_rfl) (Ch.drew [] w26788) ?_
          refine evq0 (rn_field rfl rfl FO24_1) ?_
          refine evq (fun w' hw => rn_load rfl rfl (run_loadVar1 T22 ((a26701.step (hp.stp hw)).2 1 _ rfl))) ?_
          obtain ⟨x26792, q26793, q26790⟩ := bind_some q26790
          refine evq_index rfl rfl rfl Tryd.underlying22 T42 r26693 q26793 ?_
          intro p26794 c26795 d26796 a26797
          obtain rfl : c26795 = [(.int .u32 x26792)] := d26796
          refine evq (fun w' hw => rn_load rfl rfl (run_loadVar1 T42 ((a26797.step (hp.stp hw)).2 0 _ rfl))) ?_
          refine evq0 (rn_field rfl rfl FO24_1) ?_
          refine evq (fun w' hw => rn_load rfl rfl (run_loadVar1 T22 ((a26706.step (hp.stp hw)).2 1 _ rfl))) ?_
          obtain ⟨x26798, q26799, q26790⟩ := bind_some q26790
          refine evq_index rfl rfl rfl Tryd.underlying22 T42 r26696 q26799 ?_
          intro p26800 c26801 d26802 a26803
          obtain rfl : c26801 = [(.int .u32 x26798)] := d26802
          refine evq (fun w' hw => rn_load rfl rfl (run_loadVar1 T42 ((a26803.step (hp.stp hw)).2 0 _ rfl))) ?_
          intro w26804 hc
          have hs := hp.stp hc
          replace hp := hp.ext hc
          replace a26701 := a26701.step hs
          replace r26693 := r26693.step hs
          replace a26706 := a26706.step hs
          replace r26696 := r26696.step hs
          apply go
          refine sel_of (fun hc => ?_) (fun hc => ?_)
          ·
            have q26790 := cond_t q26790 hc
            apply go
            apply go
            apply go
            have q26805 := congrArg some (q26791 _ (Option.some.inj q26790).symm)
            obtain rfl := Option.some.inj q26805
            obtain rfl := Option.some.inj h
            exact ⟨rfl, hp.ch⟩
          ·
            have q26790 := cond_f q26790 hc
            apply go
            apply go
            exact ⟨_, (Option.some.inj q26790).symm, (), (.c rfl (.c rfl (.c rfl .n))), ⟨hp, r26693, a26701, r26696, a26706⟩⟩
        ·
          have q26790 := cond_f q26790 hc
          apply go
          have q26806 := congrArg some (q26791 _ (Option.some.inj q26790).symm)
          obtain rfl := Option.some.inj q26806
          exact ⟨(), .n, rfl, hp⟩
      ·
        rintro ⟨⟩ w26757 ⟨hy, hp⟩
        replace hy := hy.symm
        subst hy
        apply go
        apply go
        apply go
        obtain rfl := Option.some.inj h
        exact ⟨rfl, hp.ch⟩

end Go.Proofs.YtepadjfmcbjkmaaDoor

namespace Go.Proofs.YtepadjfmcbjkmaaDoor
open Go Go.Proofs.YtepadjfmcbjkmaaDoor.Gw Go.RowKit
set_option linter.unusedVariables false
attribute [local irreducible] Ev EvQ EvS EvH
def base_Rational_S (f : Rational → Rational → Option Bool) : Prop := ∀ (w0 : World) (I0 : Nat → Prop) (x26807 : Rational) (v26808 : Value) (r26809 : RepS (dI .u32) w0 I0 v26808 x26807.Num.Mag) (v26810 : Value) (r26811 : RepS (dI .u32) w0 I0 v26810 x26807.Den.Mag) (x26812 : Rational) (v26813 : Value) (r26814 : RepS (dI .u32) w0 I0 v26813 x26812.Num.Mag) (v26815 : Value) (r26816 : RepS (dI .u32) w0 I0 v26815 x26812.Den.Mag) (hI : ∀ g, I0 g → g < w0.heap.size) (r : Bool), f x26807 x26812 = some r →
    Ret Tryd.prog 11 #[(.agg #[(.bool x26807.Num.Neg), v26808, (.bool x26807.Den.Neg), v26810]), (.agg #[(.bool x26812.Num.Neg), v26813, (.bool x26812.Den.Neg), v26815])] w0 fun v w1 => v = (.bool r) ∧ Ch [] w0 w1
theorem base_Rational_ok (n : Nat) : base_Rational_S (base_Rational n) := by
  intro w0 I0 x26807 v26808 r26809 v26810 r26811 x26812 v26813 r26814 v26815 r26816 hI r h
  unfold base_Rational at h
  refine enter Tryd.func11 rfl (Nat.le_of_ble_eq_true rfl) ?_
  have hp : Hp ⟨w0, I0, []⟩ I0 [] w0 := Hp.start hI
  apply go
  apply go
  refine ev_boxI hp rfl rfl ?_
  intro p26819 I26820 w26818 hp hs a26821
  replace r26814 := r26814.step hs
  replace r26816 := r26816.step hs
  replace r26809 := r26809.step hs
  replace r26811 := r26811.step hs
  refine ev_boxI hp rfl rfl ?_
  intro p26824 I26825 w26823 hp hs a26826
  replace a26821 := a26821.step hs
  replace r26809 := r26809.step hs
  replace r26811 := r26811.step hs
  replace r26814 := r26814.step hs
  replace r26816 := r26816.step hs
  obtain ⟨y26835, q26836, h⟩ := bind_some h
  refine W.cut (γ := Bool) (fun g => [(4, (.bool (g)))]) (fun g w' => y26835 = (g) ∧ Hp ⟨w0, I0, []⟩ I26825 [] w') ?_ ?_
  ·
    apply go
    refine ev0 (rn_field rfl rfl FO26_0) ?_
    refine ev (rn_load rfl rfl (run_loadVarA T24 rfl ((a26821.drop 0).take 2))) ?_
    refine ev0 (rn_field rfl rfl FO26_0) ?_
    refine ev (rn_load rfl rfl (run_loadVarA T24 rfl ((a26826.drop 0).take 2))) ?_
    obtain ⟨x26837, q26838, q26836⟩ := bind_some q26836
    refine ev_call rfl rfl C37 (((base_Int_ok n) _ _  (Int_2.mk x26807.Num.Neg x26807.Num.Mag) v26808 r26809 (Int_2.mk x26812.Num.Neg x26812.Num.Mag) v26813 r26814 hp.imm _ q26838).mono ?_)
    rintro _ w26839 ⟨rfl, hc⟩
    have hs := hp.stp hc
    replace hp := hp.ext hc
    replace a26821 := a26821.step hs
    replace r26809 := r26809.step hs
    replace r26811 := r26811.step hs
    replace a26826 := a26826.step hs
    replace r26814 := r26814.step hs
    replace r26816 := r26816.step hs
    refine sel_of (fun hc => ?_) (fun hc => ?_)
    ·
      have q26836 := cond_t q26836 hc
      refine ev0 (rn_field rfl rfl FO26_1) ?_
      refine ev (rn_load rfl rfl (run_loadVarA T24 rfl ((a26821.drop 2).take 2))) ?_
      refine ev0 (rn_field rfl rfl FO26_1) ?_
      refine ev (rn_load rfl rfl (run_loadVarA T24 rfl ((a26826.drop 2).take 2))) ?_
      obtain ⟨x26840, q26841, q26836⟩ := bind_some q26836
      refine ev_call rfl rfl C37 (((base_Int_ok n) _ _  (Int_2.mk x26807.Den.Neg x26807.Den.Mag) v26810 r26811 (Int_2.mk x26812.Den.Neg x26812.Den.Mag) v26815 r26816 hp.imm _ q26841).mono ?_)
      rintro _ w26842 ⟨rfl, hc⟩
      have hs := hp.stp hc
      replace hp := hp.ext hc
      obtain rfl := Option.some.inj q26836
      exact ⟨x26840, (.c rfl .n), rfl, hp⟩
    ·
      have q26836 := cond_f q26836 hc
      obtain rfl := Option.some.inj q26836
      exact ⟨false, (.c rfl .n), rfl, hp⟩
  ·
    rintro x26833 w26834 ⟨hy, hp⟩
    replace hy := hy.symm
    subst hy
    apply go
    obtain rfl := Option.some.inj h
    exact ⟨rfl, hp.ch⟩

end Go.Proofs.YtepadjfmcbjkmaaDoor

namespace Go.Proofs.YtepadjfmcbjkmaaDoor
open Go Go.Proofs.YtepadjfmcbjkmaaDoor.Gw Go.RowKit
set_option linter.unusedVariables false
attribute [local irreducible] Ev EvQ EvS EvH
def rational_Sign_S (f : Rational → Option Int) : Prop := ∀ (w0 : World) (I0 : Nat → Prop) (x26866 : Rational) (v26867 : Value) (r26868 : RepS (dI .u32) w0 I0 v26867 x26866.Num.Mag) (v26869 : Value) (r26870 : RepS (dI .u32) w0 I0 v26869 x26866.Den.Mag) (hI : ∀ g, I0 g → g < w0.heap.size) (r : Int), f x26866 = some r →
    Ret Tryd.prog 17 #[(.agg #[(.bool x26866.Num.Neg), v26867, (.bool x26866.Den.Neg), v26869])] w0 fun v w1 => v = (.int .i64 r) ∧ Ch [] w0 w1
theorem rational_Sign_ok (n : Nat) : rational_Sign_S (rational_Sign n) := by
  intro w0 I0 x26866 v26867 r26868 v26869 r26870 hI r h
  unfold rational_Sign at h
  refine enter Tryd.func17 rfl (Nat.le_of_ble_eq_true rfl) ?_
  have hp : Hp ⟨w0, I0, []⟩ I0 [] w0 := Hp.start hI
  apply go
  apply go
  refine ev_boxI hp rfl rfl ?_
  intro p26873 I26874 w26872 hp hs a26875
  replace r26868 := r26868.step hs
  replace r26870 := r26870.step hs
  apply go
  refine W.quiet (fun w' => Ch [] w26872 w') MX (by kernel_rfl) (Ch.drew [] w26872) ?_
  refine evq0 (rn_field rfl rfl FO26_0) ?_
  refine evq (fun w' hw => rn_load rfl rfl (run_loadVarA T24 rfl (((a26875.step (hp.stp hw)).drop 0).take 2))) ?_
  obtain ⟨x26876, q26877, h⟩ := bind_some h
  refine evq_call rfl rfl C41 (fun w' hw => ((integer_Sign_ok n) _ _  (Int_2.mk x26866.Num.Neg x26866.Num.Mag) v26867 (r26868.step (hp.stp hw)) (hp.ext hw).imm _ q26877).mono fun _ _ ⟨e, hc⟩ => ⟨e, hw.trans hc⟩) ?_
  refine evq0 (rn_field rfl rfl FO26_1) ?_
  refine evq (fun w' hw => rn_load rfl rfl (run_loadVarA T24 rfl (((a26875.step (hp.stp hw)).drop 2).take 2))) ?_
  obtain ⟨x26878, q26879, h⟩ := bind_some h
  refine evq_call rfl rfl C41 (fun w' hw => ((integer_Sign_ok n) _ _  (Int_2.mk x26866.Den.Neg x26866.Den.Mag) v26869 (r26870.step (hp.stp hw)) (hp.ext hw).imm _ q26879).mono fun _ _ ⟨e, hc⟩ => ⟨e, hw.trans hc⟩) ?_
  intro w26880 hc
  have hs := hp.stp hc
  replace hp := hp.ext hc
  apply go
  obtain rfl := Option.some.inj h
  exact ⟨rfl, hp.ch⟩

end Go.Proofs.YtepadjfmcbjkmaaDoor

namespace Go.Proofs.YtepadjfmcbjkmaaDoor
open Go Go.Proofs.YtepadjfmcbjkmaaDoor.Gw Go.RowKit
set_option linter.unusedVariables false
attribute [local irreducible] Ev EvQ EvS EvH
def rational_Neg_S (f : Rational → Option Rational) : Prop := ∀ (w0 : World) (I0 : Nat → Prop) (x29620 : Rational) (v29621 : Value) (r29622 : RepS (dI .u32) w0 I0 v29621 x29620.Num.Mag) (v29623 : Value) (r29624 : RepS (dI .u32) w0 I0 v29623 x29620.Den.Mag) (hI : ∀ g, I0 g → g < w0.heap.size) (r : Rational), f x29620 = some r →
    Ret Tryd.prog 25 #[(.agg #[(.bool x29620.Num.Neg), v29621, (.bool x29620.Den.Neg), v29623])] w0 fun v w1 => ∃ (I1 : Nat → Prop) (u29625 : Value) (u29626 : Value), v = (.agg #[(.bool r.Num.Neg), u29625, (.bool r.Den.Neg), u29626]) ∧ Hp ⟨w0, I0, []⟩ I1 [] w1 ∧ RepS (dI .u32) w1 I1 u29625 r.Num.Mag ∧ RepS (dI .u32) w1 I1 u29626 r.Den.Mag
theorem rational_Neg_ok (n : Nat) : rational_Neg_S (rational_Neg n) := by
  intro w0 I0 x29620 v29621 r29622 v29623 r29624 hI r h
  unfold rational_Neg at h
  refine enter Tryd.func25 rfl (Nat.le_of_ble_eq_true rfl) ?_
  have hp : Hp ⟨w0, I0, []⟩ I0 [] w0 := Hp.start hI
  apply go
  apply go
  refine ev_boxI hp rfl rfl ?_
  intro p29629 I29630 w29628 hp hs a29631
  replace r29622 := r29622.step hs
  replace r29624 := r29624.step hs
  refine ev_alloc hp rfl T26 ?_
  intro g29632 w29633 hp hs
  replace a29631 := a29631.step hs
  replace r29622 := r29622.step hs
  replace r29624 := r29624.step hs
  apply go
  have hs := hp.stp (Ch.drew [] w29633)
  have hp := hp.drew
  replace a29631 := a29631.step hs
  replace r29622 := r29622.step hs
  replace r29624 := r29624.step hs
  refine W.held [(0, true), (1, true), (3, true), (4, true), (2, false), (5, false), (6, false)] (Stp I29630 w29633.drew I29630) MX (by kernel_rfl) (Stp.refl _ _) ?_
  have hz := Stp.refl I29630 w29633.drew
  refine evh0 (rn_field rfl rfl FO26_0) ?_
  refine evh (fun w' hw => rn_load rfl rfl (run_loadVarA T24 rfl (((a29631.step hw).drop 0).take 2))) ?_
  refine evh0 (rn_field rfl rfl FO26_1) ?_
  refine evh (fun w' hw => rn_load rfl rfl (run_loadVarA T24 rfl (((a29631.step hw).drop 2).take 2))) ?_
  obtain ⟨x29649, q29650, h⟩ := bind_some h
  refine ev_call rfl rfl C42 (((integer_Neg_ok n) _ _  (Int_2.mk x29620.Num.Neg x29620.Num.Mag) v29621 r29622 hp.imm _ q29650).mono ?_)
  rintro _ w29651 ⟨I29652, v29653, hv, hq, r29654⟩
  replace hv := hv.symm
  subst hv
  have hs := hq.st
  have hp := hp.join0 hq
  replace hz := hz.trans hs
  replace r29624 := r29624.step hs
  refine ⟨Stp I29652 w29651 I29652, Stp.refl _ _, fun x hx => hz.held hx, ?_⟩
  have hz := Stp.refl I29652 w29651
  obtain ⟨x29655, q29656, h⟩ := bind_some h
  refine ev_call rfl rfl C14 (((rational_New_ok n) _ _  x29649 v29653 r29654 (Int_2.mk x29620.Den.Neg x29620.Den.Mag) v29623 r29624 hp.imm _ q29656).mono ?_)
  rintro _ w29657 ⟨I29658, v29659, v29661, hv, hq, r29660, r29662⟩
  replace hv := hv.symm
  subst hv
  have hs := hq.st
  have hp := hp.join0 hq
  replace hz := hz.trans hs
  refine ⟨Stp I29658 w29657 I29658, Stp.refl _ _, fun x hx => hz.held hx, ?_⟩
  have hz := Stp.refl I29658 w29657
  refine ev_storeA hp (i := 0) (off := 0) (vs := [(.bool x29655.Num.Neg), v29659, (.bool x29655.Den.Neg), v29661]) rfl rfl rfl rfl T26 rfl (Nat.le_of_ble_eq_true rfl) (ones_cons rfl (ones_cons r29660.one (ones_cons rfl (ones_cons r29662.one ones_nil)))) ?_
  intro w29663 hp hs
  replace hz := hz.trans hs
  replace r29660 := r29660.step hs
  replace r29662 := r29662.step hs
  refine ⟨Stp I29658 w29663 I29658, Stp.refl _ _, fun x hx => hz.held hx, ?_⟩
  have hz := Stp.refl I29658 w29663
  apply go
  obtain rfl := Option.some.inj h
  refine ⟨_, run_loadVarA T26 rfl (hp.at_ (i := 0) rfl), ?_⟩
  have hp := hp.sel [] (by decide)
  exact ⟨I29658, v29659, v29661, rfl, hp, r29660, r29662⟩

end Go.Proofs.YtepadjfmcbjkmaaDoor

namespace Go.Proofs.YtepadjfmcbjkmaaDoor
open Go Go.Proofs.YtepadjfmcbjkmaaDoor.Gw Go.RowKit
set_option linter.unusedVariables false
attribute [local irreducible] Ev EvQ EvS EvH
def rational_Sub_S (f : Rational → Rational → Option Rational) : Prop := ∀ (w0 : World) (I0 : Nat → Prop) (x29664 : Rational) (v29665 : Value) (r29666 : RepS (dI .u32) w0 I0 v29665 x29664.Num.Mag) (v29667 : Value) (r29668 : RepS (dI .u32) w0 I0 v29667 x29664.Den.Mag) (x29669 : Rational) (v29670 : Value) (r29671 : RepS (dI .u32) w0 I0 v29670 x29669.Num.Mag) (v29672 : Value) (r29673 : RepS (dI .u32) w0 I0 v29672 x29669.Den.Mag) (hI : ∀ g, I0 g → g < w0.heap.size) (r : Rational), f x29664 x29669 = some r →
    Ret Tryd.prog 21 #[(.agg #[(.bool x29664.Num.Neg), v29665, (.bool x29664.Den.Neg), v29667]), (.agg #[(.bool x29669.Num.Neg), v29670, (.bool x29669.Den.Neg), v29672])] w0 fun v w1 => ∃ (I1 : Nat → Prop) (u29674 : Value) (u29675 : Value), v = (.agg #[(.bool r.Num.Neg), u29674, (.bool r.Den.Neg), u29675]) ∧ Hp ⟨w0, I0, []⟩ I1 [] w1 ∧ RepS (dI .u32) w1 I1 u29674 r.Num.Mag ∧ RepS (dI .u32) w1 I1 u29675 r.Den.Mag
theorem rational_Sub_ok (n : Nat) : rational_Sub_S (rational_Sub n) := by
  intro w0 I0 x29664 v29665 r29666 v29667 r29668 x29669 v29670 r29671 v29672 r29673 hI r h
  unfold rational_Sub at h
  refine enter Tryd.func21 rfl (Nat.le_of_ble_eq_true rfl) ?_
  have hp : Hp ⟨w0, I0, []⟩ I0 [] w0 := Hp.start hI
  apply go
  apply go
  refine ev_boxI hp rfl rfl ?_
  intro p29678 I29679 w29677 hp hs a29680
  replace r29671 := r29671.step hs
  replace r29673 := r29673.step hs
  replace r29666 := r29666.step hs
  replace r29668 := r29668.step hs
  refine ev_boxI hp rfl rfl ?_
  intro p29683 I29684 w29682 hp hs a29685
  replace a29680 := a29680.step hs
  replace r29666 := r29666.step hs
  replace r29668 := r29668.step hs
  replace r29671 := r29671.step hs
  replace r29673 := r29673.step hs
  refine ev_alloc hp rfl T26 ?_
  intro g29686 w29687 hp hs
  replace a29680 := a29680.step hs
  replace r29666 := r29666.step hs
  replace r29668 := r29668.step hs
  replace a29685 := a29685.step hs
  replace r29671 := r29671.step hs
  replace r29673 := r29673.step hs
  apply go
  have hs := hp.stp (Ch.drew [] w29687)
  have hp := hp.drew
  replace a29680 := a29680.step hs
  replace r29666 := r29666.step hs
  replace r29668 := r29668.step hs
  replace a29685 := a29685.step hs
  replace r29671 := r29671.step hs
  replace r29673 := r29673.step hs
  refine W.held [(0, true), (1, true), (2, false), (3, false), (4, false)] (Stp I29684 w29687.drew I29684) MX (by kernel_rfl) (Stp.refl _ _) ?_
  have hz := Stp.refl I29684 w29687.drew
  refine evh (fun w' hw => rn_load rfl rfl (run_loadVarA T26 rfl (a29680.step hw))) ?_
  refine evh (fun w' hw => rn_load rfl rfl (run_loadVarA T26 rfl (a29685.step hw))) ?_
  obtain ⟨x29705, q29706, h⟩ := bind_some h
  refine ev_call rfl rfl C25 (((rational_Neg_ok n) _ _  (Rational.mk (Int_2.mk x29669.Num.Neg x29669.Num.Mag) (Int_2.mk x29669.Den.Neg x29669.Den.Mag)) v29670 r29671 v29672 r29673 hp.imm _ q29706).mono ?_)
  rintro _ w29707 ⟨I29708, v29709, v29711, hv, hq, r29710, r29712⟩
  replace hv := hv.symm
  subst hv
  have hs := hq.st
  have hp := hp.join0 hq
  replace hz := hz.trans hs
  replace r29666 := r29666.step hs
  replace r29668 := r29668.step hs
  refine ⟨Stp I29708 w29707 I29708, Stp.refl _ _, fun x hx => hz.held hx, ?_⟩
  have hz := Stp.refl I29708 w29707
  obtain ⟨x29713, q29714, h⟩ := bind_some h
  refine ev_call rfl rfl C19 (((rational_Add_ok n) _ _  (Rational.mk (Int_2.mk x29664.Num.Neg x29664.Num.Mag) (Int_2.mk x29664.Den.Neg x29664.Den.Mag)) v29665 r29666 v29667 r29668 x29705 v29709 r29710 v29711 r29712 hp.imm _ q29714).mono ?_)
  rintro _ w29715 ⟨I29716, v29717, v29719, hv, hq, r29718, r29720⟩
  replace hv := hv.symm
  subst hv
  have hs := hq.st
  have hp := hp.join0 hq
  replace hz := hz.trans hs
  refine ⟨Stp I29716 w29715 I29716, Stp.refl _ _, fun x hx => hz.held hx, ?_⟩
  have hz := Stp.refl I29716 w29715
  refine ev_storeA hp (i := 0) (off := 0) (vs := [(.bool x29713.Num.Neg), v29717, (.bool x29713.Den.Neg), v29719]) rfl rfl rfl rfl T26 rfl (Nat.le_of_ble_eq_true rfl) (ones_cons rfl (ones_cons r29718.one (ones_cons rfl (ones_cons r29720.one ones_nil)))) ?_
  intro w29721 hp hs
  replace hz := hz.trans hs
  replace r29718 := r29718.step hs
  replace r29720 := r29720.step hs
  refine ⟨Stp I29716 w29721 I29716, Stp.refl _ _, fun x hx => hz.held hx, ?_⟩
  have hz := Stp.refl I29716 w29721
  apply go
  obtain rfl := Option.some.inj h
  refine ⟨_, run_loadVarA T26 rfl (hp.at_ (i := 0) rfl), ?_⟩
  have hp := hp.sel [] (by decide)
  exact ⟨I29716, v29717, v29719, rfl, hp, r29718, r29720⟩

end Go.Proofs.YtepadjfmcbjkmaaDoor

namespace Go.Proofs.YtepadjfmcbjkmaaDoor
open Go Go.Proofs.YtepadjfmcbjkmaaDoor.Gw Go.RowKit
set_option linter.unusedVariables false
attribute [local irreducible] Ev EvQ EvS EvH
def rational_Mul_S (f : Rational → Rational → Option Rational) : Prop := ∀ (w0 : World) (I0 : Nat → Prop) (x29835 : Rational) (v29836 : Value) (r29837 : RepS (dI .u32) w0 I0 v29836 x29835.Num.Mag) (v29838 : Value) (r29839 : RepS (dI .u32) w0 I0 v29838 x29835.Den.Mag) (x29840 : Rational) (v29841 : Value) (r29842 : RepS (dI .u32) w0 I0 v29841 x29840.Num.Mag) (v29843 : Value) (r29844 : RepS (dI .u32) w0 I0 v29843 x29840.Den.Mag) (hI : ∀ g, I0 g → g < w0.heap.size) (r : Rational), f x29835 x29840 = some r →
    Ret Tryd.prog 23 #[(.agg #[(.bool x29835.Num.Neg), v29836, (.bool x29835.Den.Neg), v29838]), (.agg #[(.bool x29840.Num.Neg), v29841, (.bool x29840.Den.Neg), v29843])] w0 fun v w1 => ∃ (I1 : Nat → Prop) (u29845 : Value) (u29846 : Value), v = (.agg #[(.bool r.Num.Neg), u29845, (.bool r.Den.Neg), u29846]) ∧ Hp ⟨w0, I0, []⟩ I1 [] w1 ∧ RepS (dI .u32) w1 I1 u29845 r.Num.Mag ∧ RepS (dI .u32) w1 I1 u29846 r.Den.Mag
theorem rational_Mul_ok (n : Nat) : rational_Mul_S (rational_Mul n) := by
  intro w0 I0 x29835 v29836 r29837 v29838 r29839 x29840 v29841 r29842 v29843 r29844 hI r h
  unfold rational_Mul at h
  refine enter Tryd.func23 rfl (Nat.le_of_ble_eq_true rfl) ?_
  have hp : Hp ⟨w0, I0, []⟩ I0 [] w0 := Hp.start hI
  apply go
  apply go
  refine ev_boxI hp rfl rfl ?_
  intro p29849 I29850 w29848 hp hs a29851
  replace r29842 := r29842.step hs
  replace r29844 := r29844.step hs
  replace r29837 := r29837.step hs
  replace r29839 := r29839.step hs
  refine ev_boxI hp rfl rfl ?_
  intro p29854 I29855 w29853 hp hs a29856
  replace a29851 := a29851.step hs
  replace r29837 := r29837.step hs
  replace r29839 := r29839.step hs
  replace r29842 := r29842.step hs
  replace r29844 := r29844.step hs
  refine ev_alloc hp rfl T26 ?_
  intro g29857 w29858 hp hs
  replace a29851 := a29851.step hs
  replace r29837 := r29837.step hs
  replace r29839 := r29839.step hs
  replace a29856 := a29856.step hs
  replace r29842 := r29842.step hs
  replace r29844 := r29844.step hs
  apply go
  have hs := hp.stp (Ch.drew [] w29858)
  have hp := hp.drew
  replace a29851 := a29851.step hs
  replace r29837 := r29837.step hs
  replace r29839 := r29839.step hs
  replace a29856 := a29856.step hs
  replace r29842 := r29842.step hs
  replace r29844 := r29844.step hs
  refine W.held [(0, true), (1, true), (2, true), (3, true), (5, true), (6, true), (7, true), (8, true), (4, false), (9, false), (10, false), (11, false)] (Stp I29855 w29858.drew I29855) MX (by kernel_rfl) (Stp.refl _ _) ?_
  have hz := Stp.refl I29855 w29858.drew
  refine evh0 (rn_field rfl rfl FO26_0) ?_
  refine evh (fun w' hw => rn_load rfl rfl (run_loadVarA T24 rfl (((a29851.step hw).drop 0).take 2))) ?_
  refine evh0 (rn_field rfl rfl FO26_0) ?_
  refine evh (fun w' hw => rn_load rfl rfl (run_loadVarA T24 rfl (((a29856.step hw).drop 0).take 2))) ?_
  refine evh0 (rn_field rfl rfl FO26_1) ?_
  refine evh (fun w' hw => rn_load rfl rfl (run_loadVarA T24 rfl (((a29851.step hw).drop 2).take 2))) ?_
  refine evh0 (rn_field rfl rfl FO26_1) ?_
  refine evh (fun w' hw => rn_load rfl rfl (run_loadVarA T24 rfl (((a29856.step hw).drop 2).take 2))) ?_
  obtain ⟨x29880, q29881, h⟩ := bind_some h
  refine ev_call rfl rfl C47 (((integer_Mul_ok n) _ _  (Int_2.mk x29835.Num.Neg x29835.Num.Mag) v29836 r29837 (Int_2.mk x29840.Num.Neg x29840.Num.Mag) v29841 r29842 hp.imm _ q29881).mono ?_)
  rintro _ w29882 ⟨I29883, v29884, hv, hq, r29885⟩
  replace hv := hv.symm
  subst hv
  have hs := hq.st
  have hp := hp.join0 hq
  replace hz := hz.trans hs
  replace r29839 := r29839.step hs
  replace r29844 := r29844.step hs
  refine ⟨Stp I29883 w29882 I29883, Stp.refl _ _, fun x hx => hz.held hx, ?_⟩
  have hz := Stp.refl I29883 w29882
  obtain ⟨x29886, q29887, h⟩ := bind_some h
  refine ev_call rfl rfl C47 (((integer_Mul_ok n) _ _  (Int_2.mk x29835.Den.Neg x29835.Den.Mag) v29838 r29839 (Int_2.mk x29840.Den.Neg x29840.Den.Mag) v29843 r29844 hp.imm _ q29887).mono ?_)
  rintro _ w29888 ⟨I29889, v29890, hv, hq, r29891⟩
  replace hv := hv.symm
  subst hv
  have hs := hq.st
  have hp := hp.join0 hq
  replace hz := hz.trans hs
  replace r29885 := r29885.step hs
  refine ⟨Stp I29889 w29888 I29889, Stp.refl _ _, fun x hx => hz.held hx, ?_⟩
  have hz := Stp.refl I29889 w29888
  obtain ⟨x29892, q29893, h⟩ := bind_some h
  refine ev_call rfl rfl C14 (((rational_New_ok n) _ _  x29880 v29884 r29885 x29886 v29890 r29891 hp.imm _ q29893).mono ?_)
  rintro _ w29894 ⟨I29895, v29896, v29898, hv, hq, r29897, r29899⟩
  replace hv := hv.symm
  subst hv
  have hs := hq.st
  have hp := hp.join0 hq
  replace hz := hz.trans hs
  refine ⟨Stp I29895 w29894 I29895, Stp.refl _ _, fun x hx => hz.held hx, ?_⟩
  have hz := Stp.refl I29895 w29894
  refine ev_storeA hp (i := 0) (off := 0) (vs := [(.bool x29892.Num.Neg), v29896, (.bool x29892.Den.Neg), v29898]) rfl rfl rfl rfl T26 rfl (Nat.le_of_ble_eq_true rfl) (ones_cons rfl (ones_cons r29897.one (ones_cons rfl (ones_cons r29899.one ones_nil)))) ?_
  intro w29900 hp hs
  replace hz := hz.trans hs
  replace r29897 := r29897.step hs
  replace r29899 := r29899.step hs
  refine ⟨Stp I29895 w29900 I29895, Stp.refl _ _, fun x hx => hz.held hx, ?_⟩
  have hz := Stp.refl I29895 w29900
  apply go
  obtain rfl := Option.some.inj h
  refine ⟨_, run_loadVarA T26 rfl (hp.at_ (i := 0) rfl), ?_⟩
  have hp := hp.sel [] (by decide)
  exact ⟨I29895, v29896, v29898, rfl, hp, r29897, r29899⟩

end Go.Proofs.YtepadjfmcbjkmaaDoor

namespace Go.Proofs.YtepadjfmcbjkmaaDoor
open Go Go.Proofs.YtepadjfmcbjkmaaDoor.Gw Go.RowKit
set_option linter.unusedVariables false
attribute [local irreducible] Ev EvQ EvS EvH
def rational_Div_S (f : Rational → Rational → Option (Rational × Int)) : Prop := ∀ (w0 : World) (I0 : Nat → Prop) (x30390 : Rational) (v30391 : Value) (r30392 : RepS (dI .u32) w0 I0 v30391 x30390.Num.Mag) (v30393 : Value) (r30394 : RepS (dI .u32) w0 I0 v30393 x30390.Den.Mag) (x30395 : Rational) (v30396 : Value) (r30397 : RepS (dI .u32) w0 I0 v30396 x30395.Num.Mag) (v30398 : Value) (r30399 : RepS (dI .u32) w0 I0 v30398 x30395.Den.Mag) (hI : ∀ g, I0 g → g < w0.heap.size) (r : (Rational × Int)), f x30390 x30395 = some r →
    Ret Tryd.prog 27 #[(.agg #[(.bool x30390.Num.Neg), v30391, (.bool x30390.Den.Neg), v30393]), (.agg #[(.bool x30395.Num.Neg), v30396, (.bool x30395.Den.Neg), v30398])] w0 fun v w1 => ∃ (I1 : Nat → Prop) (u30400 : Value) (u30401 : Value), v = (.tuple #[(.agg #[(.bool r.1.Num.Neg), u30400, (.bool r.1.Den.Neg), u30401]), (.int .i64 r.2)]) ∧ Hp ⟨w0, I0, []⟩ I1 [] w1 ∧ RepS (dI .u32) w1 I1 u30400 r.1.Num.Mag ∧ RepS (dI .u32) w1 I1 u30401 r.1.Den.Mag
theorem rational_Div_ok (n : Nat) : rational_Div_S (rational_Div n) := by
  intro w0 I0 x30390 v30391 r30392 v30393 r30394 x30395 v30396 r30397 v30398 r30399 hI r h
  unfold rational_Div at h
  refine enter Tryd.func27 rfl (Nat.le_of_ble_eq_true rfl) ?_
  have hp : Hp ⟨w0, I0, []⟩ I0 [] w0 := Hp.start hI
  apply go
  apply go
  refine ev_boxI hp rfl rfl ?_
  intro p30404 I30405 w30403 hp hs a30406
  replace r30397 := r30397.step hs
  replace r30399 := r30399.step hs
  replace r30392 := r30392.step hs
  replace r30394 := r30394.step hs
  refine ev_box hp rfl rfl ?_
  intro g30407 w30408 hp hs
  replace a30406 := a30406.step hs
  replace r30392 := r30392.step hs
  replace r30394 := r30394.step hs
  replace r30397 := r30397.step hs
  replace r30399 := r30399.step hs
  refine ev_alloc hp rfl T26 ?_
  intro g30409 w30410 hp hs
  replace a30406 := a30406.step hs
  replace r30392 := r30392.step hs
  replace r30394 := r30394.step hs
  replace r30397 := r30397.step hs
  replace r30399 := r30399.step hs
  apply go
  apply go
  refine ev (rn_load rfl rfl (run_loadVarA T26 rfl (hp.at_ (i := 1) rfl))) ?_
  obtain ⟨x30411, q30412, h⟩ := bind_some h
  refine ev_call rfl rfl C16 (((rational_Norm_ok n) _ _  (Rational.mk (Int_2.mk x30395.Num.Neg x30395.Num.Mag) (Int_2.mk x30395.Den.Neg x30395.Den.Mag)) v30396 r30397 v30398 r30399 hp.imm _ q30412).mono ?_)
  rintro _ w30413 ⟨I30414, v30415, v30417, hv, hq, r30416, r30418⟩
  replace hv := hv.symm
  subst hv
  have hs := hq.st
  have hp := hp.join0 hq
  replace a30406 := a30406.step hs
  replace r30392 := r30392.step hs
  replace r30394 := r30394.step hs
  replace r30397 := r30397.step hs
  replace r30399 := r30399.step hs
  refine ev_storeA hp (i := 1) (off := 0) (vs := [(.bool x30411.Num.Neg), v30415, (.bool x30411.Den.Neg), v30417]) rfl rfl rfl rfl T26 rfl (Nat.le_of_ble_eq_true rfl) (ones_cons rfl (ones_cons r30416.one (ones_cons rfl (ones_cons r30418.one ones_nil)))) ?_
  intro w30419 hp hs
  replace a30406 := a30406.step hs
  replace r30392 := r30392.step hs
  replace r30394 := r30394.step hs
  replace r30416 := r30416.step hs
  replace r30418 := r30418.step hs
  apply go
  apply go
  apply go
  refine ev0 (rn_field rfl rfl FO26_0) ?_
  refine ev (rn_load rfl rfl (run_loadVarA T24 rfl (((hp.at_ (i := 1) rfl).drop 0).take 2))) ?_
  obtain ⟨x30420, q30421, h⟩ := bind_some h
  refine ev_call rfl rfl C41 (((integer_Sign_ok n) _ _  (Int_2.mk x30411.Num.Neg x30411.Num.Mag) v30415 r30416 hp.imm _ q30421).mono ?_)
  rintro _ w30422 ⟨rfl, hc⟩
  have hs := hp.stp hc
  replace hp := hp.ext hc
  replace a30406 := a30406.step hs
  replace r30392 := r30392.step hs
  replace r30394 := r30394.step hs
  replace r30416 := r30416.step hs
  replace r30418 := r30418.step hs
  apply go
  refine sel_of (fun hc => ?_) (fun hc => ?_)
  ·
    have h := cond_t h hc
    apply go
    apply go
    refine ev0 (fun w => rn_build (cs := [(.bool false), (.slice none 0 0), (.bool false), (.slice none 0 0)]) rfl rfl T26 PL26 rfl) ?_
    refine ev_storeA hp (i := 0) (off := 0) (vs := [(.bool false), (.slice none 0 0), (.bool false), (.slice none 0 0)]) rfl rfl rfl rfl T26 rfl (Nat.le_of_ble_eq_true rfl) (ones_of rfl) ?_
    intro w30423 hp hs
    replace r30416 := r30416.step hs
    replace r30418 := r30418.step hs
    apply go
    obtain rfl := Option.some.inj h
    refine ⟨_, run_loadVarA T26 rfl (hp.at_ (i := 0) rfl), ?_⟩
    have hp := hp.sel [] (by decide)
    exact ⟨I30414, .slice none 0 0, .slice none 0 0, rfl, hp, RepS.nil _ _ _, RepS.nil _ _ _⟩
  ·
    have h := cond_f h hc
    apply go
    apply go
    apply go
    refine ev (rn_load rfl rfl (run_loadVarA T26 rfl a30406)) ?_
    refine ev0 (rn_field rfl rfl FO26_1) ?_
    refine ev (rn_load rfl rfl (run_loadVarA T24 rfl (((hp.at_ (i := 1) rfl).drop 2).take 2))) ?_
    refine ev0 (rn_field rfl rfl FO26_0) ?_
    refine ev (rn_load rfl rfl (run_loadVarA T24 rfl (((hp.at_ (i := 1) rfl).drop 0).take 2))) ?_
    obtain ⟨A30424, m30425, m30426, rfl⟩ := r30418.isSl
    obtain ⟨A30428, m30429, m30430, rfl⟩ := r30416.isSl
    refine ev0 (fun w => rn_build (cs := [(.bool x30411.Den.Neg), (.slice A30424 m30425 m30426), (.bool x30411.Num.Neg), (.slice A30428 m30429 m30430)]) rfl rfl T26 PL26 rfl) ?_
    obtain ⟨x30432, q30433, h⟩ := bind_some h
    refine ev_call rfl rfl C23 (((rational_Mul_ok n) _ _  (Rational.mk (Int_2.mk x30390.Num.Neg x30390.Num.Mag) (Int_2.mk x30390.Den.Neg x30390.Den.Mag)) v30391 r30392 v30393 r30394 (Rational.mk (Int_2.mk x30411.Den.Neg x30411.Den.Mag) (Int_2.mk x30411.Num.Neg x30411.Num.Mag)) (.slice A30424 m30425 m30426) r30418 (.slice A30428 m30429 m30430) r30416 hp.imm _ q30433).mono ?_)
    rintro _ w30434 ⟨I30435, v30436, v30438, hv, hq, r30437, r30439⟩
    replace hv := hv.symm
    subst hv
    have hs := hq.st
    have hp := hp.join0 hq
    replace r30416 := r30416.step hs
    replace r30418 := r30418.step hs
    refine ev_storeA hp (i := 0) (off := 0) (vs := [(.bool x30432.Num.Neg), v30436, (.bool x30432.Den.Neg), v30438]) rfl rfl rfl rfl T26 rfl (Nat.le_of_ble_eq_true rfl) (ones_cons rfl (ones_cons r30437.one (ones_cons rfl (ones_cons r30439.one ones_nil)))) ?_
    intro w30440 hp hs
    replace r30437 := r30437.step hs
    replace r30439 := r30439.step hs
    replace r30416 := r30416.step hs
    replace r30418 := r30418.step hs
    apply go
    obtain rfl := Option.some.inj h
    refine ⟨_, run_loadVarA T26 rfl (hp.at_ (i := 0) rfl), ?_⟩
    have hp := hp.sel [] (by decide)
    exact ⟨I30435, v30436, v30438, rfl, hp, r30437, r30439⟩

end Go.Proofs.YtepadjfmcbjkmaaDoor

namespace Go.Proofs.YtepadjfmcbjkmaaDoor
open Go Go.Proofs.YtepadjfmcbjkmaaDoor.Gw Go.RowKit
set_option linter.unusedVariables false
attribute [local irreducible] Ev EvQ EvS EvH vch
def law02_RationalField_S (f : Rational → Rational → Rational → Option Bool) : Prop := ∀ (w0 : World) (I0 : Nat → Prop) (tb : Tb w0 I0 1 .u64 pow10) (x30753 : Rational) (v30754 : Value) (r30755 : RepS (dI .u32) w0 I0 v30754 x30753.Num.Mag) (v30756 : Value) (r30757 : RepS (dI .u32) w0 I0 v30756 x30753.Den.Mag) (x30758 : Rational) (v30759 : Value) (r30760 : RepS (dI .u32) w0 I0 v30759 x30758.Num.Mag) (v30761 : Value) (r30762 : RepS (dI .u32) w0 I0 v30761 x30758.Den.Mag) (x30763 : Rational) (v30764 : Value) (r30765 : RepS (dI .u32) w0 I0 v30764 x30763.Num.Mag) (v30766 : Value) (r30767 : RepS (dI .u32) w0 I0 v30766 x30763.Den.Mag) (hI : ∀ g, I0 g → g < w0.heap.size) (r : Bool), f x30753 x30758 x30763 = some r →
    Ret Tryd.prog 5 #[(.agg #[(.bool x30753.Num.Neg), v30754, (.bool x30753.Den.Neg), v30756]), (.agg #[(.bool x30758.Num.Neg), v30759, (.bool x30758.Den.Neg), v30761]), (.agg #[(.bool x30763.Num.Neg), v30764, (.bool x30763.Den.Neg), v30766])] w0 fun v w1 => v = (.bool r) ∧ Ch [] w0 w1
theorem law02_RationalField_ok (n : Nat) : law02_RationalField_S (law02_RationalField n) := by
  intro w0 I0 tb x30753 v30754 r30755 v30756 r30757 x30758 v30759 r30760 v30761 r30762 x30763 v30764 r30765 v30766 r30767 hI r h
  unfold law02_RationalField at h
  refine enter Tryd.func5 rfl (Nat.le_of_ble_eq_true rfl) ?_
  have hp : Hp ⟨w0, I0, []⟩ I0 [] w0 := Hp.start hI
  apply go
  apply go
  refine ev_boxI hp rfl rfl ?_
  intro p30770 I30771 w30769 hp hs a30772
  replace r30760 := r30760.step hs
  replace r30762 := r30762.step hs
  replace r30765 := r30765.step hs
  replace r30767 := r30767.step hs
  replace r30755 := r30755.step hs
  replace r30757 := r30757.step hs
  replace tb := tb.step hs
  refine ev_boxI hp rfl rfl ?_
  intro p30775 I30776 w30774 hp hs a30777
  replace r30765 := r30765.step hs
  replace r30767 := r30767.step hs
  replace a30772 := a30772.step hs
  replace r30755 := r30755.step hs
  replace r30757 := r30757.step hs
  replace r30760 := r30760.step hs
  replace r30762 := r30762.step hs
  replace tb := tb.step hs
  refine ev_boxI hp rfl rfl ?_
  intro p30780 I30781 w30779 hp hs a30782
  replace a30772 := a30772.step hs
  replace r30755 := r30755.step hs
  replace r30757 := r30757.step hs
  replace a30777 := a30777.step hs
  replace r30760 := r30760.step hs
  replace r30762 := r30762.step hs
  replace r30765 := r30765.step hs
  replace r30767 := r30767.step hs
  replace tb := tb.step hs
  apply go
  obtain ⟨y30838, q30839, h⟩ := bind_some h
  refine W.cut (γ := ((List Int) × (List Int) × (List Int) × (List Int) × (List Int) × (List Int) × Bool × Value × Value × Value × Value × Value × Value × (Nat → Prop))) (fun g => [(3, (.pointer (some (p30770)))), (4, (.pointer (some (p30775)))), (5, (.pointer (some (p30780)))), (20, (.bool (g.2.2.2.2.2.2.1)))]) (fun g w' => y30838 = ((g.1), (g.2.1), (g.2.2.1), (g.2.2.2.1), (g.2.2.2.2.1), (g.2.2.2.2.2.1), (g.2.2.2.2.2.2.1)) ∧ Hp ⟨w0, I0, []⟩ (g.2.2.2.2.2.2.2.2.2.2.2.2.2) [] w' ∧ RepS (dI .u32) w' (g.2.2.2.2.2.2.2.2.2.2.2.2.2) (g.2.2.2.2.2.2.2.1) (g.1) ∧ RepS (dI .u32) w' (g.2.2.2.2.2.2.2.2.2.2.2.2.2) (g.2.2.2.2.2.2.2.2.1) (g.2.1) ∧ At w' (g.2.2.2.2.2.2.2.2.2.2.2.2.2) p30770 [(.bool x30753.Num.Neg), (g.2.2.2.2.2.2.2.1), (.bool x30753.Den.Neg), (g.2.2.2.2.2.2.2.2.1)] ∧ RepS (dI .u32) w' (g.2.2.2.2.2.2.2.2.2.2.2.2.2) (g.2.2.2.2.2.2.2.2.2.1) (g.2.2.1) ∧ RepS (dI .u32) w' (g.2.2.2.2.2.2.2.2.2.2.2.2.2) (g.2.2.2.2.2.2.2.2.2.2.1) (g.2.2.2.1) ∧ At w' (g.2.2.2.2.2.2.2.2.2.2.2.2.2) p30775 [(.bool x30758.Num.Neg), (g.2.2.2.2.2.2.2.2.2.1), (.bool x30758.Den.Neg), (g.2.2.2.2.2.2.2.2.2.2.1)] ∧ RepS (dI .u32) w' (g.2.2.2.2.2.2.2.2.2.2.2.2.2) (g.2.2.2.2.2.2.2.2.2.2.2.1) (g.2.2.2.2.1) ∧ RepS (dI .u32) w' (g.2.2.2.2.2.2.2.2.2.2.2.2.2) (g.2.2.2.2.2.2.2.2.2.2.2.2.1) (g.2.2.2.2.2.1) ∧ At w' (g.2.2.2.2.2.2.2.2.2.2.2.2.2) p30780 [(.bool x30763.Num.Neg), (g.2.2.2.2.2.2.2.2.2.2.2.1), (.bool x30763.Den.Neg), (g.2.2.2.2.2.2.2.2.2.2.2.2.1)] ∧ Tb w' (g.2.2.2.2.2.2.2.2.2.2.2.2.2) 1 .u64 pow10) ?_ ?_
  ·
    apply go
    obtain ⟨x30840, q30841, q30839⟩ := bind_some q30839
    refine ev_call rfl rfl C8 (((law02_awake_ok n) _ _ tb  hp.imm _ q30841).mono ?_)
    rintro _ w30842 ⟨rfl, hc⟩
    have hs := hp.stp hc
    replace hp := hp.ext hc
    replace a30772 := a30772.step hs
    replace r30755 := r30755.step hs
    replace r30757 := r30757.step hs
    replace a30777 := a30777.step hs
    replace r30760 := r30760.step hs
    replace r30762 := r30762.step hs
    replace a30782 := a30782.step hs
    replace r30765 := r30765.step hs
    replace r30767 := r30767.step hs
    replace tb := tb.step hs
    refine sel_of (fun hc => ?_) (fun hc => ?_)
    ·
      have q30839 := cond_t q30839 hc
      obtain rfl := Option.some.inj q30839
      exact ⟨(x30753.Num.Mag, x30753.Den.Mag, x30758.Num.Mag, x30758.Den.Mag, x30763.Num.Mag, x30763.Den.Mag, true, v30754, v30756, v30759, v30761, v30764, v30766, I30781), (.c rfl (.c rfl (.c rfl (.c rfl .n)))), rfl, hp, r30755, r30757, a30772, r30760, r30762, a30777, r30765, r30767, a30782, tb⟩
    ·
      have q30839 := cond_f q30839 hc
      refine ev (rn_load rfl rfl (run_loadVarA T26 rfl a30772)) ?_
      refine ev (rn_load rfl rfl (run_loadVarA T26 rfl a30777)) ?_
      refine ev (rn_load rfl rfl (run_loadVarA T26 rfl a30782)) ?_
      obtain ⟨A30843, m30844, m30845, rfl⟩ := r30755.isSl
      obtain ⟨A30847, m30848, m30849, rfl⟩ := r30757.isSl
      obtain ⟨A30851, m30852, m30853, rfl⟩ := r30760.isSl
      obtain ⟨A30855, m30856, m30857, rfl⟩ := r30762.isSl
      obtain ⟨A30859, m30860, m30861, rfl⟩ := r30765.isSl
      obtain ⟨A30863, m30864, m30865, rfl⟩ := r30767.isSl
      refine ev_litN (d := dRational) (xs := [(Rational.mk (Int_2.mk x30753.Num.Neg x30753.Num.Mag) (Int_2.mk x30753.Den.Neg x30753.Den.Mag)), (Rational.mk (Int_2.mk x30758.Num.Neg x30758.Num.Mag) (Int_2.mk x30758.Den.Neg x30758.Den.Mag)), (Rational.mk (Int_2.mk x30763.Num.Neg x30763.Num.Mag) (Int_2.mk x30763.Den.Neg x30763.Den.Mag))]) (cs := [(.bool x30753.Num.Neg), (.slice A30843 m30844 m30845), (.bool x30753.Den.Neg), (.slice A30847 m30848 m30849), (.bool x30758.Num.Neg), (.slice A30851 m30852 m30853), (.bool x30758.Den.Neg), (.slice A30855 m30856 m30857), (.bool x30763.Num.Neg), (.slice A30859 m30860 m30861), (.bool x30763.Den.Neg), (.slice A30863 m30864 m30865)]) hp rfl rfl Tryd.underlying55 T26 (by decide) (by kernel_rfl) rfl (Elems.cons (d := dRational) (xs := _) (dRational_m r30755 r30757) (Elems.cons (d := dRational) (xs := _) (dRational_m r30760 r30762) (Elems.cons (d := dRational) (xs := _) (dRational_m r30765 r30767) (Elems.nil _ _ _ _)))) ?_
      intro v30867 I30869 w30868 hp hs r30870
      replace a30772 := a30772.step hs
      replace r30755 := r30755.step hs
      replace r30757 := r30757.step hs
      replace a30777 := a30777.step hs
      replace r30760 := r30760.step hs
      replace r30762 := r30762.step hs
      replace a30782 := a30782.step hs
      replace r30765 := r30765.step hs
      replace r30767 := r30767.step hs
      replace tb := tb.step hs
      obtain ⟨x30871, q30872, q30839⟩ := bind_some q30839
      refine ev_call rfl rfl C9 (((law02_few_ok n) _ _  [(Rational.mk (Int_2.mk x30753.Num.Neg x30753.Num.Mag) (Int_2.mk x30753.Den.Neg x30753.Den.Mag)), (Rational.mk (Int_2.mk x30758.Num.Neg x30758.Num.Mag) (Int_2.mk x30758.Den.Neg x30758.Den.Mag)), (Rational.mk (Int_2.mk x30763.Num.Neg x30763.Num.Mag) (Int_2.mk x30763.Den.Neg x30763.Den.Mag))] v30867 r30870 hp.imm _ q30872).mono ?_)
      rintro _ w30873 ⟨rfl, hc⟩
      have hs := hp.stp hc
      replace hp := hp.ext hc
      replace a30772 := a30772.step hs
      replace r30755 := r30755.step hs
      replace r30757 := r30757.step hs
      replace a30777 := a30777.step hs
      replace r30760 := r30760.step hs
      replace r30762 := r30762.step hs
      replace a30782 := a30782.step hs
      replace r30765 := r30765.step hs
      replace r30767 := r30767.step hs
      replace tb := tb.step hs
      obtain rfl := Option.some.inj q30839
      exact ⟨(x30753.Num.Mag, x30753.Den.Mag, x30758.Num.Mag, x30758.Den.Mag, x30763.Num.Mag, x30763.Den.Mag, (!x30871), (.slice A30843 m30844 m30845), (.slice A30847 m30848 m30849), (.slice A30851 m30852 m30853), (.slice A30855 m30856 m30857), (.slice A30859 m30860 m30861), (.slice A30863 m30864 m30865), I30869), (.c rfl (.c rfl (.c rfl (.c rfl .n)))), rfl, hp, r30755, r30757, a30772, r30760, r30762, a30777, r30765, r30767, a30782, tb⟩
  ·
    rintro ⟨x30817, x30820, x30823, x30826, x30829, x30832, x30835, v30818, v30821, v30824, v30827, v30830, v30833, I30836⟩ w30837 ⟨hy, hp, r30819, r30822, a30772, r30825, r30828, a30777, r30831, r30834, a30782, tb⟩
    replace hy := hy.symm
    subst hy
    apply go
    refine sel_of (fun hc => ?_) (fun hc => ?_)
    ·
      have h := cond_t h hc
      apply go
      apply go
      obtain ⟨x30874, q30875, h⟩ := bind_some h
      refine ev_call rfl rfl C8 (((law02_awake_ok n) _ _ tb  hp.imm _ q30875).mono ?_)
      rintro _ w30876 ⟨rfl, hc⟩
      have hs := hp.stp hc
      replace hp := hp.ext hc
      replace tb := tb.step hs
      apply go
      obtain rfl := Option.some.inj h
      exact ⟨rfl, hp.ch⟩
    ·
      have h := cond_f h hc
      apply go
      obtain ⟨y31273, q31274, h⟩ := bind_some h
      refine W.cut (γ := (Bool × (List Int) × Bool × (List Int) × Bool × (List Int) × Bool × (List Int) × Nat × Value × Value × Nat × Value × Value × (Nat → Prop))) (fun g => [(3, (.pointer (some (p30770)))), (4, (.pointer (some (p30775)))), (5, (.pointer (some (p30780)))), (7, (.pointer (some ⟨(g.2.2.2.2.2.2.2.2.1), 0, none⟩))), (8, (.pointer (some ⟨(g.2.2.2.2.2.2.2.2.2.2.2.1), 0, none⟩)))]) (fun g w' => y31273 = ((g.1), (g.2.1), (g.2.2.1), (g.2.2.2.1), (g.2.2.2.2.1), (g.2.2.2.2.2.1), (g.2.2.2.2.2.2.1), (g.2.2.2.2.2.2.2.1)) ∧ Hp ⟨w0, I0, []⟩ (g.2.2.2.2.2.2.2.2.2.2.2.2.2.2) [some ((g.2.2.2.2.2.2.2.2.1), [(.bool (g.1)), (g.2.2.2.2.2.2.2.2.2.1), (.bool (g.2.2.1)), (g.2.2.2.2.2.2.2.2.2.2.1)], 26), some ((g.2.2.2.2.2.2.2.2.2.2.2.1), [(.bool (g.2.2.2.2.1)), (g.2.2.2.2.2.2.2.2.2.2.2.2.1), (.bool (g.2.2.2.2.2.2.1)), (g.2.2.2.2.2.2.2.2.2.2.2.2.2.1)], 26)] w' ∧ RepS (dI .u32) w' (g.2.2.2.2.2.2.2.2.2.2.2.2.2.2) v30818 x30817 ∧ RepS (dI .u32) w' (g.2.2.2.2.2.2.2.2.2.2.2.2.2.2) v30821 x30820 ∧ At w' (g.2.2.2.2.2.2.2.2.2.2.2.2.2.2) p30770 [(.bool x30753.Num.Neg), v30818, (.bool x30753.Den.Neg), v30821] ∧ RepS (dI .u32) w' (g.2.2.2.2.2.2.2.2.2.2.2.2.2.2) v30824 x30823 ∧ RepS (dI .u32) w' (g.2.2.2.2.2.2.2.2.2.2.2.2.2.2) v30827 x30826 ∧ At w' (g.2.2.2.2.2.2.2.2.2.2.2.2.2.2) p30775 [(.bool x30758.Num.Neg), v30824, (.bool x30758.Den.Neg), v30827] ∧ RepS (dI .u32) w' (g.2.2.2.2.2.2.2.2.2.2.2.2.2.2) v30830 x30829 ∧ RepS (dI .u32) w' (g.2.2.2.2.2.2.2.2.2.2.2.2.2.2) v30833 x30832 ∧ At w' (g.2.2.2.2.2.2.2.2.2.2.2.2.2.2) p30780 [(.bool x30763.Num.Neg), v30830, (.bool x30763.Den.Neg), v30833] ∧ RepS (dI .u32) w' (g.2.2.2.2.2.2.2.2.2.2.2.2.2.2) (g.2.2.2.2.2.2.2.2.2.1) (g.2.1) ∧ RepS (dI .u32) w' (g.2.2.2.2.2.2.2.2.2.2.2.2.2.2) (g.2.2.2.2.2.2.2.2.2.2.1) (g.2.2.2.1) ∧ RepS (dI .u32) w' (g.2.2.2.2.2.2.2.2.2.2.2.2.2.2) (g.2.2.2.2.2.2.2.2.2.2.2.2.1) (g.2.2.2.2.2.1) ∧ RepS (dI .u32) w' (g.2.2.2.2.2.2.2.2.2.2.2.2.2.2) (g.2.2.2.2.2.2.2.2.2.2.2.2.2.1) (g.2.2.2.2.2.2.2.1) ∧ Tb w' (g.2.2.2.2.2.2.2.2.2.2.2.2.2.2) 1 .u64 pow10) ?_ ?_
      ·
        have hs := hp.stp (Ch.drew [] w30837)
        have hp := hp.drew
        replace a30772 := a30772.step hs
        replace r30819 := r30819.step hs
        replace r30822 := r30822.step hs
        replace a30777 := a30777.step hs
        replace r30825 := r30825.step hs
        replace r30828 := r30828.step hs
        replace a30782 := a30782.step hs
        replace r30831 := r30831.step hs
        replace r30834 := r30834.step hs
        replace tb := tb.step hs
        refine W.heldG (.q 0 (.q 1 (.q 3 (.q 4 (.l 2 (.l 5 (.l 6 (.l 7 (.l 8 (.l 9 .done .no) .no) .no) (.l 7 (.l 6 (.l 8 (.l 9 .done .no) .no) .no) .no)) (.l 6 (.l 5 (.l 7 (.l 8 (.l 9 .done .no) .no) .no) (.l 7 (.l 5 (.l 8 (.l 9 .done .no) .no) .no) .no)) (.l 7 (.l 5 (.l 6 (.l 8 (.l 9 .done .no) .no) .no) (.l 6 (.l 5 (.l 8 (.l 9 .done .no) .no) .no) .no)) .no))) (.l 6 (.l 2 (.l 5 (.l 7 (.l 8 (.l 9 .done .no) .no) .no) (.l 7 (.l 5 (.l 8 (.l 9 .done .no) .no) .no) .no)) (.l 7 (.l 2 (.l 5 (.l 8 (.l 9 .done .no) .no) .no) .no) .no)) (.l 7 (.l 2 (.l 5 (.l 6 (.l 8 (.l 9 .done .no) .no) .no) (.l 6 (.l 5 (.l 8 (.l 9 .done .no) .no) .no) .no)) (.l 6 (.l 2 (.l 5 (.l 8 (.l 9 .done .no) .no) .no) .no) .no)) .no))))))) (SK (Stp I30836 w30837.drew I30836) [] []) MX (by kernel_rfl) ⟨Stp.refl _ _, kp_nil⟩ ?_
        have hz := Stp.refl I30836 w30837.drew
        refine ⟨SK.same (by kernel_rfl), ?_⟩
        refine evh (fun w' hw => rn_load rfl rfl (run_loadVarA T26 rfl (a30772.step (S0.si hw)))) ?_
        refine ⟨SK.same (by kernel_rfl), ?_⟩
        refine evh (fun w' hw => rn_load rfl rfl (run_loadVarA T26 rfl (a30777.step (S0.si hw)))) ?_
        refine ⟨SK.same (by kernel_rfl), ?_⟩
        refine evh (fun w' hw => rn_load rfl rfl (run_loadVarA T26 rfl (a30772.step (S0.si hw)))) ?_
        refine ⟨SK.same (by kernel_rfl), ?_⟩
        refine evh (fun w' hw => rn_load rfl rfl (run_loadVarA T26 rfl (a30777.step (S0.si hw)))) ?_
        refine ⟨?_, ?_⟩
        ·
          obtain ⟨x31463, q31464, q31274⟩ := bind_some q31274
          refine ev_call rfl rfl C19 (((rational_Add_ok n) _ _  (Rational.mk (Int_2.mk x30753.Num.Neg x30817) (Int_2.mk x30753.Den.Neg x30820)) v30818 r30819 v30821 r30822 (Rational.mk (Int_2.mk x30758.Num.Neg x30823) (Int_2.mk x30758.Den.Neg x30826)) v30824 r30825 v30827 r30828 hp.imm _ q31464).mono ?_)
          rintro _ w31465 ⟨I31466, v31467, v31469, hv, hq, r31468, r31470⟩
          replace hv := hv.symm
          subst hv
          have hs := hq.st
          have hp := hp.join0 hq
          replace hz := hz.trans hs
          replace a30772 := a30772.step hs
          replace r30819 := r30819.step hs
          replace r30822 := r30822.step hs
          replace a30777 := a30777.step hs
          replace r30825 := r30825.step hs
          replace r30828 := r30828.step hs
          replace a30782 := a30782.step hs
          replace r30831 := r30831.step hs
          replace r30834 := r30834.step hs
          replace tb := tb.step hs
          refine ⟨SK (Stp I31466 w31465 I31466) [] [], ⟨Stp.refl _ _, kp_nil⟩, fun L x h => ⟨hz.held h.1, h.2⟩, ?_⟩
          have hz := Stp.refl I31466 w31465
          refine ⟨?_, ?_⟩
          ·
            obtain ⟨x31471, q31472, q31274⟩ := bind_some q31274
            refine ev_call rfl rfl C23 (((rational_Mul_ok n) _ _  (Rational.mk (Int_2.mk x30753.Num.Neg x30817) (Int_2.mk x30753.Den.Neg x30820)) v30818 r30819 v30821 r30822 (Rational.mk (Int_2.mk x30758.Num.Neg x30823) (Int_2.mk x30758.Den.Neg x30826)) v30824 r30825 v30827 r30828 hp.imm _ q31472).mono ?_)
            rintro _ w31473 ⟨I31474, v31475, v31477, hv, hq, r31476, r31478⟩
            replace hv := hv.symm
            subst hv
            have hs := hq.st
            have hp := hp.join0 hq
            replace hz := hz.trans hs
            replace a30772 := a30772.step hs
            replace r30819 := r30819.step hs
            replace r30822 := r30822.step hs
            replace a30777 := a30777.step hs
            replace r30825 := r30825.step hs
            replace r30828 := r30828.step hs
            replace a30782 := a30782.step hs
            replace r30831 := r30831.step hs
            replace r30834 := r30834.step hs
            replace r31468 := r31468.step hs
            replace r31470 := r31470.step hs
            replace tb := tb.step hs
            refine ⟨SK (Stp I31474 w31473 I31474) [] [], ⟨Stp.refl _ _, kp_nil⟩, fun L x h => ⟨hz.held h.1, h.2⟩, ?_⟩
            have hz := Stp.refl I31474 w31473
            refine ⟨?_, ?_⟩
            ·
              refine ev_alloc hp rfl T26 ?_
              intro g31479 w31480 hp hs
              replace hz := hz.trans hs
              replace a30772 := a30772.step hs
              replace r30819 := r30819.step hs
              replace r30822 := r30822.step hs
              replace a30777 := a30777.step hs
              replace r30825 := r30825.step hs
              replace r30828 := r30828.step hs
              replace a30782 := a30782.step hs
              replace r30831 := r30831.step hs
              replace r30834 := r30834.step hs
              replace r31468 := r31468.step hs
              replace r31470 := r31470.step hs
              replace r31476 := r31476.step hs
              replace r31478 := r31478.step hs
              replace tb := tb.step hs
              refine ⟨SK (Stp I31474 w31480 I31474) [] [], ⟨Stp.refl _ _, kp_nil⟩, fun L x h => ⟨hz.held h.1, h.2⟩, ?_⟩
              have hz := Stp.refl I31474 w31480
              refine ⟨?_, trivial⟩
              refine ev_alloc hp rfl T26 ?_
              intro g31481 w31482 hp hs
              replace hz := hz.trans hs
              replace a30772 := a30772.step hs
              replace r30819 := r30819.step hs
              replace r30822 := r30822.step hs
              replace a30777 := a30777.step hs
              replace r30825 := r30825.step hs
              replace r30828 := r30828.step hs
              replace a30782 := a30782.step hs
              replace r30831 := r30831.step hs
              replace r30834 := r30834.step hs
              replace r31468 := r31468.step hs
              replace r31470 := r31470.step hs
              replace r31476 := r31476.step hs
              replace r31478 := r31478.step hs
              replace tb := tb.step hs
              refine ⟨SK (Stp I31474 w31482 I31474) [] [], ⟨Stp.refl _ _, kp_nil⟩, fun L x h => ⟨hz.held h.1, h.2⟩, ?_⟩
              have hz := Stp.refl I31474 w31482
              refine ⟨?_, trivial⟩
              refine ev_storeA hp (i := 1) (off := 0) (vs := [(.bool x31463.Num.Neg), v31467, (.bool x31463.Den.Neg), v31469]) rfl rfl rfl rfl T26 rfl (Nat.le_of_ble_eq_true rfl) (ones_cons rfl (ones_cons r31468.one (ones_cons rfl (ones_cons r31470.one ones_nil)))) ?_
              intro w31483 hp hs
              replace hz := hz.trans hs
              replace a30772 := a30772.step hs
              replace r30819 := r30819.step hs
              replace r30822 := r30822.step hs
              replace a30777 := a30777.step hs
              replace r30825 := r30825.step hs
              replace r30828 := r30828.step hs
              replace a30782 := a30782.step hs
              replace r30831 := r30831.step hs
              replace r30834 := r30834.step hs
              replace r31476 := r31476.step hs
              replace r31478 := r31478.step hs
              replace r31468 := r31468.step hs
              replace r31470 := r31470.step hs
              replace tb := tb.step hs
              refine ⟨SK (Stp I31474 w31483 I31474) [] [], ⟨Stp.refl _ _, kp_nil⟩, fun L x h => ⟨hz.held h.1, h.2⟩, ?_⟩
              have hz := Stp.refl I31474 w31483
              refine ⟨?_, trivial⟩
              refine ev_storeA hp (i := 0) (off := 0) (vs := [(.bool x31471.Num.Neg), v31475, (.bool x31471.Den.Neg), v31477]) rfl rfl rfl rfl T26 rfl (Nat.le_of_ble_eq_true rfl) (ones_cons rfl (ones_cons r31476.one (ones_cons rfl (ones_cons r31478.one ones_nil)))) ?_
              intro w31484 hp hs
              replace hz := hz.trans hs
              replace a30772 := a30772.step hs
              replace r30819 := r30819.step hs
              replace r30822 := r30822.step hs
              replace a30777 := a30777.step hs
              replace r30825 := r30825.step hs
              replace r30828 := r30828.step hs
              replace a30782 := a30782.step hs
              replace r30831 := r30831.step hs
              replace r30834 := r30834.step hs
              replace r31476 := r31476.step hs
              replace r31478 := r31478.step hs
              replace r31468 := r31468.step hs
              replace r31470 := r31470.step hs
              replace tb := tb.step hs
              refine ⟨SK (Stp I31474 w31484 I31474) [] [], ⟨Stp.refl _ _, kp_nil⟩, fun L x h => ⟨hz.held h.1, h.2⟩, ?_⟩
              have hz := Stp.refl I31474 w31484
              obtain rfl := Option.some.inj q31274
              have hp := hp.perm [1, 0] (by decide)
              exact ⟨(x31463.Num.Neg, x31463.Num.Mag, x31463.Den.Neg, x31463.Den.Mag, x31471.Num.Neg, x31471.Num.Mag, x31471.Den.Neg, x31471.Den.Mag, g31479, v31467, v31469, g31481, v31475, v31477, I31474), (.c rfl (.c rfl (.c rfl (.c rfl (.c rfl .n))))), rfl, hp, r30819, r30822, a30772, r30825, r30828, a30777, r30831, r30834, a30782, r31468, r31470, r31476, r31478, tb⟩
            refine ⟨?_, trivial⟩
            refine ev_alloc hp rfl T26 ?_
            intro g31485 w31486 hp hs
            replace hz := hz.trans hs
            replace a30772 := a30772.step hs
            replace r30819 := r30819.step hs
            replace r30822 := r30822.step hs
            replace a30777 := a30777.step hs
            replace r30825 := r30825.step hs
            replace r30828 := r30828.step hs
            replace a30782 := a30782.step hs
            replace r30831 := r30831.step hs
            replace r30834 := r30834.step hs
            replace r31468 := r31468.step hs
            replace r31470 := r31470.step hs
            replace r31476 := r31476.step hs
            replace r31478 := r31478.step hs
            replace tb := tb.step hs
            refine ⟨SK (Stp I31474 w31486 I31474) [] [], ⟨Stp.refl _ _, kp_nil⟩, fun L x h => ⟨hz.held h.1, h.2⟩, ?_⟩
            have hz := Stp.refl I31474 w31486
            refine ⟨?_, trivial⟩
            refine ev_alloc hp rfl T26 ?_
            intro g31487 w31488 hp hs
            replace hz := hz.trans hs
            replace a30772 := a30772.step hs
            replace r30819 := r30819.step hs
            replace r30822 := r30822.step hs
            replace a30777 := a30777.step hs
            replace r30825 := r30825.step hs
            replace r30828 := r30828.step hs
            replace a30782 := a30782.step hs
            replace r30831 := r30831.step hs
            replace r30834 := r30834.step hs
            replace r31468 := r31468.step hs
            replace r31470 := r31470.step hs
            replace r31476 := r31476.step hs
            replace r31478 := r31478.step hs
            replace tb := tb.step hs
            refine ⟨SK (Stp I31474 w31488 I31474) [] [], ⟨Stp.refl _ _, kp_nil⟩, fun L x h => ⟨hz.held h.1, h.2⟩, ?_⟩
            have hz := Stp.refl I31474 w31488
            refine ⟨?_, trivial⟩
            refine ev_storeA hp (i := 0) (off := 0) (vs := [(.bool x31463.Num.Neg), v31467, (.bool x31463.Den.Neg), v31469]) rfl rfl rfl rfl T26 rfl (Nat.le_of_ble_eq_true rfl) (ones_cons rfl (ones_cons r31468.one (ones_cons rfl (ones_cons r31470.one ones_nil)))) ?_
            intro w31489 hp hs
            replace hz := hz.trans hs
            replace a30772 := a30772.step hs
            replace r30819 := r30819.step hs
            replace r30822 := r30822.step hs
            replace a30777 := a30777.step hs
            replace r30825 := r30825.step hs
            replace r30828 := r30828.step hs
            replace a30782 := a30782.step hs
            replace r30831 := r30831.step hs
            replace r30834 := r30834.step hs
            replace r31476 := r31476.step hs
            replace r31478 := r31478.step hs
            replace r31468 := r31468.step hs
            replace r31470 := r31470.step hs
            replace tb := tb.step hs
            refine ⟨SK (Stp I31474 w31489 I31474) [] [], ⟨Stp.refl _ _, kp_nil⟩, fun L x h => ⟨hz.held h.1, h.2⟩, ?_⟩
            have hz := Stp.refl I31474 w31489
            refine ⟨?_, trivial⟩
            refine ev_storeA hp (i := 1) (off := 0) (vs := [(.bool x31471.Num.Neg), v31475, (.bool x31471.Den.Neg), v31477]) rfl rfl rfl rfl T26 rfl (Nat.le_of_ble_eq_true rfl) (ones_cons rfl (ones_cons r31476.one (ones_cons rfl (ones_cons r31478.one ones_nil)))) ?_
            intro w31490 hp hs
            replace hz := hz.trans hs
            replace a30772 := a30772.step hs
            replace r30819 := r30819.step hs
            replace r30822 := r30822.step hs
            replace a30777 := a30777.step hs
            replace r30825 := r30825.step hs
            replace r30828 := r30828.step hs
            replace a30782 := a30782.step hs
            replace r30831 := r30831.step hs
            replace r30834 := r30834.step hs
            replace r31468 := r31468.step hs
            replace r31470 := r31470.step hs
            replace r31476 := r31476.step hs
            replace r31478 := r31478.step hs
            replace tb := tb.step hs
            refine ⟨SK (Stp I31474 w31490 I31474) [] [], ⟨Stp.refl _ _, kp_nil⟩, fun L x h => ⟨hz.held h.1, h.2⟩, ?_⟩
            have hz := Stp.refl I31474 w31490
            obtain rfl := Option.some.inj q31274
            exact ⟨(x31463.Num.Neg, x31463.Num.Mag, x31463.Den.Neg, x31463.Den.Mag, x31471.Num.Neg, x31471.Num.Mag, x31471.Den.Neg, x31471.Den.Mag, g31487, v31467, v31469, g31485, v31475, v31477, I31474), (.c rfl (.c rfl (.c rfl (.c rfl (.c rfl .n))))), rfl, hp, r30819, r30822, a30772, r30825, r30828, a30777, r30831, r30834, a30782, r31468, r31470, r31476, r31478, tb⟩
          refine ⟨?_, ?_⟩
          ·
            refine ev_alloc hp rfl T26 ?_
            intro g31491 w31492 hp hs
            replace hz := hz.trans hs
            replace a30772 := a30772.step hs
            replace r30819 := r30819.step hs
            replace r30822 := r30822.step hs
            replace a30777 := a30777.step hs
            replace r30825 := r30825.step hs
            replace r30828 := r30828.step hs
            replace a30782 := a30782.step hs
            replace r30831 := r30831.step hs
            replace r30834 := r30834.step hs
            replace r31468 := r31468.step hs
            replace r31470 := r31470.step hs
            replace tb := tb.step hs
            refine ⟨SK (Stp I31466 w31492 I31466) [] [], ⟨Stp.refl _ _, kp_nil⟩, fun L x h => ⟨hz.held h.1, h.2⟩, ?_⟩
            have hz := Stp.refl I31466 w31492
            refine ⟨?_, ?_⟩
            ·
              obtain ⟨x31493, q31494, q31274⟩ := bind_some q31274
              refine ev_call rfl rfl C23 (((rational_Mul_ok n) _ _  (Rational.mk (Int_2.mk x30753.Num.Neg x30817) (Int_2.mk x30753.Den.Neg x30820)) v30818 r30819 v30821 r30822 (Rational.mk (Int_2.mk x30758.Num.Neg x30823) (Int_2.mk x30758.Den.Neg x30826)) v30824 r30825 v30827 r30828 hp.imm _ q31494).mono ?_)
              rintro _ w31495 ⟨I31496, v31497, v31499, hv, hq, r31498, r31500⟩
              replace hv := hv.symm
              subst hv
              have hs := hq.st
              have hp := hp.join0 hq
              replace hz := hz.trans hs
              replace a30772 := a30772.step hs
              replace r30819 := r30819.step hs
              replace r30822 := r30822.step hs
              replace a30777 := a30777.step hs
              replace r30825 := r30825.step hs
              replace r30828 := r30828.step hs
              replace a30782 := a30782.step hs
              replace r30831 := r30831.step hs
              replace r30834 := r30834.step hs
              replace r31468 := r31468.step hs
              replace r31470 := r31470.step hs
              replace tb := tb.step hs
              refine ⟨SK (Stp I31496 w31495 I31496) [] [], ⟨Stp.refl _ _, kp_nil⟩, fun L x h => ⟨hz.held h.1, h.2⟩, ?_⟩
              have hz := Stp.refl I31496 w31495
              refine ⟨?_, trivial⟩
              refine ev_alloc hp rfl T26 ?_
              intro g31501 w31502 hp hs
              replace hz := hz.trans hs
              replace a30772 := a30772.step hs
              replace r30819 := r30819.step hs
              replace r30822 := r30822.step hs
              replace a30777 := a30777.step hs
              replace r30825 := r30825.step hs
              replace r30828 := r30828.step hs
              replace a30782 := a30782.step hs
              replace r30831 := r30831.step hs
              replace r30834 := r30834.step hs
              replace r31468 := r31468.step hs
              replace r31470 := r31470.step hs
              replace r31498 := r31498.step hs
              replace r31500 := r31500.step hs
              replace tb := tb.step hs
              refine ⟨SK (Stp I31496 w31502 I31496) [] [], ⟨Stp.refl _ _, kp_nil⟩, fun L x h => ⟨hz.held h.1, h.2⟩, ?_⟩
              have hz := Stp.refl I31496 w31502
              refine ⟨?_, trivial⟩
              refine ev_storeA hp (i := 1) (off := 0) (vs := [(.bool x31463.Num.Neg), v31467, (.bool x31463.Den.Neg), v31469]) rfl rfl rfl rfl T26 rfl (Nat.le_of_ble_eq_true rfl) (ones_cons rfl (ones_cons r31468.one (ones_cons rfl (ones_cons r31470.one ones_nil)))) ?_
              intro w31503 hp hs
              replace hz := hz.trans hs
              replace a30772 := a30772.step hs
              replace r30819 := r30819.step hs
              replace r30822 := r30822.step hs
              replace a30777 := a30777.step hs
              replace r30825 := r30825.step hs
              replace r30828 := r30828.step hs
              replace a30782 := a30782.step hs
              replace r30831 := r30831.step hs
              replace r30834 := r30834.step hs
              replace r31498 := r31498.step hs
              replace r31500 := r31500.step hs
              replace r31468 := r31468.step hs
              replace r31470 := r31470.step hs
              replace tb := tb.step hs
              refine ⟨SK (Stp I31496 w31503 I31496) [] [], ⟨Stp.refl _ _, kp_nil⟩, fun L x h => ⟨hz.held h.1, h.2⟩, ?_⟩
              have hz := Stp.refl I31496 w31503
              refine ⟨?_, trivial⟩
              refine ev_storeA hp (i := 0) (off := 0) (vs := [(.bool x31493.Num.Neg), v31497, (.bool x31493.Den.Neg), v31499]) rfl rfl rfl rfl T26 rfl (Nat.le_of_ble_eq_true rfl) (ones_cons rfl (ones_cons r31498.one (ones_cons rfl (ones_cons r31500.one ones_nil)))) ?_
              intro w31504 hp hs
              replace hz := hz.trans hs
              replace a30772 := a30772.step hs
              replace r30819 := r30819.step hs
              replace r30822 := r30822.step hs
              replace a30777 := a30777.step hs
              replace r30825 := r30825.step hs
              replace r30828 := r30828.step hs
              replace a30782 := a30782.step hs
              replace r30831 := r30831.step hs
              replace r30834 := r30834.step hs
              replace r31498 := r31498.step hs
              replace r31500 := r31500.step hs
              replace r31468 := r31468.step hs
              replace r31470 := r31470.step hs
              replace tb := tb.step hs
              refine ⟨SK (Stp I31496 w31504 I31496) [] [], ⟨Stp.refl _ _, kp_nil⟩, fun L x h => ⟨hz.held h.1, h.2⟩, ?_⟩
              have hz := Stp.refl I31496 w31504
              obtain rfl := Option.some.inj q31274
              have hp := hp.perm [1, 0] (by decide)
              exact ⟨(x31463.Num.Neg, x31463.Num.Mag, x31463.Den.Neg, x31463.Den.Mag, x31493.Num.Neg, x31493.Num.Mag, x31493.Den.Neg, x31493.Den.Mag, g31491, v31467, v31469, g31501, v31497, v31499, I31496), (.c rfl (.c rfl (.c rfl (.c rfl (.c rfl .n))))), rfl, hp, r30819, r30822, a30772, r30825, r30828, a30777, r30831, r30834, a30782, r31468, r31470, r31498, r31500, tb⟩
            refine ⟨?_, trivial⟩
            refine ev_alloc hp rfl T26 ?_
            intro g31505 w31506 hp hs
            replace hz := hz.trans hs
            replace a30772 := a30772.step hs
            replace r30819 := r30819.step hs
            replace r30822 := r30822.step hs
            replace a30777 := a30777.step hs
            replace r30825 := r30825.step hs
            replace r30828 := r30828.step hs
            replace a30782 := a30782.step hs
            replace r30831 := r30831.step hs
            replace r30834 := r30834.step hs
            replace r31468 := r31468.step hs
            replace r31470 := r31470.step hs
            replace tb := tb.step hs
            refine ⟨SK (Stp I31466 w31506 I31466) [] [], ⟨Stp.refl _ _, kp_nil⟩, fun L x h => ⟨hz.held h.1, h.2⟩, ?_⟩
            have hz := Stp.refl I31466 w31506
            refine ⟨?_, trivial⟩
            obtain ⟨x31507, q31508, q31274⟩ := bind_some q31274
            refine ev_call rfl rfl C23 (((rational_Mul_ok n) _ _  (Rational.mk (Int_2.mk x30753.Num.Neg x30817) (Int_2.mk x30753.Den.Neg x30820)) v30818 r30819 v30821 r30822 (Rational.mk (Int_2.mk x30758.Num.Neg x30823) (Int_2.mk x30758.Den.Neg x30826)) v30824 r30825 v30827 r30828 hp.imm _ q31508).mono ?_)
            rintro _ w31509 ⟨I31510, v31511, v31513, hv, hq, r31512, r31514⟩
            replace hv := hv.symm
            subst hv
            have hs := hq.st
            have hp := hp.join0 hq
            replace hz := hz.trans hs
            replace a30772 := a30772.step hs
            replace r30819 := r30819.step hs
            replace r30822 := r30822.step hs
            replace a30777 := a30777.step hs
            replace r30825 := r30825.step hs
            replace r30828 := r30828.step hs
            replace a30782 := a30782.step hs
            replace r30831 := r30831.step hs
            replace r30834 := r30834.step hs
            replace r31468 := r31468.step hs
            replace r31470 := r31470.step hs
            replace tb := tb.step hs
            refine ⟨SK (Stp I31510 w31509 I31510) [] [], ⟨Stp.refl _ _, kp_nil⟩, fun L x h => ⟨hz.held h.1, h.2⟩, ?_⟩
            have hz := Stp.refl I31510 w31509
            refine ⟨?_, trivial⟩
            refine ev_storeA hp (i := 1) (off := 0) (vs := [(.bool x31463.Num.Neg), v31467, (.bool x31463.Den.Neg), v31469]) rfl rfl rfl rfl T26 rfl (Nat.le_of_ble_eq_true rfl) (ones_cons rfl (ones_cons r31468.one (ones_cons rfl (ones_cons r31470.one ones_nil)))) ?_
            intro w31515 hp hs
            replace hz := hz.trans hs
            replace a30772 := a30772.step hs
            replace r30819 := r30819.step hs
            replace r30822 := r30822.step hs
            replace a30777 := a30777.step hs
            replace r30825 := r30825.step hs
            replace r30828 := r30828.step hs
            replace a30782 := a30782.step hs
            replace r30831 := r30831.step hs
            replace r30834 := r30834.step hs
            replace r31512 := r31512.step hs
            replace r31514 := r31514.step hs
            replace r31468 := r31468.step hs
            replace r31470 := r31470.step hs
            replace tb := tb.step hs
            refine ⟨SK (Stp I31510 w31515 I31510) [] [], ⟨Stp.refl _ _, kp_nil⟩, fun L x h => ⟨hz.held h.1, h.2⟩, ?_⟩
            have hz := Stp.refl I31510 w31515
            refine ⟨?_, trivial⟩
            refine ev_storeA hp (i := 0) (off := 0) (vs := [(.bool x31507.Num.Neg), v31511, (.bool x31507.Den.Neg), v31513]) rfl rfl rfl rfl T26 rfl (Nat.le_of_ble_eq_true rfl) (ones_cons rfl (ones_cons r31512.one (ones_cons rfl (ones_cons r31514.one ones_nil)))) ?_
            intro w31516 hp hs
            replace hz := hz.trans hs
            replace a30772 := a30772.step hs
            replace r30819 := r30819.step hs
            replace r30822 := r30822.step hs
            replace a30777 := a30777.step hs
            replace r30825 := r30825.step hs
            replace r30828 := r30828.step hs
            replace a30782 := a30782.step hs
            replace r30831 := r30831.step hs
            replace r30834 := r30834.step hs
            replace r31512 := r31512.step hs
            replace r31514 := r31514.step hs
            replace r31468 := r31468.step hs
            replace r31470 := r31470.step hs
            replace tb := tb.step hs
            refine ⟨SK (Stp I31510 w31516 I31510) [] [], ⟨Stp.refl _ _, kp_nil⟩, fun L x h => ⟨hz.held h.1, h.2⟩, ?_⟩
            have hz := Stp.refl I31510 w31516
            obtain rfl := Option.some.inj q31274
            have hp := hp.perm [1, 0] (by decide)
            exact ⟨(x31463.Num.Neg, x31463.Num.Mag, x31463.Den.Neg, x31463.Den.Mag, x31507.Num.Neg, x31507.Num.Mag, x31507.Den.Neg, x31507.Den.Mag, g31491, v31467, v31469, g31505, v31511, v31513, I31510), (.c rfl (.c rfl (.c rfl (.c rfl (.c rfl .n))))), rfl, hp, r30819, r30822, a30772, r30825, r30828, a30777, r30831, r30834, a30782, r31468, r31470, r31512, r31514, tb⟩
          refine ⟨?_, trivial⟩
          refine ev_alloc hp rfl T26 ?_
          intro g31517 w31518 hp hs
          replace hz := hz.trans hs
          replace a30772 := a30772.step hs
          replace r30819 := r30819.step hs
          replace r30822 := r30822.step hs
          replace a30777 := a30777.step hs
          replace r30825 := r30825.step hs
          replace r30828 := r30828.step hs
          replace a30782 := a30782.step hs
          replace r30831 := r30831.step hs
          replace r30834 := r30834.step hs
          replace r31468 := r31468.step hs
          replace r31470 := r31470.step hs
          replace tb := tb.step hs
          refine ⟨SK (Stp I31466 w31518 I31466) [] [], ⟨Stp.refl _ _, kp_nil⟩, fun L x h => ⟨hz.held h.1, h.2⟩, ?_⟩
          have hz := Stp.refl I31466 w31518
          refine ⟨?_, ?_⟩
          ·
            obtain ⟨x31519, q31520, q31274⟩ := bind_some q31274
            refine ev_call rfl rfl C23 (((rational_Mul_ok n) _ _  (Rational.mk (Int_2.mk x30753.Num.Neg x30817) (Int_2.mk x30753.Den.Neg x30820)) v30818 r30819 v30821 r30822 (Rational.mk (Int_2.mk x30758.Num.Neg x30823) (Int_2.mk x30758.Den.Neg x30826)) v30824 r30825 v30827 r30828 hp.imm _ q31520).mono ?_)
            rintro _ w31521 ⟨I31522, v31523, v31525, hv, hq, r31524, r31526⟩
            replace hv := hv.symm
            subst hv
            have hs := hq.st
            have hp := hp.join0 hq
            replace hz := hz.trans hs
            replace a30772 := a30772.step hs
            replace r30819 := r30819.step hs
            replace r30822 := r30822.step hs
            replace a30777 := a30777.step hs
            replace r30825 := r30825.step hs
            replace r30828 := r30828.step hs
            replace a30782 := a30782.step hs
            replace r30831 := r30831.step hs
            replace r30834 := r30834.step hs
            replace r31468 := r31468.step hs
            replace r31470 := r31470.step hs
            replace tb := tb.step hs
            refine ⟨SK (Stp I31522 w31521 I31522) [] [], ⟨Stp.refl _ _, kp_nil⟩, fun L x h => ⟨hz.held h.1, h.2⟩, ?_⟩
            have hz := Stp.refl I31522 w31521
            refine ⟨?_, trivial⟩
            refine ev_alloc hp rfl T26 ?_
            intro g31527 w31528 hp hs
            replace hz := hz.trans hs
            replace a30772 := a30772.step hs
            replace r30819 := r30819.step hs
            replace r30822 := r30822.step hs
            replace a30777 := a30777.step hs
            replace r30825 := r30825.step hs
            replace r30828 := r30828.step hs
            replace a30782 := a30782.step hs
            replace r30831 := r30831.step hs
            replace r30834 := r30834.step hs
            replace r31468 := r31468.step hs
            replace r31470 := r31470.step hs
            replace r31524 := r31524.step hs
            replace r31526 := r31526.step hs
            replace tb := tb.step hs
            refine ⟨SK (Stp I31522 w31528 I31522) [] [], ⟨Stp.refl _ _, kp_nil⟩, fun L x h => ⟨hz.held h.1, h.2⟩, ?_⟩
            have hz := Stp.refl I31522 w31528
            refine ⟨?_, trivial⟩
            refine ev_storeA hp (i := 0) (off := 0) (vs := [(.bool x31463.Num.Neg), v31467, (.bool x31463.Den.Neg), v31469]) rfl rfl rfl rfl T26 rfl (Nat.le_of_ble_eq_true rfl) (ones_cons rfl (ones_cons r31468.one (ones_cons rfl (ones_cons r31470.one ones_nil)))) ?_
            intro w31529 hp hs
            replace hz := hz.trans hs
            replace a30772 := a30772.step hs
            replace r30819 := r30819.step hs
            replace r30822 := r30822.step hs
            replace a30777 := a30777.step hs
            replace r30825 := r30825.step hs
            replace r30828 := r30828.step hs
            replace a30782 := a30782.step hs
            replace r30831 := r30831.step hs
            replace r30834 := r30834.step hs
            replace r31524 := r31524.step hs
            replace r31526 := r31526.step hs
            replace r31468 := r31468.step hs
            replace r31470 := r31470.step hs
            replace tb := tb.step hs
            refine ⟨SK (Stp I31522 w31529 I31522) [] [], ⟨Stp.refl _ _, kp_nil⟩, fun L x h => ⟨hz.held h.1, h.2⟩, ?_⟩
            have hz := Stp.refl I31522 w31529
            refine ⟨?_, trivial⟩
            refine ev_storeA hp (i := 1) (off := 0) (vs := [(.bool x31519.Num.Neg), v31523, (.bool x31519.Den.Neg), v31525]) rfl rfl rfl rfl T26 rfl (Nat.le_of_ble_eq_true rfl) (ones_cons rfl (ones_cons r31524.one (ones_cons rfl (ones_cons r31526.one ones_nil)))) ?_
            intro w31530 hp hs
            replace hz := hz.trans hs
            replace a30772 := a30772.step hs
            replace r30819 := r30819.step hs
            replace r30822 := r30822.step hs
            replace a30777 := a30777.step hs
            replace r30825 := r30825.step hs
            replace r30828 := r30828.step hs
            replace a30782 := a30782.step hs
            replace r30831 := r30831.step hs
            replace r30834 := r30834.step hs
            replace r31468 := r31468.step hs
            replace r31470 := r31470.step hs
            replace r31524 := r31524.step hs
            replace r31526 := r31526.step hs
            replace tb := tb.step hs
            refine ⟨SK (Stp I31522 w31530 I31522) [] [], ⟨Stp.refl _ _, kp_nil⟩, fun L x h => ⟨hz.held h.1, h.2⟩, ?_⟩
            have hz := Stp.refl I31522 w31530
            obtain rfl := Option.some.inj q31274
            exact ⟨(x31463.Num.Neg, x31463.Num.Mag, x31463.Den.Neg, x31463.Den.Mag, x31519.Num.Neg, x31519.Num.Mag, x31519.Den.Neg, x31519.Den.Mag, g31527, v31467, v31469, g31517, v31523, v31525, I31522), (.c rfl (.c rfl (.c rfl (.c rfl (.c rfl .n))))), rfl, hp, r30819, r30822, a30772, r30825, r30828, a30777, r30831, r30834, a30782, r31468, r31470, r31524, r31526, tb⟩
          refine ⟨?_, trivial⟩
          refine ev_alloc hp rfl T26 ?_
          intro g31531 w31532 hp hs
          replace hz := hz.trans hs
          replace a30772 := a30772.step hs
          replace r30819 := r30819.step hs
          replace r30822 := r30822.step hs
          replace a30777 := a30777.step hs
          replace r30825 := r30825.step hs
          replace r30828 := r30828.step hs
          replace a30782 := a30782.step hs
          replace r30831 := r30831.step hs
          replace r30834 := r30834.step hs
          replace r31468 := r31468.step hs
          replace r31470 := r31470.step hs
          replace tb := tb.step hs
          refine ⟨SK (Stp I31466 w31532 I31466) [] [], ⟨Stp.refl _ _, kp_nil⟩, fun L x h => ⟨hz.held h.1, h.2⟩, ?_⟩
          have hz := Stp.refl I31466 w31532
          refine ⟨?_, trivial⟩
          obtain ⟨x31533, q31534, q31274⟩ := bind_some q31274
          refine ev_call rfl rfl C23 (((rational_Mul_ok n) _ _  (Rational.mk (Int_2.mk x30753.Num.Neg x30817) (Int_2.mk x30753.Den.Neg x30820)) v30818 r30819 v30821 r30822 (Rational.mk (Int_2.mk x30758.Num.Neg x30823) (Int_2.mk x30758.Den.Neg x30826)) v30824 r30825 v30827 r30828 hp.imm _ q31534).mono ?_)
          rintro _ w31535 ⟨I31536, v31537, v31539, hv, hq, r31538, r31540⟩
          replace hv := hv.symm
          subst hv
          have hs := hq.st
          have hp := hp.join0 hq
          replace hz := hz.trans hs
          replace a30772 := a30772.step hs
          replace r30819 := r30819.step hs
          replace r30822 := r30822.step hs
          replace a30777 := a30777.step hs
          replace r30825 := r30825.step hs
          replace r30828 := r30828.step hs
          replace a30782 := a30782.step hs
          replace r30831 := r30831.step hs
          replace r30834 := r30834.step hs
          replace r31468 := r31468.step hs
          replace r31470 := r31470.step hs
          replace tb := tb.step hs
          refine ⟨SK (Stp I31536 w31535 I31536) [] [], ⟨Stp.refl _ _, kp_nil⟩, fun L x h => ⟨hz.held h.1, h.2⟩, ?_⟩
          have hz := Stp.refl I31536 w31535
          refine ⟨?_, trivial⟩
          refine ev_storeA hp (i := 0) (off := 0) (vs := [(.bool x31463.Num.Neg), v31467, (.bool x31463.Den.Neg), v31469]) rfl rfl rfl rfl T26 rfl (Nat.le_of_ble_eq_true rfl) (ones_cons rfl (ones_cons r31468.one (ones_cons rfl (ones_cons r31470.one ones_nil)))) ?_
          intro w31541 hp hs
          replace hz := hz.trans hs
          replace a30772 := a30772.step hs
          replace r30819 := r30819.step hs
          replace r30822 := r30822.step hs
          replace a30777 := a30777.step hs
          replace r30825 := r30825.step hs
          replace r30828 := r30828.step hs
          replace a30782 := a30782.step hs
          replace r30831 := r30831.step hs
          replace r30834 := r30834.step hs
          replace r31538 := r31538.step hs
          replace r31540 := r31540.step hs
          replace r31468 := r31468.step hs
          replace r31470 := r31470.step hs
          replace tb := tb.step hs
          refine ⟨SK (Stp I31536 w31541 I31536) [] [], ⟨Stp.refl _ _, kp_nil⟩, fun L x h => ⟨hz.held h.1, h.2⟩, ?_⟩
          have hz := Stp.refl I31536 w31541
          refine ⟨?_, trivial⟩
          refine ev_storeA hp (i := 1) (off := 0) (vs := [(.bool x31533.Num.Neg), v31537, (.bool x31533.Den.Neg), v31539]) rfl rfl rfl rfl T26 rfl (Nat.le_of_ble_eq_true rfl) (ones_cons rfl (ones_cons r31538.one (ones_cons rfl (ones_cons r31540.one ones_nil)))) ?_
          intro w31542 hp hs
          replace hz := hz.trans hs
          replace a30772 := a30772.step hs
          replace r30819 := r30819.step hs
          replace r30822 := r30822.step hs
          replace a30777 := a30777.step hs
          replace r30825 := r30825.step hs
          replace r30828 := r30828.step hs
          replace a30782 := a30782.step hs
          replace r30831 := r30831.step hs
          replace r30834 := r30834.step hs
          replace r31468 := r31468.step hs
          replace r31470 := r31470.step hs
          replace r31538 := r31538.step hs
          replace r31540 := r31540.step hs
          replace tb := tb.step hs
          refine ⟨SK (Stp I31536 w31542 I31536) [] [], ⟨Stp.refl _ _, kp_nil⟩, fun L x h => ⟨hz.held h.1, h.2⟩, ?_⟩
          have hz := Stp.refl I31536 w31542
          obtain rfl := Option.some.inj q31274
          exact ⟨(x31463.Num.Neg, x31463.Num.Mag, x31463.Den.Neg, x31463.Den.Mag, x31533.Num.Neg, x31533.Num.Mag, x31533.Den.Neg, x31533.Den.Mag, g31531, v31467, v31469, g31517, v31537, v31539, I31536), (.c rfl (.c rfl (.c rfl (.c rfl (.c rfl .n))))), rfl, hp, r30819, r30822, a30772, r30825, r30828, a30777, r30831, r30834, a30782, r31468, r31470, r31538, r31540, tb⟩
        refine ⟨?_, ?_⟩
        ·
          refine ev_alloc hp rfl T26 ?_
          intro g31543 w31544 hp hs
          replace hz := hz.trans hs
          replace a30772 := a30772.step hs
          replace r30819 := r30819.step hs
          replace r30822 := r30822.step hs
          replace a30777 := a30777.step hs
          replace r30825 := r30825.step hs
          replace r30828 := r30828.step hs
          replace a30782 := a30782.step hs
          replace r30831 := r30831.step hs
          replace r30834 := r30834.step hs
          replace tb := tb.step hs
          refine ⟨SK (Stp I30836 w31544 I30836) [] [], ⟨Stp.refl _ _, kp_nil⟩, fun L x h => ⟨hz.held h.1, h.2⟩, ?_⟩
          have hz := Stp.refl I30836 w31544
          refine ⟨?_, ?_⟩
          ·
            obtain ⟨x31545, q31546, q31274⟩ := bind_some q31274
            refine ev_call rfl rfl C19 (((rational_Add_ok n) _ _  (Rational.mk (Int_2.mk x30753.Num.Neg x30817) (Int_2.mk x30753.Den.Neg x30820)) v30818 r30819 v30821 r30822 (Rational.mk (Int_2.mk x30758.Num.Neg x30823) (Int_2.mk x30758.Den.Neg x30826)) v30824 r30825 v30827 r30828 hp.imm _ q31546).mono ?_)
            rintro _ w31547 ⟨I31548, v31549, v31551, hv, hq, r31550, r31552⟩
            replace hv := hv.symm
            subst hv
            have hs := hq.st
            have hp := hp.join0 hq
            replace hz := hz.trans hs
            replace a30772 := a30772.step hs
            replace r30819 := r30819.step hs
            replace r30822 := r30822.step hs
            replace a30777 := a30777.step hs
            replace r30825 := r30825.step hs
            replace r30828 := r30828.step hs
            replace a30782 := a30782.step hs
            replace r30831 := r30831.step hs
            replace r30834 := r30834.step hs
            replace tb := tb.step hs
            refine ⟨SK (Stp I31548 w31547 I31548) [] [], ⟨Stp.refl _ _, kp_nil⟩, fun L x h => ⟨hz.held h.1, h.2⟩, ?_⟩
            have hz := Stp.refl I31548 w31547
            refine ⟨?_, ?_⟩
            ·
              obtain ⟨x31553, q31554, q31274⟩ := bind_some q31274
              refine ev_call rfl rfl C23 (((rational_Mul_ok n) _ _  (Rational.mk (Int_2.mk x30753.Num.Neg x30817) (Int_2.mk x30753.Den.Neg x30820)) v30818 r30819 v30821 r30822 (Rational.mk (Int_2.mk x30758.Num.Neg x30823) (Int_2.mk x30758.Den.Neg x30826)) v30824 r30825 v30827 r30828 hp.imm _ q31554).mono ?_)
              rintro _ w31555 ⟨I31556, v31557, v31559, hv, hq, r31558, r31560⟩
              replace hv := hv.symm
              subst hv
              have hs := hq.st
              have hp := hp.join0 hq
              replace hz := hz.trans hs
              replace a30772 := a30772.step hs
              replace r30819 := r30819.step hs
              replace r30822 := r30822.step hs
              replace a30777 := a30777.step hs
              replace r30825 := r30825.step hs
              replace r30828 := r30828.step hs
              replace a30782 := a30782.step hs
              replace r30831 := r30831.step hs
              replace r30834 := r30834.step hs
              replace r31550 := r31550.step hs
              replace r31552 := r31552.step hs
              replace tb := tb.step hs
              refine ⟨SK (Stp I31556 w31555 I31556) [] [], ⟨Stp.refl _ _, kp_nil⟩, fun L x h => ⟨hz.held h.1, h.2⟩, ?_⟩
              have hz := Stp.refl I31556 w31555
              refine ⟨?_, trivial⟩
              refine ev_alloc hp rfl T26 ?_
              intro g31561 w31562 hp hs
              replace hz := hz.trans hs
              replace a30772 := a30772.step hs
              replace r30819 := r30819.step hs
              replace r30822 := r30822.step hs
              replace a30777 := a30777.step hs
              replace r30825 := r30825.step hs
              replace r30828 := r30828.step hs
              replace a30782 := a30782.step hs
              replace r30831 := r30831.step hs
              replace r30834 := r30834.step hs
              replace r31550 := r31550.step hs
              replace r31552 := r31552.step hs
              replace r31558 := r31558.step hs
              replace r31560 := r31560.step hs
              replace tb := tb.step hs
              refine ⟨SK (Stp I31556 w31562 I31556) [] [], ⟨Stp.refl _ _, kp_nil⟩, fun L x h => ⟨hz.held h.1, h.2⟩, ?_⟩
              have hz := Stp.refl I31556 w31562
              refine ⟨?_, trivial⟩
              refine ev_storeA hp (i := 1) (off := 0) (vs := [(.bool x31545.Num.Neg), v31549, (.bool x31545.Den.Neg), v31551]) rfl rfl rfl rfl T26 rfl (Nat.le_of_ble_eq_true rfl) (ones_cons rfl (ones_cons r31550.one (ones_cons rfl (ones_cons r31552.one ones_nil)))) ?_
              intro w31563 hp hs
              replace hz := hz.trans hs
              replace a30772 := a30772.step hs
              replace r30819 := r30819.step hs
              replace r30822 := r30822.step hs
              replace a30777 := a30777.step hs
              replace r30825 := r30825.step hs
              replace r30828 := r30828.step hs
              replace a30782 := a30782.step hs
              replace r30831 := r30831.step hs
              replace r30834 := r30834.step hs
              replace r31558 := r31558.step hs
              replace r31560 := r31560.step hs
              replace r31550 := r31550.step hs
              replace r31552 := r31552.step hs
              replace tb := tb.step hs
              refine ⟨SK (Stp I31556 w31563 I31556) [] [], ⟨Stp.refl _ _, kp_nil⟩, fun L x h => ⟨hz.held h.1, h.2⟩, ?_⟩
              have hz := Stp.refl I31556 w31563
              refine ⟨?_, trivial⟩
              refine ev_storeA hp (i := 0) (off := 0) (vs := [(.bool x31553.Num.Neg), v31557, (.bool x31553.Den.Neg), v31559]) rfl rfl rfl rfl T26 rfl (Nat.le_of_ble_eq_true rfl) (ones_cons rfl (ones_cons r31558.one (ones_cons rfl (ones_cons r31560.one ones_nil)))) ?_
              intro w31564 hp hs
              replace hz := hz.trans hs
              replace a30772 := a30772.step hs
              replace r30819 := r30819.step hs
              replace r30822 := r30822.step hs
              replace a30777 := a30777.step hs
              replace r30825 := r30825.step hs
              replace r30828 := r30828.step hs
              replace a30782 := a30782.step hs
              replace r30831 := r30831.step hs
              replace r30834 := r30834.step hs
              replace r31558 := r31558.step hs
              replace r31560 := r31560.step hs
              replace r31550 := r31550.step hs
              replace r31552 := r31552.step hs
              replace tb := tb.step hs
              refine ⟨SK (Stp I31556 w31564 I31556) [] [], ⟨Stp.refl _ _, kp_nil⟩, fun L x h => ⟨hz.held h.1, h.2⟩, ?_⟩
              have hz := Stp.refl I31556 w31564
              obtain rfl := Option.some.inj q31274
              have hp := hp.perm [1, 0] (by decide)
              exact ⟨(x31545.Num.Neg, x31545.Num.Mag, x31545.Den.Neg, x31545.Den.Mag, x31553.Num.Neg, x31553.Num.Mag, x31553.Den.Neg, x31553.Den.Mag, g31543, v31549, v31551, g31561, v31557, v31559, I31556), (.c rfl (.c rfl (.c rfl (.c rfl (.c rfl .n))))), rfl, hp, r30819, r30822, a30772, r30825, r30828, a30777, r30831, r30834, a30782, r31550, r31552, r31558, r31560, tb⟩
            refine ⟨?_, trivial⟩
            refine ev_alloc hp rfl T26 ?_
            intro g31565 w31566 hp hs
            replace hz := hz.trans hs
            replace a30772 := a30772.step hs
            replace r30819 := r30819.step hs
            replace r30822 := r30822.step hs
            replace a30777 := a30777.step hs
            replace r30825 := r30825.step hs
            replace r30828 := r30828.step hs
            replace a30782 := a30782.step hs
            replace r30831 := r30831.step hs
            replace r30834 := r30834.step hs
            replace r31550 := r31550.step hs
            replace r31552 := r31552.step hs
            replace tb := tb.step hs
            refine ⟨SK (Stp I31548 w31566 I31548) [] [], ⟨Stp.refl _ _, kp_nil⟩, fun L x h => ⟨hz.held h.1, h.2⟩, ?_⟩
            have hz := Stp.refl I31548 w31566
            refine ⟨?_, trivial⟩
            obtain ⟨x31567, q31568, q31274⟩ := bind_some q31274
            refine ev_call rfl rfl C23 (((rational_Mul_ok n) _ _  (Rational.mk (Int_2.mk x30753.Num.Neg x30817) (Int_2.mk x30753.Den.Neg x30820)) v30818 r30819 v30821 r30822 (Rational.mk (Int_2.mk x30758.Num.Neg x30823) (Int_2.mk x30758.Den.Neg x30826)) v30824 r30825 v30827 r30828 hp.imm _ q31568).mono ?_)
            rintro _ w31569 ⟨I31570, v31571, v31573, hv, hq, r31572, r31574⟩
            replace hv := hv.symm
            subst hv
            have hs := hq.st
            have hp := hp.join0 hq
            replace hz := hz.trans hs
            replace a30772 := a30772.step hs
            replace r30819 := r30819.step hs
            replace r30822 := r30822.step hs
            replace a30777 := a30777.step hs
            replace r30825 := r30825.step hs
            replace r30828 := r30828.step hs
            replace a30782 := a30782.step hs
            replace r30831 := r30831.step hs
            replace r30834 := r30834.step hs
            replace r31550 := r31550.step hs
            replace r31552 := r31552.step hs
            replace tb := tb.step hs
            refine ⟨SK (Stp I31570 w31569 I31570) [] [], ⟨Stp.refl _ _, kp_nil⟩, fun L x h => ⟨hz.held h.1, h.2⟩, ?_⟩
            have hz := Stp.refl I31570 w31569
            refine ⟨?_, trivial⟩
            refine ev_storeA hp (i := 1) (off := 0) (vs := [(.bool x31545.Num.Neg), v31549, (.bool x31545.Den.Neg), v31551]) rfl rfl rfl rfl T26 rfl (Nat.le_of_ble_eq_true rfl) (ones_cons rfl (ones_cons r31550.one (ones_cons rfl (ones_cons r31552.one ones_nil)))) ?_
            intro w31575 hp hs
            replace hz := hz.trans hs
            replace a30772 := a30772.step hs
            replace r30819 := r30819.step hs
            replace r30822 := r30822.step hs
            replace a30777 := a30777.step hs
            replace r30825 := r30825.step hs
            replace r30828 := r30828.step hs
            replace a30782 := a30782.step hs
            replace r30831 := r30831.step hs
            replace r30834 := r30834.step hs
            replace r31572 := r31572.step hs
            replace r31574 := r31574.step hs
            replace r31550 := r31550.step hs
            replace r31552 := r31552.step hs
            replace tb := tb.step hs
            refine ⟨SK (Stp I31570 w31575 I31570) [] [], ⟨Stp.refl _ _, kp_nil⟩, fun L x h => ⟨hz.held h.1, h.2⟩, ?_⟩
            have hz := Stp.refl I31570 w31575
            refine ⟨?_, trivial⟩
            refine ev_storeA hp (i := 0) (off := 0) (vs := [(.bool x31567.Num.Neg), v31571, (.bool x31567.Den.Neg), v31573]) rfl rfl rfl rfl T26 rfl (Nat.le_of_ble_eq_true rfl) (ones_cons rfl (ones_cons r31572.one (ones_cons rfl (ones_cons r31574.one ones_nil)))) ?_
            intro w31576 hp hs
            replace hz := hz.trans hs
            replace a30772 := a30772.step hs
            replace r30819 := r30819.step hs
            replace r30822 := r30822.step hs
            replace a30777 := a30777.step hs
            replace r30825 := r30825.step hs
            replace r30828 := r30828.step hs
            replace a30782 := a30782.step hs
            replace r30831 := r30831.step hs
            replace r30834 := r30834.step hs
            replace r31572 := r31572.step hs
            replace r31574 := r31574.step hs
            replace r31550 := r31550.step hs
            replace r31552 := r31552.step hs
            replace tb := tb.step hs
            refine ⟨SK (Stp I31570 w31576 I31570) [] [], ⟨Stp.refl _ _, kp_nil⟩, fun L x h => ⟨hz.held h.1, h.2⟩, ?_⟩
            have hz := Stp.refl I31570 w31576
            obtain rfl := Option.some.inj q31274
            have hp := hp.perm [1, 0] (by decide)
            exact ⟨(x31545.Num.Neg, x31545.Num.Mag, x31545.Den.Neg, x31545.Den.Mag, x31567.Num.Neg, x31567.Num.Mag, x31567.Den.Neg, x31567.Den.Mag, g31543, v31549, v31551, g31565, v31571, v31573, I31570), (.c rfl (.c rfl (.c rfl (.c rfl (.c rfl .n))))), rfl, hp, r30819, r30822, a30772, r30825, r30828, a30777, r30831, r30834, a30782, r31550, r31552, r31572, r31574, tb⟩
          refine ⟨?_, trivial⟩
          refine ev_alloc hp rfl T26 ?_
          intro g31577 w31578 hp hs
          replace hz := hz.trans hs
          replace a30772 := a30772.step hs
          replace r30819 := r30819.step hs
          replace r30822 := r30822.step hs
          replace a30777 := a30777.step hs
          replace r30825 := r30825.step hs
          replace r30828 := r30828.step hs
          replace a30782 := a30782.step hs
          replace r30831 := r30831.step hs
          replace r30834 := r30834.step hs
          replace tb := tb.step hs
          refine ⟨SK (Stp I30836 w31578 I30836) [] [], ⟨Stp.refl _ _, kp_nil⟩, fun L x h => ⟨hz.held h.1, h.2⟩, ?_⟩
          have hz := Stp.refl I30836 w31578
          refine ⟨?_, trivial⟩
          obtain ⟨x31579, q31580, q31274⟩ := bind_some q31274
          refine ev_call rfl rfl C19 (((rational_Add_ok n) _ _  (Rational.mk (Int_2.mk x30753.Num.Neg x30817) (Int_2.mk x30753.Den.Neg x30820)) v30818 r30819 v30821 r30822 (Rational.mk (Int_2.mk x30758.Num.Neg x30823) (Int_2.mk x30758.Den.Neg x30826)) v30824 r30825 v30827 r30828 hp.imm _ q31580).mono ?_)
          rintro _ w31581 ⟨I31582, v31583, v31585, hv, hq, r31584, r31586⟩
          replace hv := hv.symm
          subst hv
          have hs := hq.st
          have hp := hp.join0 hq
          replace hz := hz.trans hs
          replace a30772 := a30772.step hs
          replace r30819 := r30819.step hs
          replace r30822 := r30822.step hs
          replace a30777 := a30777.step hs
          replace r30825 := r30825.step hs
          replace r30828 := r30828.step hs
          replace a30782 := a30782.step hs
          replace r30831 := r30831.step hs
          replace r30834 := r30834.step hs
          replace tb := tb.step hs
          refine ⟨SK (Stp I31582 w31581 I31582) [] [], ⟨Stp.refl _ _, kp_nil⟩, fun L x h => ⟨hz.held h.1, h.2⟩, ?_⟩
          have hz := Stp.refl I31582 w31581
          refine ⟨?_, trivial⟩
          obtain ⟨x31587, q31588, q31274⟩ := bind_some q31274
          refine ev_call rfl rfl C23 (((rational_Mul_ok n) _ _  (Rational.mk (Int_2.mk x30753.Num.Neg x30817) (Int_2.mk x30753.Den.Neg x30820)) v30818 r30819 v30821 r30822 (Rational.mk (Int_2.mk x30758.Num.Neg x30823) (Int_2.mk x30758.Den.Neg x30826)) v30824 r30825 v30827 r30828 hp.imm _ q31588).mono ?_)
          rintro _ w31589 ⟨I31590, v31591, v31593, hv, hq, r31592, r31594⟩
          replace hv := hv.symm
          subst hv
          have hs := hq.st
          have hp := hp.join0 hq
          replace hz := hz.trans hs
          replace a30772 := a30772.step hs
          replace r30819 := r30819.step hs
          replace r30822 := r30822.step hs
          replace a30777 := a30777.step hs
          replace r30825 := r30825.step hs
          replace r30828 := r30828.step hs
          replace a30782 := a30782.step hs
          replace r30831 := r30831.step hs
          replace r30834 := r30834.step hs
          replace r31584 := r31584.step hs
          replace r31586 := r31586.step hs
          replace tb := tb.step hs
          refine ⟨SK (Stp I31590 w31589 I31590) [] [], ⟨Stp.refl _ _, kp_nil⟩, fun L x h => ⟨hz.held h.1, h.2⟩, ?_⟩
          have hz := Stp.refl I31590 w31589
          refine ⟨?_, trivial⟩
          refine ev_storeA hp (i := 1) (off := 0) (vs := [(.bool x31579.Num.Neg), v31583, (.bool x31579.Den.Neg), v31585]) rfl rfl rfl rfl T26 rfl (Nat.le_of_ble_eq_true rfl) (ones_cons rfl (ones_cons r31584.one (ones_cons rfl (ones_cons r31586.one ones_nil)))) ?_
          intro w31595 hp hs
          replace hz := hz.trans hs
          replace a30772 := a30772.step hs
          replace r30819 := r30819.step hs
          replace r30822 := r30822.step hs
          replace a30777 := a30777.step hs
          replace r30825 := r30825.step hs
          replace r30828 := r30828.step hs
          replace a30782 := a30782.step hs
          replace r30831 := r30831.step hs
          replace r30834 := r30834.step hs
          replace r31592 := r31592.step hs
          replace r31594 := r31594.step hs
          replace r31584 := r31584.step hs
          replace r31586 := r31586.step hs
          replace tb := tb.step hs
          refine ⟨SK (Stp I31590 w31595 I31590) [] [], ⟨Stp.refl _ _, kp_nil⟩, fun L x h => ⟨hz.held h.1, h.2⟩, ?_⟩
          have hz := Stp.refl I31590 w31595
          refine ⟨?_, trivial⟩
          refine ev_storeA hp (i := 0) (off := 0) (vs := [(.bool x31587.Num.Neg), v31591, (.bool x31587.Den.Neg), v31593]) rfl rfl rfl rfl T26 rfl (Nat.le_of_ble_eq_true rfl) (ones_cons rfl (ones_cons r31592.one (ones_cons rfl (ones_cons r31594.one ones_nil)))) ?_
          intro w31596 hp hs
          replace hz := hz.trans hs
          replace a30772 := a30772.step hs
          replace r30819 := r30819.step hs
          replace r30822 := r30822.step hs
          replace a30777 := a30777.step hs
          replace r30825 := r30825.step hs
          replace r30828 := r30828.step hs
          replace a30782 := a30782.step hs
          replace r30831 := r30831.step hs
          replace r30834 := r30834.step hs
          replace r31592 := r31592.step hs
          replace r31594 := r31594.step hs
          replace r31584 := r31584.step hs
          replace r31586 := r31586.step hs
          replace tb := tb.step hs
          refine ⟨SK (Stp I31590 w31596 I31590) [] [], ⟨Stp.refl _ _, kp_nil⟩, fun L x h => ⟨hz.held h.1, h.2⟩, ?_⟩
          have hz := Stp.refl I31590 w31596
          obtain rfl := Option.some.inj q31274
          have hp := hp.perm [1, 0] (by decide)
          exact ⟨(x31579.Num.Neg, x31579.Num.Mag, x31579.Den.Neg, x31579.Den.Mag, x31587.Num.Neg, x31587.Num.Mag, x31587.Den.Neg, x31587.Den.Mag, g31543, v31583, v31585, g31577, v31591, v31593, I31590), (.c rfl (.c rfl (.c rfl (.c rfl (.c rfl .n))))), rfl, hp, r30819, r30822, a30772, r30825, r30828, a30777, r30831, r30834, a30782, r31584, r31586, r31592, r31594, tb⟩
        refine ⟨?_, trivial⟩
        refine ev_alloc hp rfl T26 ?_
        intro g31597 w31598 hp hs
        replace hz := hz.trans hs
        replace a30772 := a30772.step hs
        replace r30819 := r30819.step hs
        replace r30822 := r30822.step hs
        replace a30777 := a30777.step hs
        replace r30825 := r30825.step hs
        replace r30828 := r30828.step hs
        replace a30782 := a30782.step hs
        replace r30831 := r30831.step hs
        replace r30834 := r30834.step hs
        replace tb := tb.step hs
        refine ⟨SK (Stp I30836 w31598 I30836) [] [], ⟨Stp.refl _ _, kp_nil⟩, fun L x h => ⟨hz.held h.1, h.2⟩, ?_⟩
        have hz := Stp.refl I30836 w31598
        refine ⟨?_, ?_⟩
        ·
          obtain ⟨x31599, q31600, q31274⟩ := bind_some q31274
          refine ev_call rfl rfl C19 (((rational_Add_ok n) _ _  (Rational.mk (Int_2.mk x30753.Num.Neg x30817) (Int_2.mk x30753.Den.Neg x30820)) v30818 r30819 v30821 r30822 (Rational.mk (Int_2.mk x30758.Num.Neg x30823) (Int_2.mk x30758.Den.Neg x30826)) v30824 r30825 v30827 r30828 hp.imm _ q31600).mono ?_)
          rintro _ w31601 ⟨I31602, v31603, v31605, hv, hq, r31604, r31606⟩
          replace hv := hv.symm
          subst hv
          have hs := hq.st
          have hp := hp.join0 hq
          replace hz := hz.trans hs
          replace a30772 := a30772.step hs
          replace r30819 := r30819.step hs
          replace r30822 := r30822.step hs
          replace a30777 := a30777.step hs
          replace r30825 := r30825.step hs
          replace r30828 := r30828.step hs
          replace a30782 := a30782.step hs
          replace r30831 := r30831.step hs
          replace r30834 := r30834.step hs
          replace tb := tb.step hs
          refine ⟨SK (Stp I31602 w31601 I31602) [] [], ⟨Stp.refl _ _, kp_nil⟩, fun L x h => ⟨hz.held h.1, h.2⟩, ?_⟩
          have hz := Stp.refl I31602 w31601
          refine ⟨?_, ?_⟩
          ·
            obtain ⟨x31607, q31608, q31274⟩ := bind_some q31274
            refine ev_call rfl rfl C23 (((rational_Mul_ok n) _ _  (Rational.mk (Int_2.mk x30753.Num.Neg x30817) (Int_2.mk x30753.Den.Neg x30820)) v30818 r30819 v30821 r30822 (Rational.mk (Int_2.mk x30758.Num.Neg x30823) (Int_2.mk x30758.Den.Neg x30826)) v30824 r30825 v30827 r30828 hp.imm _ q31608).mono ?_)
            rintro _ w31609 ⟨I31610, v31611, v31613, hv, hq, r31612, r31614⟩
            replace hv := hv.symm
            subst hv
            have hs := hq.st
            have hp := hp.join0 hq
            replace hz := hz.trans hs
            replace a30772 := a30772.step hs
            replace r30819 := r30819.step hs
            replace r30822 := r30822.step hs
            replace a30777 := a30777.step hs
            replace r30825 := r30825.step hs
            replace r30828 := r30828.step hs
            replace a30782 := a30782.step hs
            replace r30831 := r30831.step hs
            replace r30834 := r30834.step hs
            replace r31604 := r31604.step hs
            replace r31606 := r31606.step hs
            replace tb := tb.step hs
            refine ⟨SK (Stp I31610 w31609 I31610) [] [], ⟨Stp.refl _ _, kp_nil⟩, fun L x h => ⟨hz.held h.1, h.2⟩, ?_⟩
            have hz := Stp.refl I31610 w31609
            refine ⟨?_, trivial⟩
            refine ev_alloc hp rfl T26 ?_
            intro g31615 w31616 hp hs
            replace hz := hz.trans hs
            replace a30772 := a30772.step hs
            replace r30819 := r30819.step hs
            replace r30822 := r30822.step hs
            replace a30777 := a30777.step hs
            replace r30825 := r30825.step hs
            replace r30828 := r30828.step hs
            replace a30782 := a30782.step hs
            replace r30831 := r30831.step hs
            replace r30834 := r30834.step hs
            replace r31604 := r31604.step hs
            replace r31606 := r31606.step hs
            replace r31612 := r31612.step hs
            replace r31614 := r31614.step hs
            replace tb := tb.step hs
            refine ⟨SK (Stp I31610 w31616 I31610) [] [], ⟨Stp.refl _ _, kp_nil⟩, fun L x h => ⟨hz.held h.1, h.2⟩, ?_⟩
            have hz := Stp.refl I31610 w31616
            refine ⟨?_, trivial⟩
            refine ev_storeA hp (i := 0) (off := 0) (vs := [(.bool x31599.Num.Neg), v31603, (.bool x31599.Den.Neg), v31605]) rfl rfl rfl rfl T26 rfl (Nat.le_of_ble_eq_true rfl) (ones_cons rfl (ones_cons r31604.one (ones_cons rfl (ones_cons r31606.one ones_nil)))) ?_
            intro w31617 hp hs
            replace hz := hz.trans hs
            replace a30772 := a30772.step hs
            replace r30819 := r30819.step hs
            replace r30822 := r30822.step hs
            replace a30777 := a30777.step hs
            replace r30825 := r30825.step hs
            replace r30828 := r30828.step hs
            replace a30782 := a30782.step hs
            replace r30831 := r30831.step hs
            replace r30834 := r30834.step hs
            replace r31612 := r31612.step hs
            replace r31614 := r31614.step hs
            replace r31604 := r31604.step hs
            replace r31606 := r31606.step hs
            replace tb := tb.step hs
            refine ⟨SK (Stp I31610 w31617 I31610) [] [], ⟨Stp.refl _ _, kp_nil⟩, fun L x h => ⟨hz.held h.1, h.2⟩, ?_⟩
            have hz := Stp.refl I31610 w31617
            refine ⟨?_, trivial⟩
            refine ev_storeA hp (i := 1) (off := 0) (vs := [(.bool x31607.Num.Neg), v31611, (.bool x31607.Den.Neg), v31613]) rfl rfl rfl rfl T26 rfl (Nat.le_of_ble_eq_true rfl) (ones_cons rfl (ones_cons r31612.one (ones_cons rfl (ones_cons r31614.one ones_nil)))) ?_
            intro w31618 hp hs
            replace hz := hz.trans hs
            replace a30772 := a30772.step hs
            replace r30819 := r30819.step hs
            replace r30822 := r30822.step hs
            replace a30777 := a30777.step hs
            replace r30825 := r30825.step hs
            replace r30828 := r30828.step hs
            replace a30782 := a30782.step hs
            replace r30831 := r30831.step hs
            replace r30834 := r30834.step hs
            replace r31604 := r31604.step hs
            replace r31606 := r31606.step hs
            replace r31612 := r31612.step hs
            replace r31614 := r31614.step hs
            replace tb := tb.step hs
            refine ⟨SK (Stp I31610 w31618 I31610) [] [], ⟨Stp.refl _ _, kp_nil⟩, fun L x h => ⟨hz.held h.1, h.2⟩, ?_⟩
            have hz := Stp.refl I31610 w31618
            obtain rfl := Option.some.inj q31274
            exact ⟨(x31599.Num.Neg, x31599.Num.Mag, x31599.Den.Neg, x31599.Den.Mag, x31607.Num.Neg, x31607.Num.Mag, x31607.Den.Neg, x31607.Den.Mag, g31615, v31603, v31605, g31597, v31611, v31613, I31610), (.c rfl (.c rfl (.c rfl (.c rfl (.c rfl .n))))), rfl, hp, r30819, r30822, a30772, r30825, r30828, a30777, r30831, r30834, a30782, r31604, r31606, r31612, r31614, tb⟩
          refine ⟨?_, trivial⟩
          refine ev_alloc hp rfl T26 ?_
          intro g31619 w31620 hp hs
          replace hz := hz.trans hs
          replace a30772 := a30772.step hs
          replace r30819 := r30819.step hs
          replace r30822 := r30822.step hs
          replace a30777 := a30777.step hs
          replace r30825 := r30825.step hs
          replace r30828 := r30828.step hs
          replace a30782 := a30782.step hs
          replace r30831 := r30831.step hs
          replace r30834 := r30834.step hs
          replace r31604 := r31604.step hs
          replace r31606 := r31606.step hs
          replace tb := tb.step hs
          refine ⟨SK (Stp I31602 w31620 I31602) [] [], ⟨Stp.refl _ _, kp_nil⟩, fun L x h => ⟨hz.held h.1, h.2⟩, ?_⟩
          have hz := Stp.refl I31602 w31620
          refine ⟨?_, trivial⟩
          obtain ⟨x31621, q31622, q31274⟩ := bind_some q31274
          refine ev_call rfl rfl C23 (((rational_Mul_ok n) _ _  (Rational.mk (Int_2.mk x30753.Num.Neg x30817) (Int_2.mk x30753.Den.Neg x30820)) v30818 r30819 v30821 r30822 (Rational.mk (Int_2.mk x30758.Num.Neg x30823) (Int_2.mk x30758.Den.Neg x30826)) v30824 r30825 v30827 r30828 hp.imm _ q31622).mono ?_)
          rintro _ w31623 ⟨I31624, v31625, v31627, hv, hq, r31626, r31628⟩
          replace hv := hv.symm
          subst hv
          have hs := hq.st
          have hp := hp.join0 hq
          replace hz := hz.trans hs
          replace a30772 := a30772.step hs
          replace r30819 := r30819.step hs
          replace r30822 := r30822.step hs
          replace a30777 := a30777.step hs
          replace r30825 := r30825.step hs
          replace r30828 := r30828.step hs
          replace a30782 := a30782.step hs
          replace r30831 := r30831.step hs
          replace r30834 := r30834.step hs
          replace r31604 := r31604.step hs
          replace r31606 := r31606.step hs
          replace tb := tb.step hs
          refine ⟨SK (Stp I31624 w31623 I31624) [] [], ⟨Stp.refl _ _, kp_nil⟩, fun L x h => ⟨hz.held h.1, h.2⟩, ?_⟩
          have hz := Stp.refl I31624 w31623
          refine ⟨?_, trivial⟩
          refine ev_storeA hp (i := 0) (off := 0) (vs := [(.bool x31599.Num.Neg), v31603, (.bool x31599.Den.Neg), v31605]) rfl rfl rfl rfl T26 rfl (Nat.le_of_ble_eq_true rfl) (ones_cons rfl (ones_cons r31604.one (ones_cons rfl (ones_cons r31606.one ones_nil)))) ?_
          intro w31629 hp hs
          replace hz := hz.trans hs
          replace a30772 := a30772.step hs
          replace r30819 := r30819.step hs
          replace r30822 := r30822.step hs
          replace a30777 := a30777.step hs
          replace r30825 := r30825.step hs
          replace r30828 := r30828.step hs
          replace a30782 := a30782.step hs
          replace r30831 := r30831.step hs
          replace r30834 := r30834.step hs
          replace r31626 := r31626.step hs
          replace r31628 := r31628.step hs
          replace r31604 := r31604.step hs
          replace r31606 := r31606.step hs
          replace tb := tb.step hs
          refine ⟨SK (Stp I31624 w31629 I31624) [] [], ⟨Stp.refl _ _, kp_nil⟩, fun L x h => ⟨hz.held h.1, h.2⟩, ?_⟩
          have hz := Stp.refl I31624 w31629
          refine ⟨?_, trivial⟩
          refine ev_storeA hp (i := 1) (off := 0) (vs := [(.bool x31621.Num.Neg), v31625, (.bool x31621.Den.Neg), v31627]) rfl rfl rfl rfl T26 rfl (Nat.le_of_ble_eq_true rfl) (ones_cons rfl (ones_cons r31626.one (ones_cons rfl (ones_cons r31628.one ones_nil)))) ?_
          intro w31630 hp hs
          replace hz := hz.trans hs
          replace a30772 := a30772.step hs
          replace r30819 := r30819.step hs
          replace r30822 := r30822.step hs
          replace a30777 := a30777.step hs
          replace r30825 := r30825.step hs
          replace r30828 := r30828.step hs
          replace a30782 := a30782.step hs
          replace r30831 := r30831.step hs
          replace r30834 := r30834.step hs
          replace r31604 := r31604.step hs
          replace r31606 := r31606.step hs
          replace r31626 := r31626.step hs
          replace r31628 := r31628.step hs
          replace tb := tb.step hs
          refine ⟨SK (Stp I31624 w31630 I31624) [] [], ⟨Stp.refl _ _, kp_nil⟩, fun L x h => ⟨hz.held h.1, h.2⟩, ?_⟩
          have hz := Stp.refl I31624 w31630
          obtain rfl := Option.some.inj q31274
          exact ⟨(x31599.Num.Neg, x31599.Num.Mag, x31599.Den.Neg, x31599.Den.Mag, x31621.Num.Neg, x31621.Num.Mag, x31621.Den.Neg, x31621.Den.Mag, g31619, v31603, v31605, g31597, v31625, v31627, I31624), (.c rfl (.c rfl (.c rfl (.c rfl (.c rfl .n))))), rfl, hp, r30819, r30822, a30772, r30825, r30828, a30777, r30831, r30834, a30782, r31604, r31606, r31626, r31628, tb⟩
        refine ⟨?_, trivial⟩
        refine ev_alloc hp rfl T26 ?_
        intro g31631 w31632 hp hs
        replace hz := hz.trans hs
        replace a30772 := a30772.step hs
        replace r30819 := r30819.step hs
        replace r30822 := r30822.step hs
        replace a30777 := a30777.step hs
        replace r30825 := r30825.step hs
        replace r30828 := r30828.step hs
        replace a30782 := a30782.step hs
        replace r30831 := r30831.step hs
        replace r30834 := r30834.step hs
        replace tb := tb.step hs
        refine ⟨SK (Stp I30836 w31632 I30836) [] [], ⟨Stp.refl _ _, kp_nil⟩, fun L x h => ⟨hz.held h.1, h.2⟩, ?_⟩
        have hz := Stp.refl I30836 w31632
        refine ⟨?_, trivial⟩
        obtain ⟨x31633, q31634, q31274⟩ := bind_some q31274
        refine ev_call rfl rfl C19 (((rational_Add_ok n) _ _  (Rational.mk (Int_2.mk x30753.Num.Neg x30817) (Int_2.mk x30753.Den.Neg x30820)) v30818 r30819 v30821 r30822 (Rational.mk (Int_2.mk x30758.Num.Neg x30823) (Int_2.mk x30758.Den.Neg x30826)) v30824 r30825 v30827 r30828 hp.imm _ q31634).mono ?_)
        rintro _ w31635 ⟨I31636, v31637, v31639, hv, hq, r31638, r31640⟩
        replace hv := hv.symm
        subst hv
        have hs := hq.st
        have hp := hp.join0 hq
        replace hz := hz.trans hs
        replace a30772 := a30772.step hs
        replace r30819 := r30819.step hs
        replace r30822 := r30822.step hs
        replace a30777 := a30777.step hs
        replace r30825 := r30825.step hs
        replace r30828 := r30828.step hs
        replace a30782 := a30782.step hs
        replace r30831 := r30831.step hs
        replace r30834 := r30834.step hs
        replace tb := tb.step hs
        refine ⟨SK (Stp I31636 w31635 I31636) [] [], ⟨Stp.refl _ _, kp_nil⟩, fun L x h => ⟨hz.held h.1, h.2⟩, ?_⟩
        have hz := Stp.refl I31636 w31635
        refine ⟨?_, trivial⟩
        obtain ⟨x31641, q31642, q31274⟩ := bind_some q31274
        refine ev_call rfl rfl C23 (((rational_Mul_ok n) _ _  (Rational.mk (Int_2.mk x30753.Num.Neg x30817) (Int_2.mk x30753.Den.Neg x30820)) v30818 r30819 v30821 r30822 (Rational.mk (Int_2.mk x30758.Num.Neg x30823) (Int_2.mk x30758.Den.Neg x30826)) v30824 r30825 v30827 r30828 hp.imm _ q31642).mono ?_)
        rintro _ w31643 ⟨I31644, v31645, v31647, hv, hq, r31646, r31648⟩
        replace hv := hv.symm
        subst hv
        have hs := hq.st
        have hp := hp.join0 hq
        replace hz := hz.trans hs
        replace a30772 := a30772.step hs
        replace r30819 := r30819.step hs
        replace r30822 := r30822.step hs
        replace a30777 := a30777.step hs
        replace r30825 := r30825.step hs
        replace r30828 := r30828.step hs
        replace a30782 := a30782.step hs
        replace r30831 := r30831.step hs
        replace r30834 := r30834.step hs
        replace r31638 := r31638.step hs
        replace r31640 := r31640.step hs
        replace tb := tb.step hs
        refine ⟨SK (Stp I31644 w31643 I31644) [] [], ⟨Stp.refl _ _, kp_nil⟩, fun L x h => ⟨hz.held h.1, h.2⟩, ?_⟩
        have hz := Stp.refl I31644 w31643
        refine ⟨?_, trivial⟩
        refine ev_storeA hp (i := 0) (off := 0) (vs := [(.bool x31633.Num.Neg), v31637, (.bool x31633.Den.Neg), v31639]) rfl rfl rfl rfl T26 rfl (Nat.le_of_ble_eq_true rfl) (ones_cons rfl (ones_cons r31638.one (ones_cons rfl (ones_cons r31640.one ones_nil)))) ?_
        intro w31649 hp hs
        replace hz := hz.trans hs
        replace a30772 := a30772.step hs
        replace r30819 := r30819.step hs
        replace r30822 := r30822.step hs
        replace a30777 := a30777.step hs
        replace r30825 := r30825.step hs
        replace r30828 := r30828.step hs
        replace a30782 := a30782.step hs
        replace r30831 := r30831.step hs
        replace r30834 := r30834.step hs
        replace r31646 := r31646.step hs
        replace r31648 := r31648.step hs
        replace r31638 := r31638.step hs
        replace r31640 := r31640.step hs
        replace tb := tb.step hs
        refine ⟨SK (Stp I31644 w31649 I31644) [] [], ⟨Stp.refl _ _, kp_nil⟩, fun L x h => ⟨hz.held h.1, h.2⟩, ?_⟩
        have hz := Stp.refl I31644 w31649
        refine ⟨?_, trivial⟩
        refine ev_storeA hp (i := 1) (off := 0) (vs := [(.bool x31641.Num.Neg), v31645, (.bool x31641.Den.Neg), v31647]) rfl rfl rfl rfl T26 rfl (Nat.le_of_ble_eq_true rfl) (ones_cons rfl (ones_cons r31646.one (ones_cons rfl (ones_cons r31648.one ones_nil)))) ?_
        intro w31650 hp hs
        replace hz := hz.trans hs
        replace a30772 := a30772.step hs
        replace r30819 := r30819.step hs
        replace r30822 := r30822.step hs
        replace a30777 := a30777.step hs
        replace r30825 := r30825.step hs
        replace r30828 := r30828.step hs
        replace a30782 := a30782.step hs
        replace r30831 := r30831.step hs
        replace r30834 := r30834.step hs
        replace r31638 := r31638.step hs
        replace r31640 := r31640.step hs
        replace r31646 := r31646.step hs
        replace r31648 := r31648.step hs
        replace tb := tb.step hs
        refine ⟨SK (Stp I31644 w31650 I31644) [] [], ⟨Stp.refl _ _, kp_nil⟩, fun L x h => ⟨hz.held h.1, h.2⟩, ?_⟩
        have hz := Stp.refl I31644 w31650
        obtain rfl := Option.some.inj q31274
        exact ⟨(x31633.Num.Neg, x31633.Num.Mag, x31633.Den.Neg, x31633.Den.Mag, x31641.Num.Neg, x31641.Num.Mag, x31641.Den.Neg, x31641.Den.Mag, g31631, v31637, v31639, g31597, v31645, v31647, I31644), (.c rfl (.c rfl (.c rfl (.c rfl (.c rfl .n))))), rfl, hp, r30819, r30822, a30772, r30825, r30828, a30777, r30831, r30834, a30782, r31638, r31640, r31646, r31648, tb⟩
      ·
        rintro ⟨x31254, x31255, x31258, x31259, x31263, x31264, x31267, x31268, g31253, v31256, v31260, g31262, v31265, v31269, I31271⟩ w31272 ⟨hy, hp, r30819, r30822, a30772, r30825, r30828, a30777, r30831, r30834, a30782, r31257, r31261, r31266, r31270, tb⟩
        replace hy := hy.symm
        subst hy
        apply go
        obtain ⟨y31698, q31699, h⟩ := bind_some h
        refine W.cut (γ := (Bool × (Nat → Prop))) (fun g => [(3, (.pointer (some (p30770)))), (4, (.pointer (some (p30775)))), (5, (.pointer (some (p30780)))), (7, (.pointer (some ⟨g31253, 0, none⟩))), (8, (.pointer (some ⟨g31262, 0, none⟩))), (41, (.bool (g.1)))]) (fun g w' => y31698 = (g.1) ∧ Hp ⟨w0, I0, []⟩ (g.2) [some (g31253, [(.bool x31254), v31256, (.bool x31258), v31260], 26), some (g31262, [(.bool x31263), v31265, (.bool x31267), v31269], 26)] w' ∧ RepS (dI .u32) w' (g.2) v30818 x30817 ∧ RepS (dI .u32) w' (g.2) v30821 x30820 ∧ At w' (g.2) p30770 [(.bool x30753.Num.Neg), v30818, (.bool x30753.Den.Neg), v30821] ∧ RepS (dI .u32) w' (g.2) v30824 x30823 ∧ RepS (dI .u32) w' (g.2) v30827 x30826 ∧ At w' (g.2) p30775 [(.bool x30758.Num.Neg), v30824, (.bool x30758.Den.Neg), v30827] ∧ RepS (dI .u32) w' (g.2) v30830 x30829 ∧ RepS (dI .u32) w' (g.2) v30833 x30832 ∧ At w' (g.2) p30780 [(.bool x30763.Num.Neg), v30830, (.bool x30763.Den.Neg), v30833] ∧ RepS (dI .u32) w' (g.2) v31256 x31255 ∧ RepS (dI .u32) w' (g.2) v31260 x31259 ∧ RepS (dI .u32) w' (g.2) v31265 x31264 ∧ RepS (dI .u32) w' (g.2) v31269 x31268 ∧ Tb w' (g.2) 1 .u64 pow10) ?_ ?_
        ·
          have hs := hp.stp (Ch.drew [] w31272)
          have hp := hp.drew
          replace a30772 := a30772.step hs
          replace r30819 := r30819.step hs
          replace r30822 := r30822.step hs
          replace a30777 := a30777.step hs
          replace r30825 := r30825.step hs
          replace r30828 := r30828.step hs
          replace a30782 := a30782.step hs
          replace r30831 := r30831.step hs
          replace r30834 := r30834.step hs
          replace r31257 := r31257.step hs
          replace r31261 := r31261.step hs
          replace r31266 := r31266.step hs
          replace r31270 := r31270.step hs
          replace tb := tb.step hs
          refine W.heldT [(0, true), (1, true), (2, true), (3, false), (4, false), (5, true), (6, true), (7, true), (8, true), (9, true), (10, false), (11, false), (12, true), (13, true)] (fun x => Stp I31271 w31272.drew I31271 x ∧ OwnK [(g31253, [(.bool x31254), v31256, (.bool x31258), v31260], 26), (g31262, [(.bool x31263), v31265, (.bool x31267), v31269], 26)] x) MX (by kernel_rfl) ⟨Stp.refl _ _, (OwnK.cons (hp.own 0 _ _ _ rfl).1 (OwnK.cons (hp.own 1 _ _ _ rfl).1 OwnK.nil))⟩ ?_
          have hz := Stp.refl I31271 w31272.drew
          intro ops hops
          have e0 : nthO ops 0 = some _ := (hops 0).trans rfl
          have e1 : nthO ops 1 = some _ := (hops 1).trans rfl
          have e2 : nthO ops 2 = some _ := (hops 2).trans rfl
          have e3 : nthO ops 3 = some _ := (hops 3).trans rfl
          have e4 : nthO ops 4 = some _ := (hops 4).trans rfl
          have e5 : nthO ops 5 = some _ := (hops 5).trans rfl
          have e6 : nthO ops 6 = some _ := (hops 6).trans rfl
          have e7 : nthO ops 7 = some _ := (hops 7).trans rfl
          have e8 : nthO ops 8 = some _ := (hops 8).trans rfl
          have e9 : nthO ops 9 = some _ := (hops 9).trans rfl
          have e10 : nthO ops 10 = some _ := (hops 10).trans rfl
          have e11 : nthO ops 11 = some _ := (hops 11).trans rfl
          have e12 : nthO ops 12 = some _ := (hops 12).trans rfl
          have e13 : nthO ops 13 = some _ := (hops 13).trans rfl
          clear hops
          refine vch_q e0 rfl ?_
          refine evh (fun w' hw => rn_load rfl rfl (run_loadVarA T26 rfl (hw.2.at_ (i := 0) rfl))) ?_
          refine vch_q e1 rfl ?_
          refine evh (fun w' hw => rn_load rfl rfl (run_loadVarA T26 rfl (a30777.step hw.1))) ?_
          refine vch_q e2 rfl ?_
          refine evh (fun w' hw => rn_load rfl rfl (run_loadVarA T26 rfl (a30772.step hw.1))) ?_
          refine vch_l e3 rfl ?_
          obtain ⟨x31722, q31723, q31699⟩ := bind_some q31699
          refine ev_call rfl rfl C19 (((rational_Add_ok n) _ _  (Rational.mk (Int_2.mk x30758.Num.Neg x30823) (Int_2.mk x30758.Den.Neg x30826)) v30824 r30825 v30827 r30828 (Rational.mk (Int_2.mk x30753.Num.Neg x30817) (Int_2.mk x30753.Den.Neg x30820)) v30818 r30819 v30821 r30822 hp.imm _ q31723).mono ?_)
          rintro _ w31724 ⟨I31725, v31726, v31728, hv, hq, r31727, r31729⟩
          replace hv := hv.symm
          subst hv
          have hs := hq.st
          have hp := hp.join0 hq
          replace hz := hz.trans hs
          replace a30772 := a30772.step hs
          replace r30819 := r30819.step hs
          replace r30822 := r30822.step hs
          replace a30777 := a30777.step hs
          replace r30825 := r30825.step hs
          replace r30828 := r30828.step hs
          replace a30782 := a30782.step hs
          replace r30831 := r30831.step hs
          replace r30834 := r30834.step hs
          replace r31257 := r31257.step hs
          replace r31261 := r31261.step hs
          replace r31266 := r31266.step hs
          replace r31270 := r31270.step hs
          replace tb := tb.step hs
          refine ⟨fun x => Stp I31725 w31724 I31725 x ∧ OwnK [(g31253, [(.bool x31254), v31256, (.bool x31258), v31260], 26), (g31262, [(.bool x31263), v31265, (.bool x31267), v31269], 26)] x, ⟨Stp.refl _ _, (OwnK.cons (hp.own 0 _ _ _ rfl).1 (OwnK.cons (hp.own 1 _ _ _ rfl).1 OwnK.nil))⟩, fun x hx => ⟨hz.held hx.1, hx.2⟩, ?_⟩
          have hz := Stp.refl I31725 w31724
          refine vch_l e4 rfl ?_
          obtain ⟨x31730, q31731, q31699⟩ := bind_some q31699
          refine ev_call rfl rfl C11 (((base_Rational_ok n) _ _  (Rational.mk (Int_2.mk x31254 x31255) (Int_2.mk x31258 x31259)) v31256 r31257 v31260 r31261 x31722 v31726 r31727 v31728 r31729 hp.imm _ q31731).mono ?_)
          rintro _ w31732 ⟨rfl, hc⟩
          have hs := hp.stp hc
          replace hp := hp.ext hc
          replace hz := hz.trans hs
          replace a30772 := a30772.step hs
          replace r30819 := r30819.step hs
          replace r30822 := r30822.step hs
          replace a30777 := a30777.step hs
          replace r30825 := r30825.step hs
          replace r30828 := r30828.step hs
          replace a30782 := a30782.step hs
          replace r30831 := r30831.step hs
          replace r30834 := r30834.step hs
          replace r31257 := r31257.step hs
          replace r31261 := r31261.step hs
          replace r31266 := r31266.step hs
          replace r31270 := r31270.step hs
          replace tb := tb.step hs
          refine ⟨fun x => Stp I31725 w31732 I31725 x ∧ OwnK [(g31253, [(.bool x31254), v31256, (.bool x31258), v31260], 26), (g31262, [(.bool x31263), v31265, (.bool x31267), v31269], 26)] x, ⟨Stp.refl _ _, (OwnK.cons (hp.own 0 _ _ _ rfl).1 (OwnK.cons (hp.own 1 _ _ _ rfl).1 OwnK.nil))⟩, fun x hx => ⟨hz.held hx.1, hx.2⟩, ?_⟩
          have hz := Stp.refl I31725 w31732
          refine vch_q e5 rfl ?_
          refine vch_q e6 rfl ?_
          rcases Bool.eq_false_or_eq_true (!x31730) with hc | hc
          ·
            have q31699 := cond_t q31699 hc
            refine vch_qf e7 rfl e6 rfl rfl hc ?_
            refine vch_qf e8 rfl e6 rfl rfl rfl ?_
            refine vch_qf e9 rfl e6 rfl rfl rfl ?_
            refine vch_lf e10 rfl e6 rfl rfl rfl ?_
            refine ⟨fun x => Stp I31725 w31732 I31725 x ∧ OwnK [(g31253, [(.bool x31254), v31256, (.bool x31258), v31260], 26), (g31262, [(.bool x31263), v31265, (.bool x31267), v31269], 26)] x, ⟨Stp.refl _ _, (OwnK.cons (hp.own 0 _ _ _ rfl).1 (OwnK.cons (hp.own 1 _ _ _ rfl).1 OwnK.nil))⟩, fun x hx => ⟨hz.held hx.1, hx.2⟩, ?_⟩
            have hz := Stp.refl I31725 w31732
            refine vch_lf e11 rfl e6 rfl rfl rfl ?_
            refine ⟨fun x => Stp I31725 w31732 I31725 x ∧ OwnK [(g31253, [(.bool x31254), v31256, (.bool x31258), v31260], 26), (g31262, [(.bool x31263), v31265, (.bool x31267), v31269], 26)] x, ⟨Stp.refl _ _, (OwnK.cons (hp.own 0 _ _ _ rfl).1 (OwnK.cons (hp.own 1 _ _ _ rfl).1 OwnK.nil))⟩, fun x hx => ⟨hz.held hx.1, hx.2⟩, ?_⟩
            have hz := Stp.refl I31725 w31732
            refine vch_qf e12 rfl e6 rfl rfl rfl ?_
            refine vch_q e13 rfl ?_
            refine vch_end ?_
            obtain rfl := Option.some.inj q31699
            exact ⟨(true, I31725), (.c rfl (.c rfl (.c rfl (.c rfl (.c rfl (.c rfl .n)))))), rfl, hp, r30819, r30822, a30772, r30825, r30828, a30777, r30831, r30834, a30782, r31257, r31261, r31266, r31270, tb⟩
          ·
            have q31699 := cond_f q31699 hc
            refine vch_qt e7 rfl e6 rfl rfl hc ?_
            refine evh (fun w' hw => rn_load rfl rfl (run_loadVarA T26 rfl (hw.2.at_ (i := 1) rfl))) ?_
            refine vch_qt e8 rfl e6 rfl rfl rfl ?_
            refine evh (fun w' hw => rn_load rfl rfl (run_loadVarA T26 rfl (a30777.step hw.1))) ?_
            refine vch_qt e9 rfl e6 rfl rfl rfl ?_
            refine evh (fun w' hw => rn_load rfl rfl (run_loadVarA T26 rfl (a30772.step hw.1))) ?_
            refine vch_lt e10 rfl e6 rfl rfl rfl ?_
            obtain ⟨x31733, q31734, q31699⟩ := bind_some q31699
            refine ev_call rfl rfl C23 (((rational_Mul_ok n) _ _  (Rational.mk (Int_2.mk x30758.Num.Neg x30823) (Int_2.mk x30758.Den.Neg x30826)) v30824 r30825 v30827 r30828 (Rational.mk (Int_2.mk x30753.Num.Neg x30817) (Int_2.mk x30753.Den.Neg x30820)) v30818 r30819 v30821 r30822 hp.imm _ q31734).mono ?_)
            rintro _ w31735 ⟨I31736, v31737, v31739, hv, hq, r31738, r31740⟩
            replace hv := hv.symm
            subst hv
            have hs := hq.st
            have hp := hp.join0 hq
            replace hz := hz.trans hs
            replace a30772 := a30772.step hs
            replace r30819 := r30819.step hs
            replace r30822 := r30822.step hs
            replace a30777 := a30777.step hs
            replace r30825 := r30825.step hs
            replace r30828 := r30828.step hs
            replace a30782 := a30782.step hs
            replace r30831 := r30831.step hs
            replace r30834 := r30834.step hs
            replace r31266 := r31266.step hs
            replace r31270 := r31270.step hs
            replace r31257 := r31257.step hs
            replace r31261 := r31261.step hs
            replace tb := tb.step hs
            refine ⟨fun x => Stp I31736 w31735 I31736 x ∧ OwnK [(g31253, [(.bool x31254), v31256, (.bool x31258), v31260], 26), (g31262, [(.bool x31263), v31265, (.bool x31267), v31269], 26)] x, ⟨Stp.refl _ _, (OwnK.cons (hp.own 0 _ _ _ rfl).1 (OwnK.cons (hp.own 1 _ _ _ rfl).1 OwnK.nil))⟩, fun x hx => ⟨hz.held hx.1, hx.2⟩, ?_⟩
            have hz := Stp.refl I31736 w31735
            refine vch_lt e11 rfl e6 rfl rfl rfl ?_
            obtain ⟨x31741, q31742, q31699⟩ := bind_some q31699
            refine ev_call rfl rfl C11 (((base_Rational_ok n) _ _  (Rational.mk (Int_2.mk x31263 x31264) (Int_2.mk x31267 x31268)) v31265 r31266 v31269 r31270 x31733 v31737 r31738 v31739 r31740 hp.imm _ q31742).mono ?_)
            rintro _ w31743 ⟨rfl, hc⟩
            have hs := hp.stp hc
            replace hp := hp.ext hc
            replace hz := hz.trans hs
            replace a30772 := a30772.step hs
            replace r30819 := r30819.step hs
            replace r30822 := r30822.step hs
            replace a30777 := a30777.step hs
            replace r30825 := r30825.step hs
            replace r30828 := r30828.step hs
            replace a30782 := a30782.step hs
            replace r30831 := r30831.step hs
            replace r30834 := r30834.step hs
            replace r31257 := r31257.step hs
            replace r31261 := r31261.step hs
            replace r31266 := r31266.step hs
            replace r31270 := r31270.step hs
            replace tb := tb.step hs
            refine ⟨fun x => Stp I31736 w31743 I31736 x ∧ OwnK [(g31253, [(.bool x31254), v31256, (.bool x31258), v31260], 26), (g31262, [(.bool x31263), v31265, (.bool x31267), v31269], 26)] x, ⟨Stp.refl _ _, (OwnK.cons (hp.own 0 _ _ _ rfl).1 (OwnK.cons (hp.own 1 _ _ _ rfl).1 OwnK.nil))⟩, fun x hx => ⟨hz.held hx.1, hx.2⟩, ?_⟩
            have hz := Stp.refl I31736 w31743
            refine vch_qt e12 rfl e6 rfl rfl rfl ?_
            refine vch_q e13 rfl ?_
            refine vch_end ?_
            obtain rfl := Option.some.inj q31699
            exact ⟨((!x31741), I31736), (.c rfl (.c rfl (.c rfl (.c rfl (.c rfl (.c rfl .n)))))), rfl, hp, r30819, r30822, a30772, r30825, r30828, a30777, r30831, r30834, a30782, r31257, r31261, r31266, r31270, tb⟩
        ·
          rintro ⟨x31695, I31696⟩ w31697 ⟨hy, hp, r30819, r30822, a30772, r30825, r30828, a30777, r30831, r30834, a30782, r31257, r31261, r31266, r31270, tb⟩
          replace hy := hy.symm
          subst hy
          apply go
          refine sel_of (fun hc => ?_) (fun hc => ?_)
          ·
            have h := cond_t h hc
            apply go
            apply go
            apply go
            obtain rfl := Option.some.inj h
            exact ⟨rfl, hp.ch⟩
          ·
            have h := cond_f h hc
            apply go
            apply go
            obtain ⟨y31855, q31856, h⟩ := bind_some h
            refine W.cut (γ := (Bool × (Nat → Prop))) (fun g => [(3, (.pointer (some (p30770)))), (4, (.pointer (some (p30775)))), (5, (.pointer (some (p30780)))), (7, (.pointer (some ⟨g31253, 0, none⟩))), (8, (.pointer (some ⟨g31262, 0, none⟩))), (63, (.bool (g.1)))]) (fun g w' => y31855 = (g.1) ∧ Hp ⟨w0, I0, []⟩ (g.2) [some (g31253, [(.bool x31254), v31256, (.bool x31258), v31260], 26), some (g31262, [(.bool x31263), v31265, (.bool x31267), v31269], 26)] w' ∧ RepS (dI .u32) w' (g.2) v30818 x30817 ∧ RepS (dI .u32) w' (g.2) v30821 x30820 ∧ At w' (g.2) p30770 [(.bool x30753.Num.Neg), v30818, (.bool x30753.Den.Neg), v30821] ∧ RepS (dI .u32) w' (g.2) v30824 x30823 ∧ RepS (dI .u32) w' (g.2) v30827 x30826 ∧ At w' (g.2) p30775 [(.bool x30758.Num.Neg), v30824, (.bool x30758.Den.Neg), v30827] ∧ RepS (dI .u32) w' (g.2) v30830 x30829 ∧ RepS (dI .u32) w' (g.2) v30833 x30832 ∧ At w' (g.2) p30780 [(.bool x30763.Num.Neg), v30830, (.bool x30763.Den.Neg), v30833] ∧ RepS (dI .u32) w' (g.2) v31256 x31255 ∧ RepS (dI .u32) w' (g.2) v31260 x31259 ∧ RepS (dI .u32) w' (g.2) v31265 x31264 ∧ RepS (dI .u32) w' (g.2) v31269 x31268 ∧ Tb w' (g.2) 1 .u64 pow10) ?_ ?_
            ·
              have hs := hp.stp (Ch.drew [] w31697)
              have hp := hp.drew
              replace a30772 := a30772.step hs
              replace r30819 := r30819.step hs
              replace r30822 := r30822.step hs
              replace a30777 := a30777.step hs
              replace r30825 := r30825.step hs
              replace r30828 := r30828.step hs
              replace a30782 := a30782.step hs
              replace r30831 := r30831.step hs
              replace r30834 := r30834.step hs
              replace r31257 := r31257.step hs
              replace r31261 := r31261.step hs
              replace r31266 := r31266.step hs
              replace r31270 := r31270.step hs
              replace tb := tb.step hs
              refine W.heldT [(0, true), (1, true), (3, true), (4, true), (5, true), (2, false), (6, false), (7, false), (8, false), (9, true), (10, true), (11, true), (12, true), (14, true), (15, true), (16, true), (13, false), (17, false), (18, false), (19, false), (20, true), (21, true)] (fun x => Stp I31696 w31697.drew I31696 x ∧ OwnK [(g31253, [(.bool x31254), v31256, (.bool x31258), v31260], 26), (g31262, [(.bool x31263), v31265, (.bool x31267), v31269], 26)] x) MX (by kernel_rfl) ⟨Stp.refl _ _, (OwnK.cons (hp.own 0 _ _ _ rfl).1 (OwnK.cons (hp.own 1 _ _ _ rfl).1 OwnK.nil))⟩ ?_
              have hz := Stp.refl I31696 w31697.drew
              intro ops hops
              have e0 : nthO ops 0 = some _ := (hops 0).trans rfl
              have e1 : nthO ops 1 = some _ := (hops 1).trans rfl
              have e2 : nthO ops 2 = some _ := (hops 2).trans rfl
              have e3 : nthO ops 3 = some _ := (hops 3).trans rfl
              have e4 : nthO ops 4 = some _ := (hops 4).trans rfl
              have e5 : nthO ops 5 = some _ := (hops 5).trans rfl
              have e6 : nthO ops 6 = some _ := (hops 6).trans rfl
              have e7 : nthO ops 7 = some _ := (hops 7).trans rfl
              have e8 : nthO ops 8 = some _ := (hops 8).trans rfl
              have e9 : nthO ops 9 = some _ := (hops 9).trans rfl
              have e10 : nthO ops 10 = some _ := (hops 10).trans rfl
              have e11 : nthO ops 11 = some _ := (hops 11).trans rfl
              have e12 : nthO ops 12 = some _ := (hops 12).trans rfl
              have e13 : nthO ops 13 = some _ := (hops 13).trans rfl
              have e14 : nthO ops 14 = some _ := (hops 14).trans rfl
              have e15 : nthO ops 15 = some _ := (hops 15).trans rfl
              have e16 : nthO ops 16 = some _ := (hops 16).trans rfl
              have e17 : nthO ops 17 = some _ := (hops 17).trans rfl
              have e18 : nthO ops 18 = some _ := (hops 18).trans rfl
              have e19 : nthO ops 19 = some _ := (hops 19).trans rfl
              have e20 : nthO ops 20 = some _ := (hops 20).trans rfl
              have e21 : nthO ops 21 = some _ := (hops 21).trans rfl
              clear hops
              refine vch_q e0 rfl ?_
              refine evh (fun w' hw => rn_load rfl rfl (run_loadVarA T26 rfl (hw.2.at_ (i := 0) rfl))) ?_
              refine vch_q e1 rfl ?_
              refine evh (fun w' hw => rn_load rfl rfl (run_loadVarA T26 rfl (a30782.step hw.1))) ?_
              refine vch_q e3 rfl ?_
              refine evh (fun w' hw => rn_load rfl rfl (run_loadVarA T26 rfl (a30772.step hw.1))) ?_
              refine vch_q e4 rfl ?_
              refine evh (fun w' hw => rn_load rfl rfl (run_loadVarA T26 rfl (a30777.step hw.1))) ?_
              refine vch_q e5 rfl ?_
              refine evh (fun w' hw => rn_load rfl rfl (run_loadVarA T26 rfl (a30782.step hw.1))) ?_
              refine vch_l e2 rfl ?_
              obtain ⟨x31911, q31912, q31856⟩ := bind_some q31856
              refine ev_call rfl rfl C19 (((rational_Add_ok n) _ _  (Rational.mk (Int_2.mk x31254 x31255) (Int_2.mk x31258 x31259)) v31256 r31257 v31260 r31261 (Rational.mk (Int_2.mk x30763.Num.Neg x30829) (Int_2.mk x30763.Den.Neg x30832)) v30830 r30831 v30833 r30834 hp.imm _ q31912).mono ?_)
              rintro _ w31913 ⟨I31914, v31915, v31917, hv, hq, r31916, r31918⟩
              replace hv := hv.symm
              subst hv
              have hs := hq.st
              have hp := hp.join0 hq
              replace hz := hz.trans hs
              replace a30772 := a30772.step hs
              replace r30819 := r30819.step hs
              replace r30822 := r30822.step hs
              replace a30777 := a30777.step hs
              replace r30825 := r30825.step hs
              replace r30828 := r30828.step hs
              replace a30782 := a30782.step hs
              replace r30831 := r30831.step hs
              replace r30834 := r30834.step hs
              replace r31257 := r31257.step hs
              replace r31261 := r31261.step hs
              replace r31266 := r31266.step hs
              replace r31270 := r31270.step hs
              replace tb := tb.step hs
              refine ⟨fun x => Stp I31914 w31913 I31914 x ∧ OwnK [(g31253, [(.bool x31254), v31256, (.bool x31258), v31260], 26), (g31262, [(.bool x31263), v31265, (.bool x31267), v31269], 26)] x, ⟨Stp.refl _ _, (OwnK.cons (hp.own 0 _ _ _ rfl).1 (OwnK.cons (hp.own 1 _ _ _ rfl).1 OwnK.nil))⟩, fun x hx => ⟨hz.held hx.1, hx.2⟩, ?_⟩
              have hz := Stp.refl I31914 w31913
              refine vch_l e6 rfl ?_
              obtain ⟨x31919, q31920, q31856⟩ := bind_some q31856
              refine ev_call rfl rfl C19 (((rational_Add_ok n) _ _  (Rational.mk (Int_2.mk x30758.Num.Neg x30823) (Int_2.mk x30758.Den.Neg x30826)) v30824 r30825 v30827 r30828 (Rational.mk (Int_2.mk x30763.Num.Neg x30829) (Int_2.mk x30763.Den.Neg x30832)) v30830 r30831 v30833 r30834 hp.imm _ q31920).mono ?_)
              rintro _ w31921 ⟨I31922, v31923, v31925, hv, hq, r31924, r31926⟩
              replace hv := hv.symm
              subst hv
              have hs := hq.st
              have hp := hp.join0 hq
              replace hz := hz.trans hs
              replace a30772 := a30772.step hs
              replace r30819 := r30819.step hs
              replace r30822 := r30822.step hs
              replace a30777 := a30777.step hs
              replace r30825 := r30825.step hs
              replace r30828 := r30828.step hs
              replace a30782 := a30782.step hs
              replace r30831 := r30831.step hs
              replace r30834 := r30834.step hs
              replace r31916 := r31916.step hs
              replace r31918 := r31918.step hs
              replace r31257 := r31257.step hs
              replace r31261 := r31261.step hs
              replace r31266 := r31266.step hs
              replace r31270 := r31270.step hs
              replace tb := tb.step hs
              refine ⟨fun x => Stp I31922 w31921 I31922 x ∧ OwnK [(g31253, [(.bool x31254), v31256, (.bool x31258), v31260], 26), (g31262, [(.bool x31263), v31265, (.bool x31267), v31269], 26)] x, ⟨Stp.refl _ _, (OwnK.cons (hp.own 0 _ _ _ rfl).1 (OwnK.cons (hp.own 1 _ _ _ rfl).1 OwnK.nil))⟩, fun x hx => ⟨hz.held hx.1, hx.2⟩, ?_⟩
              have hz := Stp.refl I31922 w31921
              refine vch_l e7 rfl ?_
              obtain ⟨x31927, q31928, q31856⟩ := bind_some q31856
              refine ev_call rfl rfl C19 (((rational_Add_ok n) _ _  (Rational.mk (Int_2.mk x30753.Num.Neg x30817) (Int_2.mk x30753.Den.Neg x30820)) v30818 r30819 v30821 r30822 x31919 v31923 r31924 v31925 r31926 hp.imm _ q31928).mono ?_)
              rintro _ w31929 ⟨I31930, v31931, v31933, hv, hq, r31932, r31934⟩
              replace hv := hv.symm
              subst hv
              have hs := hq.st
              have hp := hp.join0 hq
              replace hz := hz.trans hs
              replace a30772 := a30772.step hs
              replace r30819 := r30819.step hs
              replace r30822 := r30822.step hs
              replace a30777 := a30777.step hs
              replace r30825 := r30825.step hs
              replace r30828 := r30828.step hs
              replace a30782 := a30782.step hs
              replace r30831 := r30831.step hs
              replace r30834 := r30834.step hs
              replace r31916 := r31916.step hs
              replace r31918 := r31918.step hs
              replace r31257 := r31257.step hs
              replace r31261 := r31261.step hs
              replace r31266 := r31266.step hs
              replace r31270 := r31270.step hs
              replace tb := tb.step hs
              refine ⟨fun x => Stp I31930 w31929 I31930 x ∧ OwnK [(g31253, [(.bool x31254), v31256, (.bool x31258), v31260], 26), (g31262, [(.bool x31263), v31265, (.bool x31267), v31269], 26)] x, ⟨Stp.refl _ _, (OwnK.cons (hp.own 0 _ _ _ rfl).1 (OwnK.cons (hp.own 1 _ _ _ rfl).1 OwnK.nil))⟩, fun x hx => ⟨hz.held hx.1, hx.2⟩, ?_⟩
              have hz := Stp.refl I31930 w31929
              refine vch_l e8 rfl ?_
              obtain ⟨x31935, q31936, q31856⟩ := bind_some q31856
              refine ev_call rfl rfl C11 (((base_Rational_ok n) _ _  x31911 v31915 r31916 v31917 r31918 x31927 v31931 r31932 v31933 r31934 hp.imm _ q31936).mono ?_)
              rintro _ w31937 ⟨rfl, hc⟩
              have hs := hp.stp hc
              replace hp := hp.ext hc
              replace hz := hz.trans hs
              replace a30772 := a30772.step hs
              replace r30819 := r30819.step hs
              replace r30822 := r30822.step hs
              replace a30777 := a30777.step hs
              replace r30825 := r30825.step hs
              replace r30828 := r30828.step hs
              replace a30782 := a30782.step hs
              replace r30831 := r30831.step hs
              replace r30834 := r30834.step hs
              replace r31257 := r31257.step hs
              replace r31261 := r31261.step hs
              replace r31266 := r31266.step hs
              replace r31270 := r31270.step hs
              replace tb := tb.step hs
              refine ⟨fun x => Stp I31930 w31937 I31930 x ∧ OwnK [(g31253, [(.bool x31254), v31256, (.bool x31258), v31260], 26), (g31262, [(.bool x31263), v31265, (.bool x31267), v31269], 26)] x, ⟨Stp.refl _ _, (OwnK.cons (hp.own 0 _ _ _ rfl).1 (OwnK.cons (hp.own 1 _ _ _ rfl).1 OwnK.nil))⟩, fun x hx => ⟨hz.held hx.1, hx.2⟩, ?_⟩
              have hz := Stp.refl I31930 w31937
              refine vch_q e9 rfl ?_
              refine vch_q e10 rfl ?_
              rcases Bool.eq_false_or_eq_true (!x31935) with hc | hc
              ·
                have q31856 := cond_t q31856 hc
                refine vch_qf e11 rfl e10 rfl rfl hc ?_
                refine vch_qf e12 rfl e10 rfl rfl rfl ?_
                refine vch_qf e14 rfl e10 rfl rfl rfl ?_
                refine vch_qf e15 rfl e10 rfl rfl rfl ?_
                refine vch_qf e16 rfl e10 rfl rfl rfl ?_
                refine vch_lf e13 rfl e10 rfl rfl rfl ?_
                refine ⟨fun x => Stp I31930 w31937 I31930 x ∧ OwnK [(g31253, [(.bool x31254), v31256, (.bool x31258), v31260], 26), (g31262, [(.bool x31263), v31265, (.bool x31267), v31269], 26)] x, ⟨Stp.refl _ _, (OwnK.cons (hp.own 0 _ _ _ rfl).1 (OwnK.cons (hp.own 1 _ _ _ rfl).1 OwnK.nil))⟩, fun x hx => ⟨hz.held hx.1, hx.2⟩, ?_⟩
                have hz := Stp.refl I31930 w31937
                refine vch_lf e17 rfl e10 rfl rfl rfl ?_
                refine ⟨fun x => Stp I31930 w31937 I31930 x ∧ OwnK [(g31253, [(.bool x31254), v31256, (.bool x31258), v31260], 26), (g31262, [(.bool x31263), v31265, (.bool x31267), v31269], 26)] x, ⟨Stp.refl _ _, (OwnK.cons (hp.own 0 _ _ _ rfl).1 (OwnK.cons (hp.own 1 _ _ _ rfl).1 OwnK.nil))⟩, fun x hx => ⟨hz.held hx.1, hx.2⟩, ?_⟩
                have hz := Stp.refl I31930 w31937
                refine vch_lf e18 rfl e10 rfl rfl rfl ?_
                refine ⟨fun x => Stp I31930 w31937 I31930 x ∧ OwnK [(g31253, [(.bool x31254), v31256, (.bool x31258), v31260], 26), (g31262, [(.bool x31263), v31265, (.bool x31267), v31269], 26)] x, ⟨Stp.refl _ _, (OwnK.cons (hp.own 0 _ _ _ rfl).1 (OwnK.cons (hp.own 1 _ _ _ rfl).1 OwnK.nil))⟩, fun x hx => ⟨hz.held hx.1, hx.2⟩, ?_⟩
                have hz := Stp.refl I31930 w31937
                refine vch_lf e19 rfl e10 rfl rfl rfl ?_
                refine ⟨fun x => Stp I31930 w31937 I31930 x ∧ OwnK [(g31253, [(.bool x31254), v31256, (.bool x31258), v31260], 26), (g31262, [(.bool x31263), v31265, (.bool x31267), v31269], 26)] x, ⟨Stp.refl _ _, (OwnK.cons (hp.own 0 _ _ _ rfl).1 (OwnK.cons (hp.own 1 _ _ _ rfl).1 OwnK.nil))⟩, fun x hx => ⟨hz.held hx.1, hx.2⟩, ?_⟩
                have hz := Stp.refl I31930 w31937
                refine vch_qf e20 rfl e10 rfl rfl rfl ?_
                refine vch_q e21 rfl ?_
                refine vch_end ?_
                obtain rfl := Option.some.inj q31856
                exact ⟨(true, I31930), (.c rfl (.c rfl (.c rfl (.c rfl (.c rfl (.c rfl .n)))))), rfl, hp, r30819, r30822, a30772, r30825, r30828, a30777, r30831, r30834, a30782, r31257, r31261, r31266, r31270, tb⟩
              ·
                have q31856 := cond_f q31856 hc
                refine vch_qt e11 rfl e10 rfl rfl hc ?_
                refine evh (fun w' hw => rn_load rfl rfl (run_loadVarA T26 rfl (hw.2.at_ (i := 1) rfl))) ?_
                refine vch_qt e12 rfl e10 rfl rfl rfl ?_
                refine evh (fun w' hw => rn_load rfl rfl (run_loadVarA T26 rfl (a30782.step hw.1))) ?_
                refine vch_qt e14 rfl e10 rfl rfl rfl ?_
                refine evh (fun w' hw => rn_load rfl rfl (run_loadVarA T26 rfl (a30772.step hw.1))) ?_
                refine vch_qt e15 rfl e10 rfl rfl rfl ?_
                refine evh (fun w' hw => rn_load rfl rfl (run_loadVarA T26 rfl (a30777.step hw.1))) ?_
                refine vch_qt e16 rfl e10 rfl rfl rfl ?_
                refine evh (fun w' hw => rn_load rfl rfl (run_loadVarA T26 rfl (a30782.step hw.1))) ?_
                refine vch_lt e13 rfl e10 rfl rfl rfl ?_
                obtain ⟨x31938, q31939, q31856⟩ := bind_some q31856
                refine ev_call rfl rfl C23 (((rational_Mul_ok n) _ _  (Rational.mk (Int_2.mk x31263 x31264) (Int_2.mk x31267 x31268)) v31265 r31266 v31269 r31270 (Rational.mk (Int_2.mk x30763.Num.Neg x30829) (Int_2.mk x30763.Den.Neg x30832)) v30830 r30831 v30833 r30834 hp.imm _ q31939).mono ?_)
                rintro _ w31940 ⟨I31941, v31942, v31944, hv, hq, r31943, r31945⟩
                replace hv := hv.symm
                subst hv
                have hs := hq.st
                have hp := hp.join0 hq
                replace hz := hz.trans hs
                replace a30772 := a30772.step hs
                replace r30819 := r30819.step hs
                replace r30822 := r30822.step hs
                replace a30777 := a30777.step hs
                replace r30825 := r30825.step hs
                replace r30828 := r30828.step hs
                replace a30782 := a30782.step hs
                replace r30831 := r30831.step hs
                replace r30834 := r30834.step hs
                replace r31257 := r31257.step hs
                replace r31261 := r31261.step hs
                replace r31266 := r31266.step hs
                replace r31270 := r31270.step hs
                replace tb := tb.step hs
                refine ⟨fun x => Stp I31941 w31940 I31941 x ∧ OwnK [(g31253, [(.bool x31254), v31256, (.bool x31258), v31260], 26), (g31262, [(.bool x31263), v31265, (.bool x31267), v31269], 26)] x, ⟨Stp.refl _ _, (OwnK.cons (hp.own 0 _ _ _ rfl).1 (OwnK.cons (hp.own 1 _ _ _ rfl).1 OwnK.nil))⟩, fun x hx => ⟨hz.held hx.1, hx.2⟩, ?_⟩
                have hz := Stp.refl I31941 w31940
                refine vch_lt e17 rfl e10 rfl rfl rfl ?_
                obtain ⟨x31946, q31947, q31856⟩ := bind_some q31856
                refine ev_call rfl rfl C23 (((rational_Mul_ok n) _ _  (Rational.mk (Int_2.mk x30758.Num.Neg x30823) (Int_2.mk x30758.Den.Neg x30826)) v30824 r30825 v30827 r30828 (Rational.mk (Int_2.mk x30763.Num.Neg x30829) (Int_2.mk x30763.Den.Neg x30832)) v30830 r30831 v30833 r30834 hp.imm _ q31947).mono ?_)
                rintro _ w31948 ⟨I31949, v31950, v31952, hv, hq, r31951, r31953⟩
                replace hv := hv.symm
                subst hv
                have hs := hq.st
                have hp := hp.join0 hq
                replace hz := hz.trans hs
                replace a30772 := a30772.step hs
                replace r30819 := r30819.step hs
                replace r30822 := r30822.step hs
                replace a30777 := a30777.step hs
                replace r30825 := r30825.step hs
                replace r30828 := r30828.step hs
                replace a30782 := a30782.step hs
                replace r30831 := r30831.step hs
                replace r30834 := r30834.step hs
                replace r31943 := r31943.step hs
                replace r31945 := r31945.step hs
                replace r31257 := r31257.step hs
                replace r31261 := r31261.step hs
                replace r31266 := r31266.step hs
                replace r31270 := r31270.step hs
                replace tb := tb.step hs
                refine ⟨fun x => Stp I31949 w31948 I31949 x ∧ OwnK [(g31253, [(.bool x31254), v31256, (.bool x31258), v31260], 26), (g31262, [(.bool x31263), v31265, (.bool x31267), v31269], 26)] x, ⟨Stp.refl _ _, (OwnK.cons (hp.own 0 _ _ _ rfl).1 (OwnK.cons (hp.own 1 _ _ _ rfl).1 OwnK.nil))⟩, fun x hx => ⟨hz.held hx.1, hx.2⟩, ?_⟩
                have hz := Stp.refl I31949 w31948
                refine vch_lt e18 rfl e10 rfl rfl rfl ?_
                obtain ⟨x31954, q31955, q31856⟩ := bind_some q31856
                refine ev_call rfl rfl C23 (((rational_Mul_ok n) _ _  (Rational.mk (Int_2.mk x30753.Num.Neg x30817) (Int_2.mk x30753.Den.Neg x30820)) v30818 r30819 v30821 r30822 x31946 v31950 r31951 v31952 r31953 hp.imm _ q31955).mono ?_)
                rintro _ w31956 ⟨I31957, v31958, v31960, hv, hq, r31959, r31961⟩
                replace hv := hv.symm
                subst hv
                have hs := hq.st
                have hp := hp.join0 hq
                replace hz := hz.trans hs
                replace a30772 := a30772.step hs
                replace r30819 := r30819.step hs
                replace r30822 := r30822.step hs
                replace a30777 := a30777.step hs
                replace r30825 := r30825.step hs
                replace r30828 := r30828.step hs
                replace a30782 := a30782.step hs
                replace r30831 := r30831.step hs
                replace r30834 := r30834.step hs
                replace r31943 := r31943.step hs
                replace r31945 := r31945.step hs
                replace r31257 := r31257.step hs
                replace r31261 := r31261.step hs
                replace r31266 := r31266.step hs
                replace r31270 := r31270.step hs
                replace tb := tb.step hs
                refine ⟨fun x => Stp I31957 w31956 I31957 x ∧ OwnK [(g31253, [(.bool x31254), v31256, (.bool x31258), v31260], 26), (g31262, [(.bool x31263), v31265, (.bool x31267), v31269], 26)] x, ⟨Stp.refl _ _, (OwnK.cons (hp.own 0 _ _ _ rfl).1 (OwnK.cons (hp.own 1 _ _ _ rfl).1 OwnK.nil))⟩, fun x hx => ⟨hz.held hx.1, hx.2⟩, ?_⟩
                have hz := Stp.refl I31957 w31956
                refine vch_lt e19 rfl e10 rfl rfl rfl ?_
                obtain ⟨x31962, q31963, q31856⟩ := bind_some q31856
                refine ev_call rfl rfl C11 (((base_Rational_ok n) _ _  x31938 v31942 r31943 v31944 r31945 x31954 v31958 r31959 v31960 r31961 hp.imm _ q31963).mono ?_)
                rintro _ w31964 ⟨rfl, hc⟩
                have hs := hp.stp hc
                replace hp := hp.ext hc
                replace hz := hz.trans hs
                replace a30772 := a30772.step hs
                replace r30819 := r30819.step hs
                replace r30822 := r30822.step hs
                replace a30777 := a30777.step hs
                replace r30825 := r30825.step hs
                replace r30828 := r30828.step hs
                replace a30782 := a30782.step hs
                replace r30831 := r30831.step hs
                replace r30834 := r30834.step hs
                replace r31257 := r31257.step hs
                replace r31261 := r31261.step hs
                replace r31266 := r31266.step hs
                replace r31270 := r31270.step hs
                replace tb := tb.step hs
                refine ⟨fun x => Stp I31957 w31964 I31957 x ∧ OwnK [(g31253, [(.bool x31254), v31256, (.bool x31258), v31260], 26), (g31262, [(.bool x31263), v31265, (.bool x31267), v31269], 26)] x, ⟨Stp.refl _ _, (OwnK.cons (hp.own 0 _ _ _ rfl).1 (OwnK.cons (hp.own 1 _ _ _ rfl).1 OwnK.nil))⟩, fun x hx => ⟨hz.held hx.1, hx.2⟩, ?_⟩
                have hz := Stp.refl I31957 w31964
                refine vch_qt e20 rfl e10 rfl rfl rfl ?_
                refine vch_q e21 rfl ?_
                refine vch_end ?_
                obtain rfl := Option.some.inj q31856
                exact ⟨((!x31962), I31957), (.c rfl (.c rfl (.c rfl (.c rfl (.c rfl (.c rfl .n)))))), rfl, hp, r30819, r30822, a30772, r30825, r30828, a30777, r30831, r30834, a30782, r31257, r31261, r31266, r31270, tb⟩
            ·
              rintro ⟨x31852, I31853⟩ w31854 ⟨hy, hp, r30819, r30822, a30772, r30825, r30828, a30777, r30831, r30834, a30782, r31257, r31261, r31266, r31270, tb⟩
              replace hy := hy.symm
              subst hy
              apply go
              refine sel_of (fun hc => ?_) (fun hc => ?_)
              ·
                have h := cond_t h hc
                apply go
                apply go
                apply go
                obtain rfl := Option.some.inj h
                exact ⟨rfl, hp.ch⟩
              ·
                have h := cond_f h hc
                apply go
                apply go
                obtain ⟨y32076, q32077, h⟩ := bind_some h
                refine W.cut (γ := (Bool × (Nat → Prop))) (fun g => [(3, (.pointer (some (p30770)))), (4, (.pointer (some (p30775)))), (8, (.pointer (some ⟨g31262, 0, none⟩))), (84, (.bool (g.1)))]) (fun g w' => y32076 = (g.1) ∧ Hp ⟨w0, I0, []⟩ (g.2) [some (g31262, [(.bool x31263), v31265, (.bool x31267), v31269], 26)] w' ∧ RepS (dI .u32) w' (g.2) v30818 x30817 ∧ RepS (dI .u32) w' (g.2) v30821 x30820 ∧ At w' (g.2) p30770 [(.bool x30753.Num.Neg), v30818, (.bool x30753.Den.Neg), v30821] ∧ RepS (dI .u32) w' (g.2) v30824 x30823 ∧ RepS (dI .u32) w' (g.2) v30827 x30826 ∧ At w' (g.2) p30775 [(.bool x30758.Num.Neg), v30824, (.bool x30758.Den.Neg), v30827] ∧ RepS (dI .u32) w' (g.2) v31265 x31264 ∧ RepS (dI .u32) w' (g.2) v31269 x31268 ∧ Tb w' (g.2) 1 .u64 pow10) ?_ ?_
                ·
                  have hs := hp.stp (Ch.drew [] w31854)
                  have hp := hp.drew
                  replace a30772 := a30772.step hs
                  replace r30819 := r30819.step hs
                  replace r30822 := r30822.step hs
                  replace a30777 := a30777.step hs
                  replace r30825 := r30825.step hs
                  replace r30828 := r30828.step hs
                  replace a30782 := a30782.step hs
                  replace r30831 := r30831.step hs
                  replace r30834 := r30834.step hs
                  replace r31257 := r31257.step hs
                  replace r31261 := r31261.step hs
                  replace r31266 := r31266.step hs
                  replace r31270 := r31270.step hs
                  replace tb := tb.step hs
                  refine W.heldT [(0, true), (1, true), (3, true), (4, true), (6, true), (7, true), (2, false), (5, false), (8, false), (9, false), (10, false), (11, true), (12, true), (13, true), (14, true), (16, true), (15, false), (17, false), (18, false), (19, true), (20, true)] (fun x => Stp I31853 w31854.drew I31853 x ∧ OwnK [(g31253, [(.bool x31254), v31256, (.bool x31258), v31260], 26)] x) MX (by kernel_rfl) ⟨Stp.refl _ _, (OwnK.cons (hp.own 0 _ _ _ rfl).1 OwnK.nil)⟩ ?_
                  have hz := Stp.refl I31853 w31854.drew
                  intro ops hops
                  have e0 : nthO ops 0 = some _ := (hops 0).trans rfl
                  have e1 : nthO ops 1 = some _ := (hops 1).trans rfl
                  have e2 : nthO ops 2 = some _ := (hops 2).trans rfl
                  have e3 : nthO ops 3 = some _ := (hops 3).trans rfl
                  have e4 : nthO ops 4 = some _ := (hops 4).trans rfl
                  have e5 : nthO ops 5 = some _ := (hops 5).trans rfl
                  have e6 : nthO ops 6 = some _ := (hops 6).trans rfl
                  have e7 : nthO ops 7 = some _ := (hops 7).trans rfl
                  have e8 : nthO ops 8 = some _ := (hops 8).trans rfl
                  have e9 : nthO ops 9 = some _ := (hops 9).trans rfl
                  have e10 : nthO ops 10 = some _ := (hops 10).trans rfl
                  have e11 : nthO ops 11 = some _ := (hops 11).trans rfl
                  have e12 : nthO ops 12 = some _ := (hops 12).trans rfl
                  have e13 : nthO ops 13 = some _ := (hops 13).trans rfl
                  have e14 : nthO ops 14 = some _ := (hops 14).trans rfl
                  have e15 : nthO ops 15 = some _ := (hops 15).trans rfl
                  have e16 : nthO ops 16 = some _ := (hops 16).trans rfl
                  have e17 : nthO ops 17 = some _ := (hops 17).trans rfl
                  have e18 : nthO ops 18 = some _ := (hops 18).trans rfl
                  have e19 : nthO ops 19 = some _ := (hops 19).trans rfl
                  have e20 : nthO ops 20 = some _ := (hops 20).trans rfl
                  clear hops
                  refine vch_q e0 rfl ?_
                  refine evh (fun w' hw => rn_load rfl rfl (run_loadVarA T26 rfl (hw.2.at_ (i := 0) rfl))) ?_
                  refine vch_q e1 rfl ?_
                  refine evh (fun w' hw => rn_load rfl rfl (run_loadVarA T26 rfl (a30782.step hw.1))) ?_
                  refine vch_q e3 rfl ?_
                  refine evh (fun w' hw => rn_load rfl rfl (run_loadVarA T26 rfl (a30772.step hw.1))) ?_
                  refine vch_q e4 rfl ?_
                  refine evh (fun w' hw => rn_load rfl rfl (run_loadVarA T26 rfl (a30782.step hw.1))) ?_
                  refine vch_q e6 rfl ?_
                  refine evh (fun w' hw => rn_load rfl rfl (run_loadVarA T26 rfl (a30777.step hw.1))) ?_
                  refine vch_q e7 rfl ?_
                  refine evh (fun w' hw => rn_load rfl rfl (run_loadVarA T26 rfl (a30782.step hw.1))) ?_
                  refine vch_l e2 rfl ?_
                  obtain ⟨x32132, q32133, q32077⟩ := bind_some q32077
                  refine ev_call rfl rfl C23 (((rational_Mul_ok n) _ _  (Rational.mk (Int_2.mk x31254 x31255) (Int_2.mk x31258 x31259)) v31256 r31257 v31260 r31261 (Rational.mk (Int_2.mk x30763.Num.Neg x30829) (Int_2.mk x30763.Den.Neg x30832)) v30830 r30831 v30833 r30834 hp.imm _ q32133).mono ?_)
                  rintro _ w32134 ⟨I32135, v32136, v32138, hv, hq, r32137, r32139⟩
                  replace hv := hv.symm
                  subst hv
                  have hs := hq.st
                  have hp := hp.join0 hq
                  replace hz := hz.trans hs
                  replace a30772 := a30772.step hs
                  replace r30819 := r30819.step hs
                  replace r30822 := r30822.step hs
                  replace a30777 := a30777.step hs
                  replace r30825 := r30825.step hs
                  replace r30828 := r30828.step hs
                  replace r30831 := r30831.step hs
                  replace r30834 := r30834.step hs
                  replace r31257 := r31257.step hs
                  replace r31261 := r31261.step hs
                  replace r31266 := r31266.step hs
                  replace r31270 := r31270.step hs
                  replace tb := tb.step hs
                  refine ⟨fun x => Stp I32135 w32134 I32135 x ∧ OwnK [(g31253, [(.bool x31254), v31256, (.bool x31258), v31260], 26)] x, ⟨Stp.refl _ _, (OwnK.cons (hp.own 0 _ _ _ rfl).1 OwnK.nil)⟩, fun x hx => ⟨hz.held hx.1, hx.2⟩, ?_⟩
                  have hz := Stp.refl I32135 w32134
                  refine vch_l e5 rfl ?_
                  obtain ⟨x32140, q32141, q32077⟩ := bind_some q32077
                  refine ev_call rfl rfl C23 (((rational_Mul_ok n) _ _  (Rational.mk (Int_2.mk x30753.Num.Neg x30817) (Int_2.mk x30753.Den.Neg x30820)) v30818 r30819 v30821 r30822 (Rational.mk (Int_2.mk x30763.Num.Neg x30829) (Int_2.mk x30763.Den.Neg x30832)) v30830 r30831 v30833 r30834 hp.imm _ q32141).mono ?_)
                  rintro _ w32142 ⟨I32143, v32144, v32146, hv, hq, r32145, r32147⟩
                  replace hv := hv.symm
                  subst hv
                  have hs := hq.st
                  have hp := hp.join0 hq
                  replace hz := hz.trans hs
                  replace a30772 := a30772.step hs
                  replace r30819 := r30819.step hs
                  replace r30822 := r30822.step hs
                  replace a30777 := a30777.step hs
                  replace r30825 := r30825.step hs
                  replace r30828 := r30828.step hs
                  replace r30831 := r30831.step hs
                  replace r30834 := r30834.step hs
                  replace r32137 := r32137.step hs
                  replace r32139 := r32139.step hs
                  replace r31257 := r31257.step hs
                  replace r31261 := r31261.step hs
                  replace r31266 := r31266.step hs
                  replace r31270 := r31270.step hs
                  replace tb := tb.step hs
                  refine ⟨fun x => Stp I32143 w32142 I32143 x ∧ OwnK [(g31253, [(.bool x31254), v31256, (.bool x31258), v31260], 26)] x, ⟨Stp.refl _ _, (OwnK.cons (hp.own 0 _ _ _ rfl).1 OwnK.nil)⟩, fun x hx => ⟨hz.held hx.1, hx.2⟩, ?_⟩
                  have hz := Stp.refl I32143 w32142
                  refine vch_l e8 rfl ?_
                  obtain ⟨x32148, q32149, q32077⟩ := bind_some q32077
                  refine ev_call rfl rfl C23 (((rational_Mul_ok n) _ _  (Rational.mk (Int_2.mk x30758.Num.Neg x30823) (Int_2.mk x30758.Den.Neg x30826)) v30824 r30825 v30827 r30828 (Rational.mk (Int_2.mk x30763.Num.Neg x30829) (Int_2.mk x30763.Den.Neg x30832)) v30830 r30831 v30833 r30834 hp.imm _ q32149).mono ?_)
                  rintro _ w32150 ⟨I32151, v32152, v32154, hv, hq, r32153, r32155⟩
                  replace hv := hv.symm
                  subst hv
                  have hs := hq.st
                  have hp := hp.join0 hq
                  replace hz := hz.trans hs
                  replace a30772 := a30772.step hs
                  replace r30819 := r30819.step hs
                  replace r30822 := r30822.step hs
                  replace a30777 := a30777.step hs
                  replace r30825 := r30825.step hs
                  replace r30828 := r30828.step hs
                  replace r32137 := r32137.step hs
                  replace r32139 := r32139.step hs
                  replace r32145 := r32145.step hs
                  replace r32147 := r32147.step hs
                  replace r31257 := r31257.step hs
                  replace r31261 := r31261.step hs
                  replace r31266 := r31266.step hs
                  replace r31270 := r31270.step hs
                  replace tb := tb.step hs
                  refine ⟨fun x => Stp I32151 w32150 I32151 x ∧ OwnK [(g31253, [(.bool x31254), v31256, (.bool x31258), v31260], 26)] x, ⟨Stp.refl _ _, (OwnK.cons (hp.own 0 _ _ _ rfl).1 OwnK.nil)⟩, fun x hx => ⟨hz.held hx.1, hx.2⟩, ?_⟩
                  have hz := Stp.refl I32151 w32150
                  refine vch_l e9 rfl ?_
                  obtain ⟨x32156, q32157, q32077⟩ := bind_some q32077
                  refine ev_call rfl rfl C19 (((rational_Add_ok n) _ _  x32140 v32144 r32145 v32146 r32147 x32148 v32152 r32153 v32154 r32155 hp.imm _ q32157).mono ?_)
                  rintro _ w32158 ⟨I32159, v32160, v32162, hv, hq, r32161, r32163⟩
                  replace hv := hv.symm
                  subst hv
                  have hs := hq.st
                  have hp := hp.join0 hq
                  replace hz := hz.trans hs
                  replace a30772 := a30772.step hs
                  replace r30819 := r30819.step hs
                  replace r30822 := r30822.step hs
                  replace a30777 := a30777.step hs
                  replace r30825 := r30825.step hs
                  replace r30828 := r30828.step hs
                  replace r32137 := r32137.step hs
                  replace r32139 := r32139.step hs
                  replace r31257 := r31257.step hs
                  replace r31261 := r31261.step hs
                  replace r31266 := r31266.step hs
                  replace r31270 := r31270.step hs
                  replace tb := tb.step hs
                  refine ⟨fun x => Stp I32159 w32158 I32159 x ∧ OwnK [(g31253, [(.bool x31254), v31256, (.bool x31258), v31260], 26)] x, ⟨Stp.refl _ _, (OwnK.cons (hp.own 0 _ _ _ rfl).1 OwnK.nil)⟩, fun x hx => ⟨hz.held hx.1, hx.2⟩, ?_⟩
                  have hz := Stp.refl I32159 w32158
                  refine vch_l e10 rfl ?_
                  obtain ⟨x32164, q32165, q32077⟩ := bind_some q32077
                  refine ev_call rfl rfl C11 (((base_Rational_ok n) _ _  x32132 v32136 r32137 v32138 r32139 x32156 v32160 r32161 v32162 r32163 hp.imm _ q32165).mono ?_)
                  rintro _ w32166 ⟨rfl, hc⟩
                  have hs := hp.stp hc
                  replace hp := hp.ext hc
                  replace hz := hz.trans hs
                  replace a30772 := a30772.step hs
                  replace r30819 := r30819.step hs
                  replace r30822 := r30822.step hs
                  replace a30777 := a30777.step hs
                  replace r30825 := r30825.step hs
                  replace r30828 := r30828.step hs
                  replace r31257 := r31257.step hs
                  replace r31261 := r31261.step hs
                  replace r31266 := r31266.step hs
                  replace r31270 := r31270.step hs
                  replace tb := tb.step hs
                  refine ⟨fun x => Stp I32159 w32166 I32159 x ∧ OwnK [(g31253, [(.bool x31254), v31256, (.bool x31258), v31260], 26)] x, ⟨Stp.refl _ _, (OwnK.cons (hp.own 0 _ _ _ rfl).1 OwnK.nil)⟩, fun x hx => ⟨hz.held hx.1, hx.2⟩, ?_⟩
                  have hz := Stp.refl I32159 w32166
                  refine vch_q e11 rfl ?_
                  refine vch_q e12 rfl ?_
                  rcases Bool.eq_false_or_eq_true (!x32164) with hc | hc
                  ·
                    have q32077 := cond_t q32077 hc
                    refine vch_qf e13 rfl e12 rfl rfl hc ?_
                    refine vch_qf e14 rfl e12 rfl rfl rfl ?_
                    refine vch_qf e16 rfl e12 rfl rfl rfl ?_
                    refine vch_lf e15 rfl e12 rfl rfl rfl ?_
                    refine ⟨fun x => Stp I32159 w32166 I32159 x ∧ OwnK [(g31253, [(.bool x31254), v31256, (.bool x31258), v31260], 26)] x, ⟨Stp.refl _ _, (OwnK.cons (hp.own 0 _ _ _ rfl).1 OwnK.nil)⟩, fun x hx => ⟨hz.held hx.1, hx.2⟩, ?_⟩
                    have hz := Stp.refl I32159 w32166
                    refine vch_lf e17 rfl e12 rfl rfl rfl ?_
                    refine ⟨fun x => Stp I32159 w32166 I32159 x ∧ OwnK [(g31253, [(.bool x31254), v31256, (.bool x31258), v31260], 26)] x, ⟨Stp.refl _ _, (OwnK.cons (hp.own 0 _ _ _ rfl).1 OwnK.nil)⟩, fun x hx => ⟨hz.held hx.1, hx.2⟩, ?_⟩
                    have hz := Stp.refl I32159 w32166
                    refine vch_lf e18 rfl e12 rfl rfl rfl ?_
                    refine ⟨fun x => Stp I32159 w32166 I32159 x ∧ OwnK [(g31253, [(.bool x31254), v31256, (.bool x31258), v31260], 26)] x, ⟨Stp.refl _ _, (OwnK.cons (hp.own 0 _ _ _ rfl).1 OwnK.nil)⟩, fun x hx => ⟨hz.held hx.1, hx.2⟩, ?_⟩
                    have hz := Stp.refl I32159 w32166
                    refine vch_qf e19 rfl e12 rfl rfl rfl ?_
                    refine vch_q e20 rfl ?_
                    refine vch_end ?_
                    obtain rfl := Option.some.inj q32077
                    have hp := hp.sel [1] (by decide)
                    exact ⟨(true, I32159), (.c rfl (.c rfl (.c rfl (.c rfl .n)))), rfl, hp, r30819, r30822, a30772, r30825, r30828, a30777, r31266, r31270, tb⟩
                  ·
                    have q32077 := cond_f q32077 hc
                    refine vch_qt e13 rfl e12 rfl rfl hc ?_
                    refine evh (fun w' hw => rn_load rfl rfl (run_loadVarA T26 rfl (hw.2.at_ (i := 0) rfl))) ?_
                    refine vch_qt e14 rfl e12 rfl rfl rfl ?_
                    refine evh (fun w' hw => rn_load rfl rfl (run_loadVarA T26 rfl (a30777.step hw.1))) ?_
                    refine vch_qt e16 rfl e12 rfl rfl rfl ?_
                    refine evh (fun w' hw => rn_load rfl rfl (run_loadVarA T26 rfl (a30772.step hw.1))) ?_
                    refine vch_lt e15 rfl e12 rfl rfl rfl ?_
                    obtain ⟨x32167, q32168, q32077⟩ := bind_some q32077
                    refine ev_call rfl rfl C21 (((rational_Sub_ok n) _ _  (Rational.mk (Int_2.mk x31254 x31255) (Int_2.mk x31258 x31259)) v31256 r31257 v31260 r31261 (Rational.mk (Int_2.mk x30758.Num.Neg x30823) (Int_2.mk x30758.Den.Neg x30826)) v30824 r30825 v30827 r30828 hp.imm _ q32168).mono ?_)
                    rintro _ w32169 ⟨I32170, v32171, v32173, hv, hq, r32172, r32174⟩
                    replace hv := hv.symm
                    subst hv
                    have hs := hq.st
                    have hp := hp.join0 hq
                    replace hz := hz.trans hs
                    replace a30772 := a30772.step hs
                    replace r30819 := r30819.step hs
                    replace r30822 := r30822.step hs
                    replace a30777 := a30777.step hs
                    replace r30825 := r30825.step hs
                    replace r30828 := r30828.step hs
                    replace r31257 := r31257.step hs
                    replace r31261 := r31261.step hs
                    replace r31266 := r31266.step hs
                    replace r31270 := r31270.step hs
                    replace tb := tb.step hs
                    refine ⟨fun x => Stp I32170 w32169 I32170 x ∧ OwnK [(g31253, [(.bool x31254), v31256, (.bool x31258), v31260], 26)] x, ⟨Stp.refl _ _, (OwnK.cons (hp.own 0 _ _ _ rfl).1 OwnK.nil)⟩, fun x hx => ⟨hz.held hx.1, hx.2⟩, ?_⟩
                    have hz := Stp.refl I32170 w32169
                    refine vch_lt e17 rfl e12 rfl rfl rfl ?_
                    obtain ⟨x32175, q32176, q32077⟩ := bind_some q32077
                    refine ev_call rfl rfl C16 (((rational_Norm_ok n) _ _  (Rational.mk (Int_2.mk x30753.Num.Neg x30817) (Int_2.mk x30753.Den.Neg x30820)) v30818 r30819 v30821 r30822 hp.imm _ q32176).mono ?_)
                    rintro _ w32177 ⟨I32178, v32179, v32181, hv, hq, r32180, r32182⟩
                    replace hv := hv.symm
                    subst hv
                    have hs := hq.st
                    have hp := hp.join0 hq
                    replace hz := hz.trans hs
                    replace a30772 := a30772.step hs
                    replace r30819 := r30819.step hs
                    replace r30822 := r30822.step hs
                    replace a30777 := a30777.step hs
                    replace r30825 := r30825.step hs
                    replace r30828 := r30828.step hs
                    replace r32172 := r32172.step hs
                    replace r32174 := r32174.step hs
                    replace r31257 := r31257.step hs
                    replace r31261 := r31261.step hs
                    replace r31266 := r31266.step hs
                    replace r31270 := r31270.step hs
                    replace tb := tb.step hs
                    refine ⟨fun x => Stp I32178 w32177 I32178 x ∧ OwnK [(g31253, [(.bool x31254), v31256, (.bool x31258), v31260], 26)] x, ⟨Stp.refl _ _, (OwnK.cons (hp.own 0 _ _ _ rfl).1 OwnK.nil)⟩, fun x hx => ⟨hz.held hx.1, hx.2⟩, ?_⟩
                    have hz := Stp.refl I32178 w32177
                    refine vch_lt e18 rfl e12 rfl rfl rfl ?_
                    obtain ⟨x32183, q32184, q32077⟩ := bind_some q32077
                    refine ev_call rfl rfl C11 (((base_Rational_ok n) _ _  x32167 v32171 r32172 v32173 r32174 x32175 v32179 r32180 v32181 r32182 hp.imm _ q32184).mono ?_)
                    rintro _ w32185 ⟨rfl, hc⟩
                    have hs := hp.stp hc
                    replace hp := hp.ext hc
                    replace hz := hz.trans hs
                    replace a30772 := a30772.step hs
                    replace r30819 := r30819.step hs
                    replace r30822 := r30822.step hs
                    replace a30777 := a30777.step hs
                    replace r30825 := r30825.step hs
                    replace r30828 := r30828.step hs
                    replace r31257 := r31257.step hs
                    replace r31261 := r31261.step hs
                    replace r31266 := r31266.step hs
                    replace r31270 := r31270.step hs
                    replace tb := tb.step hs
                    refine ⟨fun x => Stp I32178 w32185 I32178 x ∧ OwnK [(g31253, [(.bool x31254), v31256, (.bool x31258), v31260], 26)] x, ⟨Stp.refl _ _, (OwnK.cons (hp.own 0 _ _ _ rfl).1 OwnK.nil)⟩, fun x hx => ⟨hz.held hx.1, hx.2⟩, ?_⟩
                    have hz := Stp.refl I32178 w32185
                    refine vch_qt e19 rfl e12 rfl rfl rfl ?_
                    refine vch_q e20 rfl ?_
                    refine vch_end ?_
                    obtain rfl := Option.some.inj q32077
                    have hp := hp.sel [1] (by decide)
                    exact ⟨((!x32183), I32178), (.c rfl (.c rfl (.c rfl (.c rfl .n)))), rfl, hp, r30819, r30822, a30772, r30825, r30828, a30777, r31266, r31270, tb⟩
                ·
                  rintro ⟨x32073, I32074⟩ w32075 ⟨hy, hp, r30819, r30822, a30772, r30825, r30828, a30777, r31266, r31270, tb⟩
                  replace hy := hy.symm
                  subst hy
                  apply go
                  refine sel_of (fun hc => ?_) (fun hc => ?_)
                  ·
                    have h := cond_t h hc
                    apply go
                    apply go
                    apply go
                    obtain rfl := Option.some.inj h
                    exact ⟨rfl, hp.ch⟩
                  ·
                    have h := cond_f h hc
                    apply go
                    apply go
                    apply go
                    refine ev (rn_load rfl rfl (run_loadVarA T26 rfl (hp.at_ (i := 0) rfl))) ?_
                    refine ev (rn_load rfl rfl (run_loadVarA T26 rfl a30777)) ?_
                    obtain ⟨⟨x32186, x32187⟩, q32188, h⟩ := bind_some h
                    refine ev_call rfl rfl C27 (((rational_Div_ok n) _ _  (Rational.mk (Int_2.mk x31263 x31264) (Int_2.mk x31267 x31268)) v31265 r31266 v31269 r31270 (Rational.mk (Int_2.mk x30758.Num.Neg x30823) (Int_2.mk x30758.Den.Neg x30826)) v30824 r30825 v30827 r30828 hp.imm _ q32188).mono ?_)
                    rintro _ w32189 ⟨I32190, v32191, v32193, hv, hq, r32192, r32194⟩
                    replace hv := hv.symm
                    subst hv
                    have hs := hq.st
                    have hp := hp.join0 hq
                    replace a30772 := a30772.step hs
                    replace r30819 := r30819.step hs
                    replace r30822 := r30822.step hs
                    replace a30777 := a30777.step hs
                    replace r30825 := r30825.step hs
                    replace r30828 := r30828.step hs
                    replace r31266 := r31266.step hs
                    replace r31270 := r31270.step hs
                    replace tb := tb.step hs
                    refine ev_alloc hp rfl T26 ?_
                    intro g32195 w32196 hp hs
                    replace a30772 := a30772.step hs
                    replace r30819 := r30819.step hs
                    replace r30822 := r30822.step hs
                    replace a30777 := a30777.step hs
                    replace r30825 := r30825.step hs
                    replace r30828 := r30828.step hs
                    replace r32192 := r32192.step hs
                    replace r32194 := r32194.step hs
                    replace r31266 := r31266.step hs
                    replace r31270 := r31270.step hs
                    replace tb := tb.step hs
                    refine ev_storeA hp (i := 0) (off := 0) (vs := [(.bool x32186.Num.Neg), v32191, (.bool x32186.Den.Neg), v32193]) rfl rfl rfl rfl T26 rfl (Nat.le_of_ble_eq_true rfl) (ones_cons rfl (ones_cons r32192.one (ones_cons rfl (ones_cons r32194.one ones_nil)))) ?_
                    intro w32197 hp hs
                    replace a30772 := a30772.step hs
                    replace r30819 := r30819.step hs
                    replace r30822 := r30822.step hs
                    replace a30777 := a30777.step hs
                    replace r30825 := r30825.step hs
                    replace r30828 := r30828.step hs
                    replace r32192 := r32192.step hs
                    replace r32194 := r32194.step hs
                    replace r31266 := r31266.step hs
                    replace r31270 := r31270.step hs
                    replace tb := tb.step hs
                    apply go
                    apply go
                    apply go
                    refine ev (rn_load rfl rfl (run_loadVarA T26 rfl a30777)) ?_
                    obtain ⟨x32198, q32199, h⟩ := bind_some h
                    refine ev_call rfl rfl C17 (((rational_Sign_ok n) _ _  (Rational.mk (Int_2.mk x30758.Num.Neg x30823) (Int_2.mk x30758.Den.Neg x30826)) v30824 r30825 v30827 r30828 hp.imm _ q32199).mono ?_)
                    rintro _ w32200 ⟨rfl, hc⟩
                    have hs := hp.stp hc
                    replace hp := hp.ext hc
                    replace a30772 := a30772.step hs
                    replace r30819 := r30819.step hs
                    replace r30822 := r30822.step hs
                    replace r32192 := r32192.step hs
                    replace r32194 := r32194.step hs
                    replace r31266 := r31266.step hs
                    replace r31270 := r31270.step hs
                    replace tb := tb.step hs
                    apply go
                    refine sel_of (fun hc => ?_) (fun hc => ?_)
                    ·
                      have h := cond_t h hc
                      apply go
                      apply go
                      apply go
                      obtain rfl := Option.some.inj h
                      exact ⟨rfl, hp.ch⟩
                    ·
                      have h := cond_f h hc
                      apply go
                      obtain ⟨y32226, q32227, h⟩ := bind_some h
                      refine W.cut (γ := (Bool × (Nat → Prop))) (fun g => [(6, (.bool (g.1)))]) (fun g w' => y32226 = (g.1) ∧ Hp ⟨w0, I0, []⟩ (g.2) [] w' ∧ Tb w' (g.2) 1 .u64 pow10) ?_ ?_
                      ·
                        have hs := hp.stp (Ch.drew [] w32200)
                        have hp := hp.drew
                        replace a30772 := a30772.step hs
                        replace r30819 := r30819.step hs
                        replace r30822 := r30822.step hs
                        replace r32192 := r32192.step hs
                        replace r32194 := r32194.step hs
                        replace r31266 := r31266.step hs
                        replace r31270 := r31270.step hs
                        replace tb := tb.step hs
                        refine W.heldT [(0, true), (1, true), (2, true), (3, true), (4, true), (5, false), (6, false), (7, true), (8, true)] (fun x => Stp I32190 w32200.drew I32190 x ∧ OwnK [(g32195, [(.bool x32186.Num.Neg), v32191, (.bool x32186.Den.Neg), v32193], 26)] x) MX (by kernel_rfl) ⟨Stp.refl _ _, (OwnK.cons (hp.own 0 _ _ _ rfl).1 OwnK.nil)⟩ ?_
                        have hz := Stp.refl I32190 w32200.drew
                        intro ops hops
                        have e0 : nthO ops 0 = some _ := (hops 0).trans rfl
                        have e1 : nthO ops 1 = some _ := (hops 1).trans rfl
                        have e2 : nthO ops 2 = some _ := (hops 2).trans rfl
                        have e3 : nthO ops 3 = some _ := (hops 3).trans rfl
                        have e4 : nthO ops 4 = some _ := (hops 4).trans rfl
                        have e5 : nthO ops 5 = some _ := (hops 5).trans rfl
                        have e6 : nthO ops 6 = some _ := (hops 6).trans rfl
                        have e7 : nthO ops 7 = some _ := (hops 7).trans rfl
                        have e8 : nthO ops 8 = some _ := (hops 8).trans rfl
                        clear hops
                        refine vch_q e0 rfl ?_
                        refine vch_q e1 rfl ?_
                        refine vch_q e2 rfl ?_
                        rcases Bool.eq_false_or_eq_true (x32187 == 0) with hc | hc
                        ·
                          have q32227 := cond_t q32227 hc
                          refine vch_qt e3 rfl e2 rfl rfl hc ?_
                          refine evh (fun w' hw => rn_load rfl rfl (run_loadVarA T26 rfl (hw.2.at_ (i := 0) rfl))) ?_
                          refine vch_qt e4 rfl e2 rfl rfl rfl ?_
                          refine evh (fun w' hw => rn_load rfl rfl (run_loadVarA T26 rfl (a30772.step hw.1))) ?_
                          refine vch_lt e5 rfl e2 rfl rfl rfl ?_
                          obtain ⟨x32239, q32240, q32227⟩ := bind_some q32227
                          refine ev_call rfl rfl C16 (((rational_Norm_ok n) _ _  (Rational.mk (Int_2.mk x30753.Num.Neg x30817) (Int_2.mk x30753.Den.Neg x30820)) v30818 r30819 v30821 r30822 hp.imm _ q32240).mono ?_)
                          rintro _ w32241 ⟨I32242, v32243, v32245, hv, hq, r32244, r32246⟩
                          replace hv := hv.symm
                          subst hv
                          have hs := hq.st
                          have hp := hp.join0 hq
                          replace hz := hz.trans hs
                          replace r32192 := r32192.step hs
                          replace r32194 := r32194.step hs
                          replace r31266 := r31266.step hs
                          replace r31270 := r31270.step hs
                          replace tb := tb.step hs
                          refine ⟨fun x => Stp I32242 w32241 I32242 x ∧ OwnK [(g32195, [(.bool x32186.Num.Neg), v32191, (.bool x32186.Den.Neg), v32193], 26)] x, ⟨Stp.refl _ _, (OwnK.cons (hp.own 0 _ _ _ rfl).1 OwnK.nil)⟩, fun x hx => ⟨hz.held hx.1, hx.2⟩, ?_⟩
                          have hz := Stp.refl I32242 w32241
                          refine vch_lt e6 rfl e2 rfl rfl rfl ?_
                          obtain ⟨x32247, q32248, q32227⟩ := bind_some q32227
                          refine ev_call rfl rfl C11 (((base_Rational_ok n) _ _  (Rational.mk (Int_2.mk x32186.Num.Neg x32186.Num.Mag) (Int_2.mk x32186.Den.Neg x32186.Den.Mag)) v32191 r32192 v32193 r32194 x32239 v32243 r32244 v32245 r32246 hp.imm _ q32248).mono ?_)
                          rintro _ w32249 ⟨rfl, hc⟩
                          have hs := hp.stp hc
                          replace hp := hp.ext hc
                          replace hz := hz.trans hs
                          replace r32192 := r32192.step hs
                          replace r32194 := r32194.step hs
                          replace r31266 := r31266.step hs
                          replace r31270 := r31270.step hs
                          replace tb := tb.step hs
                          refine ⟨fun x => Stp I32242 w32249 I32242 x ∧ OwnK [(g32195, [(.bool x32186.Num.Neg), v32191, (.bool x32186.Den.Neg), v32193], 26)] x, ⟨Stp.refl _ _, (OwnK.cons (hp.own 0 _ _ _ rfl).1 OwnK.nil)⟩, fun x hx => ⟨hz.held hx.1, hx.2⟩, ?_⟩
                          have hz := Stp.refl I32242 w32249
                          refine vch_q e7 rfl ?_
                          refine vch_q e8 rfl ?_
                          refine vch_end ?_
                          obtain rfl := Option.some.inj q32227
                          have hp := hp.sel [] (by decide)
                          exact ⟨(x32247, I32242), (.c rfl .n), rfl, hp, tb⟩
                        ·
                          have q32227 := cond_f q32227 hc
                          refine vch_qf e3 rfl e2 rfl rfl hc ?_
                          refine vch_qf e4 rfl e2 rfl rfl rfl ?_
                          refine vch_lf e5 rfl e2 rfl rfl rfl ?_
                          refine ⟨fun x => Stp I32190 w32200.drew I32190 x ∧ OwnK [(g32195, [(.bool x32186.Num.Neg), v32191, (.bool x32186.Den.Neg), v32193], 26)] x, ⟨Stp.refl _ _, (OwnK.cons (hp.own 0 _ _ _ rfl).1 OwnK.nil)⟩, fun x hx => ⟨hz.held hx.1, hx.2⟩, ?_⟩
                          have hz := Stp.refl I32190 w32200.drew
                          refine vch_lf e6 rfl e2 rfl rfl rfl ?_
                          refine ⟨fun x => Stp I32190 w32200.drew I32190 x ∧ OwnK [(g32195, [(.bool x32186.Num.Neg), v32191, (.bool x32186.Den.Neg), v32193], 26)] x, ⟨Stp.refl _ _, (OwnK.cons (hp.own 0 _ _ _ rfl).1 OwnK.nil)⟩, fun x hx => ⟨hz.held hx.1, hx.2⟩, ?_⟩
                          have hz := Stp.refl I32190 w32200.drew
                          refine vch_q e7 rfl ?_
                          refine vch_q e8 rfl ?_
                          refine vch_end ?_
                          obtain rfl := Option.some.inj q32227
                          have hp := hp.sel [] (by decide)
                          exact ⟨(false, I32190), (.c rfl .n), rfl, hp, tb⟩
                      ·
                        rintro ⟨x32223, I32224⟩ w32225 ⟨hy, hp, tb⟩
                        replace hy := hy.symm
                        subst hy
                        apply go
                        obtain rfl := Option.some.inj h
                        exact ⟨rfl, hp.ch⟩

end Go.Proofs.YtepadjfmcbjkmaaDoor
