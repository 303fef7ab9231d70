/-
  Each function of the program computes the plain function of its name.
-/
import Derived.Test.YtepadjfmcbjkmaaDoorFactsA
import Derived.Test.YtepadjfmcbjkmaaDoorWalkA
import Derived.Lib.Walk
import Derived.BigCall
import Derived.BigGuard
import Derived.Test.YtepadjfmcbjkmaaDoorCoreA
namespace Go.Proofs.YtepadjfmcbjkmaaDoor
open Go Go.Proofs.YtepadjfmcbjkmaaDoor.Gw Go.RowKit
set_option linter.unusedVariables false
attribute [local irreducible] Ev EvQ EvS EvH
def rational_one_S (f : Int_2 → Option Bool) : Prop := ∀ (w0 : World) (I0 : Nat → Prop) (x17386 : Int_2) (v17387 : Value) (r17388 : RepS (dI .u32) w0 I0 v17387 x17386.Mag) (hI : ∀ g, I0 g → g < w0.heap.size) (r : Bool), f x17386 = some r →
    Ret Tryd.prog 52 #[(.agg #[(.bool x17386.Neg), v17387])] w0 fun v w1 => v = (.bool r) ∧ Ch [] w0 w1
theorem rational_one_ok (n : Nat) : rational_one_S (rational_one n) := by
  intro w0 I0 x17386 v17387 r17388 hI r h
  unfold rational_one at h
  refine enter Tryd.func52 rfl (Nat.le_of_ble_eq_true rfl) ?_
  have hp : Hp ⟨w0, I0, []⟩ I0 [] w0 := Hp.start hI
  apply go
  apply go
  refine ev_boxI hp rfl rfl ?_
  intro p17391 I17392 w17390 hp hs a17393
  replace r17388 := r17388.step hs
  apply go
  have hs := hp.stp (Ch.drew [] w17390)
  have hp := hp.drew
  replace a17393 := a17393.step hs
  replace r17388 := r17388.step hs
  refine W.held [(0, true), (1, false), (2, false), (3, true), (4, true)] (Stp I17392 w17390.drew I17392) MX (by kernel_rfl) (Stp.refl _ _) ?_
  have hz := Stp.refl I17392 w17390.drew
  refine evh (fun w' hw => rn_load rfl rfl (run_loadVarA T24 rfl (a17393.step hw))) ?_
  obtain ⟨x17403, q17404, h⟩ := bind_some h
  refine ev_call rfl rfl C38 (((integer_Of_ok n) _ _  1 hp.imm _ q17404).mono ?_)
  rintro _ w17405 ⟨I17406, v17407, hv, hq, r17408⟩
  replace hv := hv.symm
  subst hv
  have hs := hq.st
  have hp := hp.join0 hq
  replace hz := hz.trans hs
  replace r17388 := r17388.step hs
  refine ⟨Stp I17406 w17405 I17406, Stp.refl _ _, fun x hx => hz.held hx, ?_⟩
  have hz := Stp.refl I17406 w17405
  obtain ⟨x17409, q17410, h⟩ := bind_some h
  refine ev_call rfl rfl C51 (((integer_Cmp_ok n) _ _  (Int_2.mk x17386.Neg x17386.Mag) v17387 r17388 x17403 v17407 r17408 hp.imm _ q17410).mono ?_)
  rintro _ w17411 ⟨rfl, hc⟩
  have hs := hp.stp hc
  replace hp := hp.ext hc
  replace hz := hz.trans hs
  refine ⟨Stp I17406 w17411 I17406, Stp.refl _ _, fun x hx => hz.held hx, ?_⟩
  have hz := Stp.refl I17406 w17411
  apply go
  obtain rfl := Option.some.inj h
  exact ⟨rfl, hp.ch⟩

end Go.Proofs.YtepadjfmcbjkmaaDoor

namespace Go.Proofs.YtepadjfmcbjkmaaDoor
open Go Go.Proofs.YtepadjfmcbjkmaaDoor.Gw Go.RowKit
set_option linter.unusedVariables false
attribute [local irreducible] Ev EvQ EvS EvH
def strconv_FormatUint_S (f : Int → Int → Option ByteArray) : Prop := ∀ (w0 : World) (I0 : Nat → Prop) (tb : Tb w0 I0 1 .u64 pow10) (x17427 : Int) (x17428 : Int) (hI : ∀ g, I0 g → g < w0.heap.size) (r : ByteArray), f x17427 x17428 = some r →
    Ret Tryd.prog 73 #[(.int .u64 x17427), (.int .i64 x17428)] w0 fun v w1 => v = (.string r) ∧ Ch [] w0 w1

open Go.Sort in
theorem fmt_zero (w : World) (nd : Nat) (hs : nd ≤ 24) : Holds (fun (b : UInt8) => Value.int .u8 (b.toNat : Int)) (w.alloc (.cells Lib.zeros24 103)) w.heap.size 0 (Array.replicate nd (0 : UInt8)) := fun j hj => by
  have hj' : j < nd := by simpa using hj
  refine ⟨?_, World.frozen?_alloc_new _ _ _ _⟩
  rw [World.cell?_alloc_new, Lib.zeros24_at _ (by omega), getElem!_pos _ j hj]
  simp
open Go.Sort in
theorem fmt_below (w : World) (o : Obj) (dk : Array UInt8) (k : Nat) : Below w.heap.size w ((putRow (fun (b : UInt8) => Value.int .u8 (b.toNat : Int)) (w.alloc o) w.heap.size 0 dk).drewN k) := by
  have h1 : Below w.heap.size w (putRow (fun (b : UInt8) => Value.int .u8 (b.toNat : Int)) (w.alloc o) w.heap.size 0 dk) := by
    refine ⟨rfl, rfl, rfl, by rw [size_putRow]; exact (Below.alloc (Below.refl w.heap.size w) (Nat.le_refl _) o).size, fun g hg => ?_⟩
    rw [← Below.heap_alloc w o g hg]
    unfold putRow mapBlock
    dsimp only
    rw [Array.getElem?_modify, if_neg (by omega)]
  refine ⟨?_, ?_, ?_, ?_, ?_⟩
  · exact h1.os
  · exact h1.tape
  · exact h1.output
  · exact h1.size
  · exact h1.block
set_option maxHeartbeats 6400000 in
set_option maxRecDepth 100000 in
theorem fmt_big (u : Nat) (h100 : 100 ≤ u) (hu64 : u < 18446744073709551616) (w : World) (htab : Lib.TabIs Tryd.prog w "internal/strconv.uint64pow10" .u64 Lib.pow10Tab) :
    Calls Tryd.prog 85 #[.int .u64 u, .int .i64 10] w fun e w' => e = .returned (.string ⟨(Lib.decDigits u).toArray⟩) ∧ Below w.heap.size w w' := by
  have hu1 : 1 ≤ u := by omega
  have hnd20 : Lib.nDigits u ≤ 20 := by have := Lib.numDigits_eq u hu1 hu64; split at this <;> omega
  have hb3 : Lib.nDigits u ≤ 24 := by omega
  have hal : Tryd.prog.arrayLen 103 = 24 := by simp [Program.arrayLen, Tryd.underlying103]
  have hsl : ∀ W, (Instr.sliceAt 103 (.pointer (some ⟨w.heap.size, 0, none⟩)) none (some (.int .i64 (Lib.nDigits u : Int))) none).run Tryd.prog W = .ok (.slice (some ⟨w.heap.size, 0, none⟩) (Lib.nDigits u) 24) W := fun W => by
    rw [run_sliceAt_array_h W 103 ⟨w.heap.size, 0, none⟩ (by simp [Program.arrayLen, Program.elem, Tryd.underlying103]) .i64 (Lib.nDigits u : Int) (by omega) (by rw [hal]; omega)]
    go_simp
  have hH0 := fmt_zero w (Lib.nDigits u) (by omega)
  have hfmt := sh_internal_strconv_formatBase10 w.heap.size 0 24 u (Array.replicate (Lib.nDigits u) 0) (w.alloc (.cells Lib.zeros24 103)) hH0 (by rw [Array.size_replicate]; exact Lib.lt_pow_nDigits u) hu64 (by rw [Array.size_replicate]; omega)
  rw [Array.size_replicate] at hfmt
  have HH0 := Lib.hid hH0
  clear hH0 hal
  go_enter Tryd.func85, Tryd.ntmps85
  go_wp2_with (first
    | (go_at_call 96; refine (sh_internal_strconv_numDigits u hu1 hu64 _ (Lib.tabIs_alloc htab _)).mono ?_; rintro e w' ⟨rfl, rfl⟩))
  go_at_call 97
  refine hfmt.mono ?_
  rintro e w' ⟨rfl, k, v', dk, rfl, hF⟩
  have hcv : (convert 92 9 (.slice (some ⟨w.heap.size, 0, none⟩) (Lib.nDigits u) 24)).run Tryd.prog ((Go.Sort.putRow (fun (b : UInt8) => Value.int .u8 (b.toNat : Int)) (w.alloc (.cells Lib.zeros24 103)) w.heap.size 0 dk).drewN k) = .ok (.string ⟨(Lib.decDigits u).toArray⟩) ((Go.Sort.putRow (fun (b : UInt8) => Value.int .u8 (b.toNat : Int)) (w.alloc (.cells Lib.zeros24 103)) w.heap.size 0 dk).drewN k) := by
    have h := run_convert_bytes_back (P := Tryd.prog) ((Go.Sort.putRow (fun (b : UInt8) => Value.int .u8 (b.toNat : Int)) (w.alloc (.cells Lib.zeros24 103)) w.heap.size 0 dk).drewN k) 92 9 5 ⟨w.heap.size, 0, none⟩ 24 (Lib.decDigits u) Tryd.underlying92 Tryd.underlying5 Tryd.underlying9 (fun j hj => by
      rw [Lib.row_is_numeral hF j hj, Lib.add_plain, World.cell?_drewN]
      exact Go.Sort.cell?_putRow (fun (b : UInt8) => Value.int .u8 (b.toNat : Int)) _ w.heap.size 0 _ dk HH0.out (by rw [hF.size, Array.size_replicate]) j (by rw [hF.size]; rw [Lib.decDigits_length] at hj; exact hj))
    rw [Lib.decDigits_length] at h
    exact h
  go_wp2
  go_ret
  exact ⟨rfl, fmt_below w _ dk k⟩
theorem fmt_inner (u : Nat) (hu64 : u < 18446744073709551616) (w : World) (htab : Lib.TabIs Tryd.prog w "internal/strconv.uint64pow10" .u64 Lib.pow10Tab) :
    Calls Tryd.prog 85 #[.int .u64 u, .int .i64 10] w fun e w' => e = .returned (.string ⟨(Lib.decDigits u).toArray⟩) ∧ Below w.heap.size w w' := by
  by_cases h100 : u < 100
  · go_enter Tryd.func85, Tryd.ntmps85
    go_wp2_with (first
      | (go_at_call 95; refine (sh_internal_strconv_small u h100 _).mono ?_; rintro e w' ⟨rfl, rfl⟩))
    go_ret
    exact ⟨rfl, Below.refl _ _⟩
  · exact fmt_big u (by omega) hu64 w htab
theorem strconv_FormatUint_ok (n : Nat) : strconv_FormatUint_S (strconv_FormatUint n) := by
  intro w0 I0 tb x b hI r h
  obtain ⟨rfl, ⟨u, rfl, hu⟩, rfl⟩ := fmtU_some h
  have htab : Lib.TabIs Tryd.prog w0 "internal/strconv.uint64pow10" .u64 Lib.pow10Tab := tb.tab (zs := Lib.pow10Tab) (by kernel_rfl)
  apply ret_below
  go_enter Tryd.func73, Tryd.ntmps73
  go_wp2_with (first
    | (go_at_call 85; refine (fmt_inner u hu _ htab).mono ?_; rintro e w' ⟨rfl, hb⟩))
  go_ret
  exact ⟨rfl, hb⟩

end Go.Proofs.YtepadjfmcbjkmaaDoor

namespace Go.Proofs.YtepadjfmcbjkmaaDoor
open Go Go.Proofs.YtepadjfmcbjkmaaDoor.Gw Go.RowKit
set_option linter.unusedVariables false
attribute [local irreducible] Ev EvQ EvS EvH
def bits_Mul32_S (f : Int → Int → Option (Int × Int)) : Prop := ∀ (w0 : World) (I0 : Nat → Prop) (x17429 : Int) (x17430 : Int) (hI : ∀ g, I0 g → g < w0.heap.size) (r : (Int × Int)), f x17429 x17430 = some r →
    Ret Tryd.prog 99 #[(.int .u32 x17429), (.int .u32 x17430)] w0 fun v w1 => v = (.tuple #[(.int .u32 r.1), (.int .u32 r.2)]) ∧ Ch [] w0 w1
theorem bits_Mul32_ok (n : Nat) : bits_Mul32_S (bits_Mul32 n) := by
  intro w0 I0 x17429 x17430 hI r h
  unfold bits_Mul32 at h
  refine enter Tryd.func99 rfl (Nat.le_of_ble_eq_true rfl) ?_
  have hp : Hp ⟨w0, I0, []⟩ I0 [] w0 := Hp.start hI
  apply go
  apply go
  apply go
  apply go
  refine ev0 (rn_conv rfl rfl U42 Tryd.underlying68) ?_
  refine ev0 (rn_conv rfl rfl U42 Tryd.underlying68) ?_
  apply go
  apply go
  refine ⟨by decide, ?_⟩
  refine ev0 (rn_conv rfl rfl U68 Tryd.underlying42) ?_
  refine ev0 (rn_conv rfl rfl U68 Tryd.underlying42) ?_
  apply go
  obtain rfl := Option.some.inj h
  exact ⟨rfl, hp.ch⟩

end Go.Proofs.YtepadjfmcbjkmaaDoor

namespace Go.Proofs.YtepadjfmcbjkmaaDoor
open Go Go.Proofs.YtepadjfmcbjkmaaDoor.Gw Go.RowKit
set_option linter.unusedVariables false
attribute [local irreducible] Ev EvQ EvS EvH
def bits_Mul64_S (f : Int → Int → Option (Int × Int)) : Prop := ∀ (w0 : World) (I0 : Nat → Prop) (x17431 : Int) (x17432 : Int) (hI : ∀ g, I0 g → g < w0.heap.size) (r : (Int × Int)), f x17431 x17432 = some r →
    Ret Tryd.prog 100 #[(.int .u64 x17431), (.int .u64 x17432)] w0 fun v w1 => v = (.tuple #[(.int .u64 r.1), (.int .u64 r.2)]) ∧ Ch [] w0 w1
theorem bits_Mul64_ok (n : Nat) : bits_Mul64_S (bits_Mul64 n) := by
  intro w0 I0 x17431 x17432 hI r h
  unfold bits_Mul64 at h
  refine enter Tryd.func100 rfl (Nat.le_of_ble_eq_true rfl) ?_
  have hp : Hp ⟨w0, I0, []⟩ I0 [] w0 := Hp.start hI
  apply go
  apply go
  apply go
  apply go
  apply go
  apply go
  refine ⟨by decide, ?_⟩
  apply go
  apply go
  apply go
  apply go
  refine ⟨by decide, ?_⟩
  apply go
  apply go
  apply go
  apply go
  refine ⟨by decide, ?_⟩
  apply go
  apply go
  apply go
  apply go
  refine ⟨by decide, ?_⟩
  apply go
  apply go
  apply go
  apply go
  refine ⟨by decide, ?_⟩
  apply go
  apply go
  apply go
  obtain rfl := Option.some.inj h
  exact ⟨rfl, hp.ch⟩

end Go.Proofs.YtepadjfmcbjkmaaDoor

namespace Go.Proofs.YtepadjfmcbjkmaaDoor
open Go Go.Proofs.YtepadjfmcbjkmaaDoor.Gw Go.RowKit
set_option linter.unusedVariables false
attribute [local irreducible] Ev EvQ EvS EvH
def bits_Mul_S (f : Int → Int → Option (Int × Int)) : Prop := ∀ (w0 : World) (I0 : Nat → Prop) (x17433 : Int) (x17434 : Int) (hI : ∀ g, I0 g → g < w0.heap.size) (r : (Int × Int)), f x17433 x17434 = some r →
    Ret Tryd.prog 86 #[(.int .u64 x17433), (.int .u64 x17434)] w0 fun v w1 => v = (.tuple #[(.int .u64 r.1), (.int .u64 r.2)]) ∧ Ch [] w0 w1
theorem bits_Mul_ok (n : Nat) : bits_Mul_S (bits_Mul n) := by
  intro w0 I0 x17433 x17434 hI r h
  unfold bits_Mul at h
  refine enter Tryd.func86 rfl (Nat.le_of_ble_eq_true rfl) ?_
  have hp : Hp ⟨w0, I0, []⟩ I0 [] w0 := Hp.start hI
  apply go
  apply go
  apply go
  apply go
  apply go
  apply go
  apply go
  obtain ⟨⟨x17435, x17436⟩, q17437, h⟩ := bind_some h
  refine ev_call rfl rfl C100 (((bits_Mul64_ok n) _ _  x17433 x17434 hp.imm _ q17437).mono ?_)
  rintro _ w17438 ⟨rfl, hc⟩
  have hs := hp.stp hc
  replace hp := hp.ext hc
  apply go
  apply go
  apply go
  obtain rfl := Option.some.inj h
  exact ⟨rfl, hp.ch⟩

end Go.Proofs.YtepadjfmcbjkmaaDoor

namespace Go.Proofs.YtepadjfmcbjkmaaDoor
open Go Go.Proofs.YtepadjfmcbjkmaaDoor.Gw Go.RowKit
set_option linter.unusedVariables false
attribute [local irreducible] Ev EvQ EvS EvH
def strings_Repeat_S (f : ByteArray → Int → Option ByteArray) : Prop := ∀ (w0 : World) (I0 : Nat → Prop) (x17439 : ByteArray) (x17440 : Int) (hI : ∀ g, I0 g → g < w0.heap.size) (r : ByteArray), f x17439 x17440 = some r →
    Ret Tryd.prog 74 #[(.string x17439), (.int .i64 x17440)] w0 fun v w1 => v = (.string r) ∧ Ch [] w0 w1

theorem strings_Repeat_ok (n : Nat) : strings_Repeat_S (strings_Repeat n) := by
  intro w0 I0 s c hI r h
  obtain ⟨⟨k, rfl, hk⟩, hs, rfl⟩ := repS_some h
  have hm : s.size * k ≤ 1000000 * 1000000 := Nat.mul_le_mul hs hk
  exact ret_below (sh_strings_Repeat s k w0 (by omega) (by omega))

end Go.Proofs.YtepadjfmcbjkmaaDoor

namespace Go.Proofs.YtepadjfmcbjkmaaDoor
open Go Go.Proofs.YtepadjfmcbjkmaaDoor.Gw Go.RowKit
set_option linter.unusedVariables false
attribute [local irreducible] Ev EvQ EvS EvH vch
def slices_Reversestring_string__S (f : (List ByteArray) → Option (List ByteArray)) : Prop := ∀ (w0 : World) (I0 : Nat → Prop) (x17530 : (List ByteArray)) (v17531 : Value) (e17532 : Ent) (o17533 : OwnS dS 9 w0 I0 v17531 e17532 x17530) (hp : Hp ⟨w0, I0, (blk e17532)⟩ I0 [e17532] w0) (r : (List ByteArray)), f x17530 = some r →
    Ret Tryd.prog 75 #[v17531] w0 fun v w1 => ∃ (I1 : Nat → Prop) (u17534 : Ent), v = (.tuple #[]) ∧ Hp ⟨w0, I0, (blk e17532)⟩ I1 [u17534] w1 ∧ OwnS dS 9 w1 I1 v17531 u17534 r ∧ blk u17534 = blk e17532
theorem slices_Reversestring_string__ok (n : Nat) : slices_Reversestring_string__S (slices_Reversestring_string_ n) := by
  intro w0 I0 x17530 v17531 e17532 o17533 hp r h
  unfold slices_Reversestring_string_ at h
  refine enter Tryd.func75 rfl (Nat.le_of_ble_eq_true rfl) ?_
  have o17533z := o17533
  apply go
  apply go
  refine ev0 (x_lenO rfl rfl Tryd.underlying77 o17533) ?_
  apply go
  refine W.loop h (γ := Ent) (fun s g => [(0, v17531), (2, (.int .i64 (s.2.1))), (3, (.int .i64 (s.2.2)))]) (fun s g w' => Hp ⟨w0, I0, (blk e17532)⟩ I0 [(g)] w' ∧ OwnS dS 9 w' I0 v17531 (g) (s.1)) e17532 (.c rfl (.c rfl (.c rfl .n))) ⟨hp, o17533⟩ ?_
  rintro ⟨x17846, x17850, x17851⟩ e17848 w18169 y18170 ⟨hp, o17849⟩ q18171 q18172
  unfold slices_Reversestring_string__L0 at q18171
  apply go
  apply go
  apply go
  apply go
  refine sel_of (fun hc => ?_) (fun hc => ?_)
  ·
    have q18171 := cond_t q18171 hc
    apply go
    obtain ⟨y18330, q18331, q18171⟩ := bind_some q18171
    refine W.cut (γ := ((List ByteArray) × Ent)) (fun g => [(0, v17531), (2, (.int .i64 x17850)), (3, (.int .i64 x17851))]) (fun g w' => y18330 = (g.1) ∧ Hp ⟨w0, I0, (blk e17532)⟩ I0 [(g.2)] w' ∧ OwnS dS 9 w' I0 v17531 (g.2) (g.1)) ?_ ?_
    ·
      apply go
      have hs := hp.stp (Ch.drew [] w18169)
      have hp := hp.drew
      replace o17849 := o17849.step hs
      refine W.heldG (.q 0 (.q 1 (.q 2 (.q 3 (.q 4 (.q 5 (.q 6 (.q 8 (.q 9 (.q 10 (.l 7 (.l 11 (.q 12 (.l 13 (.q 14 (.l 15 .done .no)) .no)) .no) (.l 11 (.l 7 (.q 12 (.l 13 (.q 14 (.l 15 .done .no)) .no)) .no) .no)))))))))))) (SK (Stp I0 w18169.drew I0) [] []) MX (by kernel_rfl) ⟨Stp.refl _ _, kp_nil⟩ ?_
      have hz := Stp.refl I0 w18169.drew
      refine ⟨SK.same (by kernel_rfl), ?_⟩
      refine ⟨SK.same (by kernel_rfl), ?_⟩
      refine ⟨SK.same (by kernel_rfl), ?_⟩
      refine ⟨SK.same (by kernel_rfl), ?_⟩
      refine ⟨SK.same (by kernel_rfl), ?_⟩
      refine ⟨SK.same (by kernel_rfl), ?_⟩
      refine ⟨SK.same (by kernel_rfl), ?_⟩
      obtain ⟨x18416, q18417, q18331⟩ := bind_some q18331
      refine evh_indexO rfl rfl rfl Tryd.underlying77 T9 o17849 q18417 ?_
      intro g18418 c18419 h18422 d18420 l18421
      refine ⟨SK.same (by kernel_rfl), ?_⟩
      refine ⟨SK.same (by kernel_rfl), ?_⟩
      refine ⟨SK.same (by kernel_rfl), ?_⟩
      obtain ⟨x18424, q18425, q18331⟩ := bind_some q18331
      refine evh_indexO rfl rfl rfl Tryd.underlying77 T9 o17849 q18425 ?_
      intro g18426 c18427 h18430 d18428 l18429
      refine ⟨?_, ?_⟩
      ·
        refine ev (rn_load rfl rfl (run_loadVar1 T9 (hp.cellE (i := 0) rfl h18422 d18420 (j := 0) rfl))) ?_
        refine ⟨SK (Stp I0 w18169.drew I0) [] [], ⟨Stp.refl _ _, kp_nil⟩, fun L x h => ⟨hz.held h.1, h.2⟩, ?_⟩
        have hz := Stp.refl I0 w18169.drew
        refine ⟨?_, trivial⟩
        refine ev (rn_load rfl rfl (run_loadVar1 T9 (hp.cellE (i := 0) rfl h18430 d18428 (j := 0) rfl))) ?_
        refine ⟨SK (Stp I0 w18169.drew I0) [] [], ⟨Stp.refl _ _, kp_nil⟩, fun L x h => ⟨hz.held h.1, h.2⟩, ?_⟩
        have hz := Stp.refl I0 w18169.drew
        refine ⟨SK.same (by kernel_rfl), ?_⟩
        obtain ⟨x18432, q18433, q18331⟩ := bind_some q18331
        refine evh_indexO rfl rfl rfl Tryd.underlying77 T9 o17849 q18433 ?_
        intro g18434 c18435 h18438 d18436 l18437
        refine ⟨?_, trivial⟩
        refine ev_storeE hp (i := 0) rfl h18438 rfl rfl rfl T9 o17849 q18433 (x0 := x18416) rfl ?_
        intro e18441 w18440 hp hs o18442
        replace hz := hz.trans hs
        refine ⟨SK (Stp I0 w18440 I0) [] [], ⟨Stp.refl _ _, kp_nil⟩, fun L x h => ⟨hz.held h.1, h.2⟩, ?_⟩
        have hz := Stp.refl I0 w18440
        refine ⟨SK.same (by kernel_rfl), ?_⟩
        obtain ⟨x18445, q18446, q18331⟩ := bind_some q18331
        refine evh_indexO rfl rfl rfl Tryd.underlying77 T9 o18442 q18446 ?_
        intro g18447 c18448 h18451 d18449 l18450
        refine ⟨?_, trivial⟩
        refine ev_storeE hp (i := 0) rfl h18451 rfl rfl rfl T9 o18442 q18446 (x0 := x18424) rfl ?_
        intro e18454 w18453 hp hs o18455
        replace hz := hz.trans hs
        refine ⟨SK (Stp I0 w18453 I0) [] [], ⟨Stp.refl _ _, kp_nil⟩, fun L x h => ⟨hz.held h.1, h.2⟩, ?_⟩
        have hz := Stp.refl I0 w18453
        obtain rfl := Option.some.inj q18331
        exact ⟨((upd (upd x17846 x17850 x18416) x17851 x18424), e18454), (.c rfl (.c rfl (.c rfl .n))), rfl, hp, o18455⟩
      refine ⟨?_, trivial⟩
      refine ev (rn_load rfl rfl (run_loadVar1 T9 (hp.cellE (i := 0) rfl h18430 d18428 (j := 0) rfl))) ?_
      refine ⟨SK (Stp I0 w18169.drew I0) [] [], ⟨Stp.refl _ _, kp_nil⟩, fun L x h => ⟨hz.held h.1, h.2⟩, ?_⟩
      have hz := Stp.refl I0 w18169.drew
      refine ⟨?_, trivial⟩
      refine ev (rn_load rfl rfl (run_loadVar1 T9 (hp.cellE (i := 0) rfl h18422 d18420 (j := 0) rfl))) ?_
      refine ⟨SK (Stp I0 w18169.drew I0) [] [], ⟨Stp.refl _ _, kp_nil⟩, fun L x h => ⟨hz.held h.1, h.2⟩, ?_⟩
      have hz := Stp.refl I0 w18169.drew
      refine ⟨SK.same (by kernel_rfl), ?_⟩
      obtain ⟨x18458, q18459, q18331⟩ := bind_some q18331
      refine evh_indexO rfl rfl rfl Tryd.underlying77 T9 o17849 q18459 ?_
      intro g18460 c18461 h18464 d18462 l18463
      refine ⟨?_, trivial⟩
      refine ev_storeE hp (i := 0) rfl h18464 rfl rfl rfl T9 o17849 q18459 (x0 := x18416) rfl ?_
      intro e18467 w18466 hp hs o18468
      replace hz := hz.trans hs
      refine ⟨SK (Stp I0 w18466 I0) [] [], ⟨Stp.refl _ _, kp_nil⟩, fun L x h => ⟨hz.held h.1, h.2⟩, ?_⟩
      have hz := Stp.refl I0 w18466
      refine ⟨SK.same (by kernel_rfl), ?_⟩
      obtain ⟨x18471, q18472, q18331⟩ := bind_some q18331
      refine evh_indexO rfl rfl rfl Tryd.underlying77 T9 o18468 q18472 ?_
      intro g18473 c18474 h18477 d18475 l18476
      refine ⟨?_, trivial⟩
      refine ev_storeE hp (i := 0) rfl h18477 rfl rfl rfl T9 o18468 q18472 (x0 := x18424) rfl ?_
      intro e18480 w18479 hp hs o18481
      replace hz := hz.trans hs
      refine ⟨SK (Stp I0 w18479 I0) [] [], ⟨Stp.refl _ _, kp_nil⟩, fun L x h => ⟨hz.held h.1, h.2⟩, ?_⟩
      have hz := Stp.refl I0 w18479
      obtain rfl := Option.some.inj q18331
      exact ⟨((upd (upd x17846 x17850 x18416) x17851 x18424), e18480), (.c rfl (.c rfl (.c rfl .n))), rfl, hp, o18481⟩
    ·
      rintro ⟨x18325, e18327⟩ w18329 ⟨hy, hp, o18328⟩
      replace hy := hy.symm
      subst hy
      apply go
      exact ⟨_, (Option.some.inj q18171).symm, e18327, (.c rfl (.c rfl (.c rfl .n))), ⟨hp, o18328⟩⟩
  ·
    have q18171 := cond_f q18171 hc
    apply go
    have q18484 := congrArg some (q18172 _ (Option.some.inj q18171).symm)
    obtain rfl := Option.some.inj q18484
    exact ⟨I0, e17848, rfl, hp, o17849, (OwnS.blk o17533z o17849)⟩

end Go.Proofs.YtepadjfmcbjkmaaDoor

namespace Go.Proofs.YtepadjfmcbjkmaaDoor
open Go Go.Proofs.YtepadjfmcbjkmaaDoor.Gw Go.RowKit
set_option linter.unusedVariables false
attribute [local irreducible] Ev EvQ EvS EvH
def strings_Join_S (f : (List ByteArray) → ByteArray → Option ByteArray) : Prop := ∀ (w0 : World) (I0 : Nat → Prop) (x18485 : (List ByteArray)) (v18486 : Value) (r18487 : RepS dS w0 I0 v18486 x18485) (x18488 : ByteArray) (hI : ∀ g, I0 g → g < w0.heap.size) (r : ByteArray), f x18485 x18488 = some r →
    Ret Tryd.prog 76 #[v18486, (.string x18488)] w0 fun v w1 => v = (.string r) ∧ Ch [] w0 w1

theorem strings_Join_ok (n : Nat) : strings_Join_S (strings_Join n) := by
  intro w0 I0 xs v hr sep hI r h
  obtain ⟨hN, hL, rfl⟩ := joinS_some h
  rcases Nat.eq_zero_or_pos xs.length with h0 | h0
  · obtain rfl := List.eq_nil_of_length_eq_zero h0
    obtain ⟨a, c, rfl, _, _⟩ := hr
    exact ret_same (sh_strings_Join_none a c sep w0)
  · obtain ⟨b, o, c, rfl, hc, hb, hcells⟩ := hr.strs h0
    exact ret_below (sh_strings_Join b o c xs sep w0 hcells (hI b hb) hN hc hL)

end Go.Proofs.YtepadjfmcbjkmaaDoor

namespace Go.Proofs.YtepadjfmcbjkmaaDoor
open Go Go.Proofs.YtepadjfmcbjkmaaDoor.Gw Go.RowKit
set_option linter.unusedVariables false
attribute [local irreducible] Ev EvQ EvS EvH
def integer_Text_S (f : Int_2 → Option ByteArray) : Prop := ∀ (w0 : World) (I0 : Nat → Prop) (tb : Tb w0 I0 1 .u64 pow10) (x18489 : Int_2) (v18490 : Value) (r18491 : RepS (dI .u32) w0 I0 v18490 x18489.Mag) (hI : ∀ g, I0 g → g < w0.heap.size) (r : ByteArray), f x18489 = some r →
    Ret Tryd.prog 54 #[(.agg #[(.bool x18489.Neg), v18490])] w0 fun v w1 => v = (.string r) ∧ Ch [] w0 w1
theorem integer_Text_ok (n : Nat) : integer_Text_S (integer_Text n) := by
  intro w0 I0 tb x18489 v18490 r18491 hI r h
  unfold integer_Text at h
  refine enter Tryd.func54 rfl (Nat.le_of_ble_eq_true rfl) ?_
  have hp : Hp ⟨w0, I0, []⟩ I0 [] w0 := Hp.start hI
  apply go
  apply go
  refine ev_boxI hp rfl rfl ?_
  intro p18494 I18495 w18493 hp hs a18496
  replace r18491 := r18491.step hs
  replace tb := tb.step hs
  apply go
  apply go
  refine ev0 (rn_field rfl rfl FO24_1) ?_
  refine ev (rn_load rfl rfl (run_loadVar1 T22 (a18496.2 1 _ rfl))) ?_
  obtain ⟨x18497, q18498, h⟩ := bind_some h
  refine ev_call rfl rfl C60 (((integer_trim_ok n) _ _  x18489.Mag v18490 r18491 hp.imm _ q18498).mono ?_)
  rintro _ w18499 ⟨I18500, v18501, hv, hq, r18502⟩
  replace hv := hv.symm
  subst hv
  have hs := hq.st
  have hp := hp.join0 hq
  replace a18496 := a18496.step hs
  replace r18491 := r18491.step hs
  replace tb := tb.step hs
  obtain ⟨x18503, q18504, h⟩ := bind_some h
  refine ev_call rfl rfl C61 (((slices_Cloneuint32_uint32__ok n) _ _  x18497 v18501 r18502 hp.imm _ q18504).mono ?_)
  rintro _ w18505 ⟨I18506, v18507, hv, hq, r18508⟩
  replace hv := hv.symm
  subst hv
  have hs := hq.st
  have hp := hp.join0 hq
  replace a18496 := a18496.step hs
  replace r18491 := r18491.step hs
  replace tb := tb.step hs
  apply go
  apply go
  apply go
  refine ev0 (rn_len rfl rfl Tryd.underlying22 r18508) ?_
  apply go
  refine sel_of (fun hc => ?_) (fun hc => ?_)
  ·
    have h := cond_t h hc
    apply go
    apply go
    apply go
    obtain rfl := Option.some.inj h
    exact ⟨rfl, hp.ch⟩
  ·
    have h := cond_f h hc
    apply go
    apply go
    apply go
    obtain ⟨y18652, q18653, h⟩ := bind_some h
    refine W.cut (γ := ((List ByteArray) × Value × Ent × (Nat → Prop))) (fun g => [(1, (.pointer (some (p18494)))), (4, (g.2.1))]) (fun g w' => y18652 = (g.1) ∧ Hp ⟨w0, I0, []⟩ (g.2.2.2) [(g.2.2.1)] w' ∧ RepS (dI .u32) w' (g.2.2.2) v18490 x18489.Mag ∧ At w' (g.2.2.2) p18494 [(.bool x18489.Neg), v18490] ∧ OwnS dS 9 w' (g.2.2.2) (g.2.1) (g.2.2.1) (g.1) ∧ Tb w' (g.2.2.2) 1 .u64 pow10) ?_ ?_
    ·
      apply go
      have hp := hp.none_
      have o18748 := OwnS.nil dS 9 w18505 I18506
      refine W.loop q18653 (γ := (Value × Value × Ent × (Nat → Prop))) (fun s g => [(1, (.pointer (some (p18494)))), (3, (g.1)), (4, (g.2.1))]) (fun s g w' => Hp ⟨w0, I0, []⟩ (g.2.2.2) [(g.2.2.1)] w' ∧ RepS (dI .u32) w' (g.2.2.2) v18490 x18489.Mag ∧ At w' (g.2.2.2) p18494 [(.bool x18489.Neg), v18490] ∧ RepS (dI .u32) w' (g.2.2.2) (g.1) (s.1) ∧ OwnS dS 9 w' (g.2.2.2) (g.2.1) (g.2.2.1) (s.2) ∧ Tb w' (g.2.2.2) 1 .u64 pow10) (v18507, (.slice none 0 0), none, I18506) (.c rfl (.c rfl (.c rfl .n))) ⟨hp, r18491, a18496, r18508, o18748, tb⟩ ?_
      rintro ⟨x18693, x18696⟩ ⟨v18694, v18697, e18698, I18700⟩ w18747 y18749 ⟨hp, r18491, a18496, r18695, o18699, tb⟩ q18750 q18751
      unfold integer_Text_L1 at q18750
      apply go
      apply go
      apply go
      refine ev0 (rn_len rfl rfl Tryd.underlying22 r18695) ?_
      apply go
      refine sel_of (fun hc => ?_) (fun hc => ?_)
      ·
        have q18750 := cond_t q18750 hc
        apply go
        apply go
        apply go
        apply go
        apply go
        apply go
        obtain ⟨⟨x18752, x18753⟩, q18754, q18750⟩ := bind_some q18750
        refine ev_call rfl rfl C72 (((integer_short_ok n) _ _  x18693 v18694 r18695 1000000000 hp.imm _ q18754).mono ?_)
        rintro _ w18755 ⟨I18756, v18757, hv, hq, r18758⟩
        replace hv := hv.symm
        subst hv
        have hs := hq.st
        have hp := hp.join0 hq
        replace a18496 := a18496.step hs
        replace r18491 := r18491.step hs
        replace o18699 := o18699.step hs
        replace tb := tb.step hs
        apply go
        apply go
        obtain ⟨x18759, q18760, q18750⟩ := bind_some q18750
        refine ev_call rfl rfl C60 (((integer_trim_ok n) _ _  x18752 v18757 r18758 hp.imm _ q18760).mono ?_)
        rintro _ w18761 ⟨I18762, v18763, hv, hq, r18764⟩
        replace hv := hv.symm
        subst hv
        have hs := hq.st
        have hp := hp.join0 hq
        replace a18496 := a18496.step hs
        replace r18491 := r18491.step hs
        replace o18699 := o18699.step hs
        replace tb := tb.step hs
        apply go
        apply go
        refine ev0 (rn_conv rfl rfl U42 Tryd.underlying68) ?_
        obtain ⟨x18765, q18766, q18750⟩ := bind_some q18750
        refine ev_call rfl rfl C73 (((strconv_FormatUint_ok n) _ _ tb (IntKind.u64.wrap x18753) 10 hp.imm _ q18766).mono ?_)
        rintro _ w18767 ⟨rfl, hc⟩
        have hs := hp.stp hc
        replace hp := hp.ext hc
        replace a18496 := a18496.step hs
        replace r18491 := r18491.step hs
        replace o18699 := o18699.step hs
        replace r18764 := r18764.step hs
        replace tb := tb.step hs
        obtain ⟨y18774, q18775, q18750⟩ := bind_some q18750
        refine W.cut (γ := ByteArray) (fun g => [(1, (.pointer (some (p18494)))), (3, v18763), (4, v18697), (6, (.string (g)))]) (fun g w' => y18774 = (g) ∧ Hp ⟨w0, I0, []⟩ I18762 [e18698] w' ∧ RepS (dI .u32) w' I18762 v18490 x18489.Mag ∧ At w' I18762 p18494 [(.bool x18489.Neg), v18490] ∧ RepS (dI .u32) w' I18762 v18763 x18759 ∧ OwnS dS 9 w' I18762 v18697 e18698 x18696 ∧ Tb w' I18762 1 .u64 pow10) ?_ ?_
        ·
          apply go
          apply go
          refine ev0 (rn_len rfl rfl Tryd.underlying22 r18764) ?_
          apply go
          refine sel_of (fun hc => ?_) (fun hc => ?_)
          ·
            have q18775 := cond_t q18775 hc
            apply go
            refine ev0 (rn_lenS rfl rfl Tryd.underlying9) ?_
            obtain ⟨x18776, q18777, q18775⟩ := bind_some q18775
            refine ev_call rfl rfl C74 (((strings_Repeat_ok n) _ _  (ByteArray.mk #[48]) (IntKind.i64.wrap (9 - (x18765.size : Int))) hp.imm _ q18777).mono ?_)
            rintro _ w18778 ⟨rfl, hc⟩
            have hs := hp.stp hc
            replace hp := hp.ext hc
            replace a18496 := a18496.step hs
            replace r18491 := r18491.step hs
            replace o18699 := o18699.step hs
            replace r18764 := r18764.step hs
            replace tb := tb.step hs
            obtain ⟨q18779, _, q18775⟩ := need_some q18775
            refine ⟨q18779, ?_⟩
            obtain rfl := Option.some.inj q18775
            exact ⟨(x18776 ++ x18765), (.c rfl (.c rfl (.c rfl (.c rfl .n)))), rfl, hp, r18491, a18496, r18764, o18699, tb⟩
          ·
            have q18775 := cond_f q18775 hc
            apply go
            obtain rfl := Option.some.inj q18775
            exact ⟨x18765, (.c rfl (.c rfl (.c rfl (.c rfl .n)))), rfl, hp, r18491, a18496, r18764, o18699, tb⟩
        ·
          rintro x18772 w18773 ⟨hy, hp, r18491, a18496, r18764, o18699, tb⟩
          replace hy := hy.symm
          subst hy
          apply go
          refine ev_litN (d := dS) (xs := [x18772]) (cs := [(.string x18772)]) hp rfl rfl Tryd.underlying77 T9 (by decide) rfl rfl (Elems.cons (d := dS) (xs := _) rfl (Elems.nil _ _ _ _)) ?_
          intro v18780 I18782 w18781 hp hs r18783
          replace a18496 := a18496.step hs
          replace r18491 := r18491.step hs
          replace r18764 := r18764.step hs
          replace o18699 := o18699.step hs
          replace tb := tb.step hs
          obtain ⟨x18784, q18785, q18750⟩ := bind_some q18750
          refine ev_append hp (i := 0) rfl rfl rfl rfl Tryd.underlying77 T9 rfl rfl o18699 r18783 q18785 ?_
          rintro v18786 e18787 w18788 hp hs o18789
          replace a18496 := a18496.step hs
          replace r18491 := r18491.step hs
          replace r18764 := r18764.step hs
          replace tb := tb.step hs
          exact ⟨_, (Option.some.inj q18750).symm, (v18763, v18786, e18787, I18782), (.c rfl (.c rfl (.c rfl .n))), ⟨hp, r18491, a18496, r18764, o18789, tb⟩⟩
      ·
        have q18750 := cond_f q18750 hc
        apply go
        have q18790 := congrArg some (q18751 _ (Option.some.inj q18750).symm)
        obtain rfl := Option.some.inj q18790
        exact ⟨(x18696, v18697, e18698, I18700), (.c rfl (.c rfl .n)), rfl, hp, r18491, a18496, o18699, tb⟩
    ·
      rintro ⟨x18646, v18647, e18648, I18650⟩ w18651 ⟨hy, hp, r18491, a18496, o18649, tb⟩
      replace hy := hy.symm
      subst hy
      obtain ⟨y18807, q18808, h⟩ := bind_some h
      refine W.cut (γ := ((List ByteArray) × Value × Ent × (Nat → Prop))) (fun g => [(4, (g.2.1))]) (fun g w' => y18807 = (g.1) ∧ Hp ⟨w0, I0, []⟩ (g.2.2.2) [(g.2.2.1)] w' ∧ OwnS dS 9 w' (g.2.2.2) (g.2.1) (g.2.2.1) (g.1) ∧ Tb w' (g.2.2.2) 1 .u64 pow10) ?_ ?_
      ·
        apply go
        apply go
        refine ev0 (rn_field rfl rfl FO24_0) ?_
        refine ev (rn_load rfl rfl (run_loadVar1 T4 (a18496.2 0 _ rfl))) ?_
        apply go
        refine sel_of (fun hc => ?_) (fun hc => ?_)
        ·
          have q18808 := cond_t q18808 hc
          apply go
          refine ev_litN (d := dS) (xs := [(ByteArray.mk #[45])]) (cs := [(.string (ByteArray.mk #[45]))]) hp rfl rfl Tryd.underlying77 T9 (by decide) rfl rfl (Elems.cons (d := dS) (xs := _) rfl (Elems.nil _ _ _ _)) ?_
          intro v18809 I18811 w18810 hp hs r18812
          replace o18649 := o18649.step hs
          replace tb := tb.step hs
          obtain ⟨x18813, q18814, q18808⟩ := bind_some q18808
          refine ev_append hp (i := 0) rfl rfl rfl rfl Tryd.underlying77 T9 rfl rfl o18649 r18812 q18814 ?_
          rintro v18815 e18816 w18817 hp hs o18818
          replace tb := tb.step hs
          obtain rfl := Option.some.inj q18808
          exact ⟨(x18813, v18815, e18816, I18811), (.c rfl .n), rfl, hp, o18818, tb⟩
        ·
          have q18808 := cond_f q18808 hc
          apply go
          obtain rfl := Option.some.inj q18808
          exact ⟨(x18646, v18647, e18648, I18650), (.c rfl .n), rfl, hp, o18649, tb⟩
      ·
        rintro ⟨x18801, v18802, e18803, I18805⟩ w18806 ⟨hy, hp, o18804, tb⟩
        replace hy := hy.symm
        subst hy
        apply go
        apply go
        obtain ⟨x18819, q18820, h⟩ := bind_some h
        refine ev_call rfl rfl C75 (((slices_Reversestring_string__ok n) _ _  x18801 v18802 e18803 o18804 (hp.lend (i := 0) rfl) _ q18820).mono ?_)
        rintro _ w18821 ⟨I18822, e18823, hv, hq, o18824, hsame⟩
        replace hv := hv.symm
        subst hv
        have hs := hq.st
        have hp := hp.backO (i := 0) rfl hq hsame
        replace tb := tb.step hs
        apply go
        apply go
        have r18825 := o18824.frz hp (i := 0) rfl
        obtain ⟨hp, hs⟩ := freeze_hp hp (i := 0) rfl
        replace tb := tb.step hs
        have hp := hp.sel [] (by decide)
        obtain ⟨x18826, q18827, h⟩ := bind_some h
        refine ev_call rfl rfl C76 (((strings_Join_ok n) _ _  x18819 v18802 r18825 (ByteArray.mk #[]) hp.imm _ q18827).mono ?_)
        rintro _ w18828 ⟨rfl, hc⟩
        have hs := hp.stp hc
        replace hp := hp.ext hc
        replace tb := tb.step hs
        apply go
        obtain rfl := Option.some.inj h
        exact ⟨rfl, hp.ch⟩

end Go.Proofs.YtepadjfmcbjkmaaDoor

namespace Go.Proofs.YtepadjfmcbjkmaaDoor
open Go Go.Proofs.YtepadjfmcbjkmaaDoor.Gw Go.RowKit
set_option linter.unusedVariables false
attribute [local irreducible] Ev EvQ EvS EvH
def rational_Text_S (f : Rational → Option ByteArray) : Prop := ∀ (w0 : World) (I0 : Nat → Prop) (tb : Tb w0 I0 1 .u64 pow10) (x18829 : Rational) (v18830 : Value) (r18831 : RepS (dI .u32) w0 I0 v18830 x18829.Num.Mag) (v18832 : Value) (r18833 : RepS (dI .u32) w0 I0 v18832 x18829.Den.Mag) (hI : ∀ g, I0 g → g < w0.heap.size) (r : ByteArray), f x18829 = some r →
    Ret Tryd.prog 35 #[(.agg #[(.bool x18829.Num.Neg), v18830, (.bool x18829.Den.Neg), v18832])] w0 fun v w1 => v = (.string r) ∧ Ch [] w0 w1
theorem rational_Text_ok (n : Nat) : rational_Text_S (rational_Text n) := by
  intro w0 I0 tb x18829 v18830 r18831 v18832 r18833 hI r h
  unfold rational_Text at h
  refine enter Tryd.func35 rfl (Nat.le_of_ble_eq_true rfl) ?_
  have hp : Hp ⟨w0, I0, []⟩ I0 [] w0 := Hp.start hI
  apply go
  apply go
  refine ev_box hp rfl rfl ?_
  intro g18834 w18835 hp hs
  replace r18831 := r18831.step hs
  replace r18833 := r18833.step hs
  replace tb := tb.step hs
  apply go
  apply go
  refine ev (rn_load rfl rfl (run_loadVarA T26 rfl (hp.at_ (i := 0) rfl))) ?_
  obtain ⟨x18836, q18837, h⟩ := bind_some h
  refine ev_call rfl rfl C16 (((rational_Norm_ok n) _ _  (Rational.mk (Int_2.mk x18829.Num.Neg x18829.Num.Mag) (Int_2.mk x18829.Den.Neg x18829.Den.Mag)) v18830 r18831 v18832 r18833 hp.imm _ q18837).mono ?_)
  rintro _ w18838 ⟨I18839, v18840, v18842, hv, hq, r18841, r18843⟩
  replace hv := hv.symm
  subst hv
  have hs := hq.st
  have hp := hp.join0 hq
  replace r18831 := r18831.step hs
  replace r18833 := r18833.step hs
  replace tb := tb.step hs
  refine ev_storeA hp (i := 0) (off := 0) (vs := [(.bool x18836.Num.Neg), v18840, (.bool x18836.Den.Neg), v18842]) rfl rfl rfl rfl T26 rfl (Nat.le_of_ble_eq_true rfl) (ones_cons rfl (ones_cons r18841.one (ones_cons rfl (ones_cons r18843.one ones_nil)))) ?_
  intro w18844 hp hs
  replace r18841 := r18841.step hs
  replace r18843 := r18843.step hs
  replace tb := tb.step hs
  apply go
  apply go
  apply go
  refine ev0 (rn_field rfl rfl FO26_1) ?_
  refine ev (rn_load rfl rfl (run_loadVarA T24 rfl (((hp.at_ (i := 0) rfl).drop 2).take 2))) ?_
  obtain ⟨x18845, q18846, h⟩ := bind_some h
  refine ev_call rfl rfl C52 (((rational_one_ok n) _ _  (Int_2.mk x18836.Den.Neg x18836.Den.Mag) v18842 r18843 hp.imm _ q18846).mono ?_)
  rintro _ w18847 ⟨rfl, hc⟩
  have hs := hp.stp hc
  replace hp := hp.ext hc
  replace r18841 := r18841.step hs
  replace r18843 := r18843.step hs
  replace tb := tb.step hs
  apply go
  refine sel_of (fun hc => ?_) (fun hc => ?_)
  ·
    have h := cond_t h hc
    apply go
    apply go
    refine ev0 (rn_field rfl rfl FO26_0) ?_
    refine ev (rn_load rfl rfl (run_loadVarA T24 rfl (((hp.at_ (i := 0) rfl).drop 0).take 2))) ?_
    obtain ⟨x18848, q18849, h⟩ := bind_some h
    refine ev_call rfl rfl C54 (((integer_Text_ok n) _ _ tb (Int_2.mk x18836.Num.Neg x18836.Num.Mag) v18840 r18841 hp.imm _ q18849).mono ?_)
    rintro _ w18850 ⟨rfl, hc⟩
    have hs := hp.stp hc
    replace hp := hp.ext hc
    replace r18841 := r18841.step hs
    replace r18843 := r18843.step hs
    replace tb := tb.step hs
    apply go
    obtain rfl := Option.some.inj h
    exact ⟨rfl, hp.ch⟩
  ·
    have h := cond_f h hc
    apply go
    apply go
    refine W.quiet (fun w' => Ch [] w18847 w') MX (by kernel_rfl) (Ch.drew [] w18847) ?_
    refine evq0 (rn_field rfl rfl FO26_0) ?_
    refine evq (fun w' hw => rn_load rfl rfl (run_loadVarA T24 rfl ((((hp.ext hw).at_ (i := 0) rfl).drop 0).take 2))) ?_
    obtain ⟨x18851, q18852, h⟩ := bind_some h
    refine evq_call rfl rfl C54 (fun w' hw => ((integer_Text_ok n) _ _ (tb.step (hp.stp hw)) (Int_2.mk x18836.Num.Neg x18836.Num.Mag) v18840 (r18841.step (hp.stp hw)) (hp.ext hw).imm _ q18852).mono fun _ _ ⟨e, hc⟩ => ⟨e, hw.trans hc⟩) ?_
    obtain ⟨q18853, _, h⟩ := need_some h
    refine ⟨q18853, ?_⟩
    refine evq0 (rn_field rfl rfl FO26_1) ?_
    refine evq (fun w' hw => rn_load rfl rfl (run_loadVarA T24 rfl ((((hp.ext hw).at_ (i := 0) rfl).drop 2).take 2))) ?_
    obtain ⟨x18854, q18855, h⟩ := bind_some h
    refine evq_call rfl rfl C54 (fun w' hw => ((integer_Text_ok n) _ _ (tb.step (hp.stp hw)) (Int_2.mk x18836.Den.Neg x18836.Den.Mag) v18842 (r18843.step (hp.stp hw)) (hp.ext hw).imm _ q18855).mono fun _ _ ⟨e, hc⟩ => ⟨e, hw.trans hc⟩) ?_
    obtain ⟨q18856, _, h⟩ := need_some h
    refine ⟨q18856, ?_⟩
    intro w18857 hc
    have hs := hp.stp hc
    replace hp := hp.ext hc
    replace r18841 := r18841.step hs
    replace r18843 := r18843.step hs
    replace tb := tb.step hs
    apply go
    obtain rfl := Option.some.inj h
    exact ⟨rfl, hp.ch⟩

end Go.Proofs.YtepadjfmcbjkmaaDoor

namespace Go.Proofs.YtepadjfmcbjkmaaDoor
open Go Go.Proofs.YtepadjfmcbjkmaaDoor.Gw Go.RowKit
set_option linter.unusedVariables false
attribute [local irreducible] Ev EvQ EvS EvH
def law02_awake_S (f : Option Bool) : Prop := ∀ (w0 : World) (I0 : Nat → Prop) (tb : Tb w0 I0 1 .u64 pow10)  (hI : ∀ g, I0 g → g < w0.heap.size) (r : Bool), f  = some r →
    Ret Tryd.prog 8 #[] w0 fun v w1 => v = (.bool r) ∧ Ch [] w0 w1
theorem law02_awake_ok (n : Nat) : law02_awake_S (law02_awake n) := by
  intro w0 I0 tb hI r h
  unfold law02_awake at h
  refine enter Tryd.func8 rfl (Nat.le_of_ble_eq_true rfl) ?_
  have hp : Hp ⟨w0, I0, []⟩ I0 [] w0 := Hp.start hI
  apply go
  apply go
  obtain ⟨y21857, q21858, h⟩ := bind_some h
  refine W.cut (γ := (Bool × (Nat → Prop))) (fun g => [(0, (.bool (g.1)))]) (fun g w' => y21857 = (g.1) ∧ Hp ⟨w0, I0, []⟩ (g.2) [] w' ∧ Tb w' (g.2) 1 .u64 pow10) ?_ ?_
  ·
    apply go
    obtain ⟨x21859, q21860, q21858⟩ := bind_some q21858
    refine ev_call rfl rfl C12 (((rational_Of_ok n) _ _  6 (-4) hp.imm _ q21860).mono ?_)
    rintro _ w21861 ⟨I21862, v21863, v21865, hv, hq, r21864, r21866⟩
    replace hv := hv.symm
    subst hv
    have hs := hq.st
    have hp := hp.join0 hq
    replace tb := tb.step hs
    obtain ⟨x21867, q21868, q21858⟩ := bind_some q21858
    refine ev_call rfl rfl C35 (((rational_Text_ok n) _ _ tb x21859 v21863 r21864 v21865 r21866 hp.imm _ q21868).mono ?_)
    rintro _ w21869 ⟨rfl, hc⟩
    have hs := hp.stp hc
    replace hp := hp.ext hc
    replace tb := tb.step hs
    refine sel_of (fun hc => ?_) (fun hc => ?_)
    ·
      have q21858 := cond_t q21858 hc
      obtain ⟨x21870, q21871, q21858⟩ := bind_some q21858
      refine ev_call rfl rfl C12 (((rational_Of_ok n) _ _  1 2 hp.imm _ q21871).mono ?_)
      rintro _ w21872 ⟨I21873, v21874, v21876, hv, hq, r21875, r21877⟩
      replace hv := hv.symm
      subst hv
      have hs := hq.st
      have hp := hp.join0 hq
      replace tb := tb.step hs
      obtain ⟨x21878, q21879, q21858⟩ := bind_some q21858
      refine ev_call rfl rfl C12 (((rational_Of_ok n) _ _  1 3 hp.imm _ q21879).mono ?_)
      rintro _ w21880 ⟨I21881, v21882, v21884, hv, hq, r21883, r21885⟩
      replace hv := hv.symm
      subst hv
      have hs := hq.st
      have hp := hp.join0 hq
      replace r21875 := r21875.step hs
      replace r21877 := r21877.step hs
      replace tb := tb.step hs
      obtain ⟨x21886, q21887, q21858⟩ := bind_some q21858
      refine ev_call rfl rfl C19 (((rational_Add_ok n) _ _  x21870 v21874 r21875 v21876 r21877 x21878 v21882 r21883 v21884 r21885 hp.imm _ q21887).mono ?_)
      rintro _ w21888 ⟨I21889, v21890, v21892, hv, hq, r21891, r21893⟩
      replace hv := hv.symm
      subst hv
      have hs := hq.st
      have hp := hp.join0 hq
      replace tb := tb.step hs
      obtain ⟨x21894, q21895, q21858⟩ := bind_some q21858
      refine ev_call rfl rfl C35 (((rational_Text_ok n) _ _ tb x21886 v21890 r21891 v21892 r21893 hp.imm _ q21895).mono ?_)
      rintro _ w21896 ⟨rfl, hc⟩
      have hs := hp.stp hc
      replace hp := hp.ext hc
      replace tb := tb.step hs
      obtain rfl := Option.some.inj q21858
      exact ⟨((x21894.toList == (ByteArray.mk #[53, 47, 54]).toList), I21889), (.c rfl .n), rfl, hp, tb⟩
    ·
      have q21858 := cond_f q21858 hc
      obtain rfl := Option.some.inj q21858
      exact ⟨(false, I21862), (.c rfl .n), rfl, hp, tb⟩
  ·
    rintro ⟨x21854, I21855⟩ w21856 ⟨hy, hp, tb⟩
    replace hy := hy.symm
    subst hy
    apply go
    obtain rfl := Option.some.inj h
    exact ⟨rfl, hp.ch⟩

end Go.Proofs.YtepadjfmcbjkmaaDoor

namespace Go.Proofs.YtepadjfmcbjkmaaDoor
open Go Go.Proofs.YtepadjfmcbjkmaaDoor.Gw Go.RowKit
set_option linter.unusedVariables false
attribute [local irreducible] Ev EvQ EvS EvH
def ref02_Few_S (f : (List Rational) → Option Bool) : Prop := ∀ (w0 : World) (I0 : Nat → Prop) (x21897 : (List Rational)) (v21898 : Value) (r21899 : RepS dRational w0 I0 v21898 x21897) (hI : ∀ g, I0 g → g < w0.heap.size) (r : Bool), f x21897 = some r →
    Ret Tryd.prog 36 #[v21898] w0 fun v w1 => v = (.bool r) ∧ Ch [] w0 w1
theorem ref02_Few_ok (n : Nat) : ref02_Few_S (ref02_Few n) := by
  intro w0 I0 x21897 v21898 r21899 hI r h
  unfold ref02_Few at h
  refine enter Tryd.func36 rfl (Nat.le_of_ble_eq_true rfl) ?_
  have hp : Hp ⟨w0, I0, []⟩ I0 [] w0 := Hp.start hI
  apply go
  apply go
  apply go
  apply go
  obtain ⟨y21983, q21984, h⟩ := bind_some h
  refine W.cut (γ := Int) (fun g => [(0, v21898), (3, (.int .i64 (g)))]) (fun g w' => y21983 = (g) ∧ Hp ⟨w0, I0, []⟩ I0 [] w' ∧ RepS dRational w' I0 v21898 x21897) ?_ ?_
  ·
    apply go
    apply go
    apply go
    refine W.loop q21984 (γ := Unit) (fun s _ => [(0, v21898), (3, (.int .i64 (s.1))), (4, (.int .i64 (s.2)))]) (fun s _ w' => Hp ⟨w0, I0, []⟩ I0 [] w' ∧ RepS dRational w' I0 v21898 x21897) () (.c rfl (.c rfl (.c rfl .n))) ⟨hp, r21899⟩ ?_
    rintro ⟨x22009, x22010⟩ ⟨⟩ w22037 y22038 ⟨hp, r21899⟩ q22039 q22040
    unfold ref02_Few_L1 at q22039
    apply go
    obtain ⟨y22042, q22043, q22039⟩ := bind_some q22039
    refine W.cut (γ := Bool) (fun g => [(0, v21898), (3, (.int .i64 x22009)), (4, (.int .i64 x22010)), (12, (.bool (g)))]) (fun g w' => y22042 = (g) ∧ w22037 = w') ?_ ?_
    ·
      apply go
      refine ev0 (rn_len rfl rfl Tryd.underlying55 r21899) ?_
      refine sel_of (fun hc => ?_) (fun hc => ?_)
      ·
        have q22043 := cond_t q22043 hc
        obtain rfl := Option.some.inj q22043
        exact ⟨(decide (x22010 < 50)), (.c rfl (.c rfl (.c rfl (.c rfl .n)))), rfl, rfl⟩
      ·
        have q22043 := cond_f q22043 hc
        obtain rfl := Option.some.inj q22043
        exact ⟨false, (.c rfl (.c rfl (.c rfl (.c rfl .n)))), rfl, rfl⟩
    ·
      rintro x22041 _ ⟨hy, rfl⟩
      replace hy := hy.symm
      subst hy
      apply go
      refine sel_of (fun hc => ?_) (fun hc => ?_)
      ·
        have q22039 := cond_t q22039 hc
        apply go
        apply go
        apply go
        refine W.quiet (fun w' => Ch [] w22037 w') MX (by kernel_rfl) (Ch.drew [] w22037) ?_
        obtain ⟨x22044, q22045, q22039⟩ := bind_some q22039
        refine evq_index rfl rfl rfl Tryd.underlying55 T26 r21899 q22045 ?_
        intro p22046 c22047 d22048 a22049
        obtain ⟨v22050, v22052, rfl, r22051, r22053⟩ := dRational_o d22048
        refine evq0 (rn_field rfl rfl FO26_0) ?_
        refine evq0 (rn_field rfl rfl FO24_1) ?_
        refine evq (fun w' hw => rn_load rfl rfl (run_loadVar1 T22 ((a22049.step (hp.stp hw)).2 1 _ rfl))) ?_
        refine evq0 (rn_len rfl rfl Tryd.underlying22 r22051) ?_
        refine evq0 (rn_min rfl rfl rfl) ?_
        obtain ⟨x22054, q22055, q22039⟩ := bind_some q22039
        refine evq_index rfl rfl rfl Tryd.underlying55 T26 r21899 q22055 ?_
        intro p22056 c22057 d22058 a22059
        obtain ⟨v22060, v22062, rfl, r22061, r22063⟩ := dRational_o d22058
        refine evq0 (rn_field rfl rfl FO26_1) ?_
        refine evq0 (rn_fieldAt rfl rfl FO24_1) ?_
        refine evq (fun w' hw => rn_load rfl rfl (run_loadVar1 T22 ((a22059.step (hp.stp hw)).2 3 _ rfl))) ?_
        refine evq0 (rn_len rfl rfl Tryd.underlying22 r22063) ?_
        refine evq0 (rn_min rfl rfl rfl) ?_
        intro w22064 hc
        have hs := hp.stp hc
        replace hp := hp.ext hc
        replace r21899 := r21899.step hs
        apply go
        exact ⟨_, (Option.some.inj q22039).symm, (), (.c rfl (.c rfl (.c rfl .n))), ⟨hp, r21899⟩⟩
      ·
        have q22039 := cond_f q22039 hc
        apply go
        have q22065 := congrArg some (q22040 _ (Option.some.inj q22039).symm)
        obtain rfl := Option.some.inj q22065
        exact ⟨x22009, (.c rfl (.c rfl .n)), rfl, hp, r21899⟩
  ·
    rintro x21981 w21982 ⟨hy, hp, r21899⟩
    replace hy := hy.symm
    subst hy
    obtain ⟨y22067, q22068, h⟩ := bind_some h
    refine W.cut (γ := Bool) (fun g => [(2, (.bool (g)))]) (fun g w' => y22067 = (g) ∧ w21982 = w') ?_ ?_
    ·
      apply go
      refine ev0 (rn_len rfl rfl Tryd.underlying55 r21899) ?_
      refine sel_of (fun hc => ?_) (fun hc => ?_)
      ·
        have q22068 := cond_t q22068 hc
        obtain rfl := Option.some.inj q22068
        exact ⟨(decide (x21981 ≤ 60)), (.c rfl .n), rfl, rfl⟩
      ·
        have q22068 := cond_f q22068 hc
        obtain rfl := Option.some.inj q22068
        exact ⟨false, (.c rfl .n), rfl, rfl⟩
    ·
      rintro x22066 _ ⟨hy, rfl⟩
      replace hy := hy.symm
      subst hy
      apply go
      obtain rfl := Option.some.inj h
      exact ⟨rfl, hp.ch⟩

end Go.Proofs.YtepadjfmcbjkmaaDoor

namespace Go.Proofs.YtepadjfmcbjkmaaDoor
open Go Go.Proofs.YtepadjfmcbjkmaaDoor.Gw Go.RowKit
set_option linter.unusedVariables false
attribute [local irreducible] Ev EvQ EvS EvH
def law02_few_S (f : (List Rational) → Option Bool) : Prop := ∀ (w0 : World) (I0 : Nat → Prop) (x22069 : (List Rational)) (v22070 : Value) (r22071 : RepS dRational w0 I0 v22070 x22069) (hI : ∀ g, I0 g → g < w0.heap.size) (r : Bool), f x22069 = some r →
    Ret Tryd.prog 9 #[v22070] w0 fun v w1 => v = (.bool r) ∧ Ch [] w0 w1
theorem law02_few_ok (n : Nat) : law02_few_S (law02_few n) := by
  intro w0 I0 x22069 v22070 r22071 hI r h
  unfold law02_few at h
  refine enter Tryd.func9 rfl (Nat.le_of_ble_eq_true rfl) ?_
  have hp : Hp ⟨w0, I0, []⟩ I0 [] w0 := Hp.start hI
  apply go
  apply go
  apply go
  apply go
  obtain ⟨x22072, q22073, h⟩ := bind_some h
  refine ev_call rfl rfl C36 (((ref02_Few_ok n) _ _  x22069 v22070 r22071 hp.imm _ q22073).mono ?_)
  rintro _ w22074 ⟨rfl, hc⟩
  have hs := hp.stp hc
  replace hp := hp.ext hc
  apply go
  obtain rfl := Option.some.inj h
  exact ⟨rfl, hp.ch⟩

end Go.Proofs.YtepadjfmcbjkmaaDoor

namespace Go.Proofs.YtepadjfmcbjkmaaDoor
open Go Go.Proofs.YtepadjfmcbjkmaaDoor.Gw Go.RowKit
set_option linter.unusedVariables false
attribute [local irreducible] Ev EvQ EvS EvH
def rational_Sign_S (f : Rational → Option Int) : Prop := ∀ (w0 : World) (I0 : Nat → Prop) (x26866 : Rational) (v26867 : Value) (r26868 : RepS (dI .u32) w0 I0 v26867 x26866.Num.Mag) (v26869 : Value) (r26870 : RepS (dI .u32) w0 I0 v26869 x26866.Den.Mag) (hI : ∀ g, I0 g → g < w0.heap.size) (r : Int), f x26866 = some r →
    Ret Tryd.prog 17 #[(.agg #[(.bool x26866.Num.Neg), v26867, (.bool x26866.Den.Neg), v26869])] w0 fun v w1 => v = (.int .i64 r) ∧ Ch [] w0 w1
theorem rational_Sign_ok (n : Nat) : rational_Sign_S (rational_Sign n) := by
  intro w0 I0 x26866 v26867 r26868 v26869 r26870 hI r h
  unfold rational_Sign at h
  refine enter Tryd.func17 rfl (Nat.le_of_ble_eq_true rfl) ?_
  have hp : Hp ⟨w0, I0, []⟩ I0 [] w0 := Hp.start hI
  apply go
  apply go
  refine ev_boxI hp rfl rfl ?_
  intro p26873 I26874 w26872 hp hs a26875
  replace r26868 := r26868.step hs
  replace r26870 := r26870.step hs
  apply go
  refine W.quiet (fun w' => Ch [] w26872 w') MX (by kernel_rfl) (Ch.drew [] w26872) ?_
  refine evq0 (rn_field rfl rfl FO26_0) ?_
  refine evq (fun w' hw => rn_load rfl rfl (run_loadVarA T24 rfl (((a26875.step (hp.stp hw)).drop 0).take 2))) ?_
  obtain ⟨x26876, q26877, h⟩ := bind_some h
  refine evq_call rfl rfl C41 (fun w' hw => ((integer_Sign_ok n) _ _  (Int_2.mk x26866.Num.Neg x26866.Num.Mag) v26867 (r26868.step (hp.stp hw)) (hp.ext hw).imm _ q26877).mono fun _ _ ⟨e, hc⟩ => ⟨e, hw.trans hc⟩) ?_
  refine evq0 (rn_field rfl rfl FO26_1) ?_
  refine evq (fun w' hw => rn_load rfl rfl (run_loadVarA T24 rfl (((a26875.step (hp.stp hw)).drop 2).take 2))) ?_
  obtain ⟨x26878, q26879, h⟩ := bind_some h
  refine evq_call rfl rfl C41 (fun w' hw => ((integer_Sign_ok n) _ _  (Int_2.mk x26866.Den.Neg x26866.Den.Mag) v26869 (r26870.step (hp.stp hw)) (hp.ext hw).imm _ q26879).mono fun _ _ ⟨e, hc⟩ => ⟨e, hw.trans hc⟩) ?_
  intro w26880 hc
  have hs := hp.stp hc
  replace hp := hp.ext hc
  apply go
  obtain rfl := Option.some.inj h
  exact ⟨rfl, hp.ch⟩

end Go.Proofs.YtepadjfmcbjkmaaDoor

namespace Go.Proofs.YtepadjfmcbjkmaaDoor
open Go Go.Proofs.YtepadjfmcbjkmaaDoor.Gw Go.RowKit
set_option linter.unusedVariables false
attribute [local irreducible] Ev EvQ EvS EvH
def rational_Mul_S (f : Rational → Rational → Option Rational) : Prop := ∀ (w0 : World) (I0 : Nat → Prop) (x29835 : Rational) (v29836 : Value) (r29837 : RepS (dI .u32) w0 I0 v29836 x29835.Num.Mag) (v29838 : Value) (r29839 : RepS (dI .u32) w0 I0 v29838 x29835.Den.Mag) (x29840 : Rational) (v29841 : Value) (r29842 : RepS (dI .u32) w0 I0 v29841 x29840.Num.Mag) (v29843 : Value) (r29844 : RepS (dI .u32) w0 I0 v29843 x29840.Den.Mag) (hI : ∀ g, I0 g → g < w0.heap.size) (r : Rational), f x29835 x29840 = some r →
    Ret Tryd.prog 23 #[(.agg #[(.bool x29835.Num.Neg), v29836, (.bool x29835.Den.Neg), v29838]), (.agg #[(.bool x29840.Num.Neg), v29841, (.bool x29840.Den.Neg), v29843])] w0 fun v w1 => ∃ (I1 : Nat → Prop) (u29845 : Value) (u29846 : Value), v = (.agg #[(.bool r.Num.Neg), u29845, (.bool r.Den.Neg), u29846]) ∧ Hp ⟨w0, I0, []⟩ I1 [] w1 ∧ RepS (dI .u32) w1 I1 u29845 r.Num.Mag ∧ RepS (dI .u32) w1 I1 u29846 r.Den.Mag
theorem rational_Mul_ok (n : Nat) : rational_Mul_S (rational_Mul n) := by
  intro w0 I0 x29835 v29836 r29837 v29838 r29839 x29840 v29841 r29842 v29843 r29844 hI r h
  unfold rational_Mul at h
  refine enter Tryd.func23 rfl (Nat.le_of_ble_eq_true rfl) ?_
  have hp : Hp ⟨w0, I0, []⟩ I0 [] w0 := Hp.start hI
  apply go
  apply go
  refine ev_boxI hp rfl rfl ?_
  intro p29849 I29850 w29848 hp hs a29851
  replace r29842 := r29842.step hs
  replace r29844 := r29844.step hs
  replace r29837 := r29837.step hs
  replace r29839 := r29839.step hs
  refine ev_boxI hp rfl rfl ?_
  intro p29854 I29855 w29853 hp hs a29856
  replace a29851 := a29851.step hs
  replace r29837 := r29837.step hs
  replace r29839 := r29839.step hs
  replace r29842 := r29842.step hs
  replace r29844 := r29844.step hs
  refine ev_alloc hp rfl T26 ?_
  intro g29857 w29858 hp hs
  replace a29851 := a29851.step hs
  replace r29837 := r29837.step hs
  replace r29839 := r29839.step hs
  replace a29856 := a29856.step hs
  replace r29842 := r29842.step hs
  replace r29844 := r29844.step hs
  apply go
  have hs := hp.stp (Ch.drew [] w29858)
  have hp := hp.drew
  replace a29851 := a29851.step hs
  replace r29837 := r29837.step hs
  replace r29839 := r29839.step hs
  replace a29856 := a29856.step hs
  replace r29842 := r29842.step hs
  replace r29844 := r29844.step hs
  refine W.held [(0, true), (1, true), (2, true), (3, true), (5, true), (6, true), (7, true), (8, true), (4, false), (9, false), (10, false), (11, false)] (Stp I29855 w29858.drew I29855) MX (by kernel_rfl) (Stp.refl _ _) ?_
  have hz := Stp.refl I29855 w29858.drew
  refine evh0 (rn_field rfl rfl FO26_0) ?_
  refine evh (fun w' hw => rn_load rfl rfl (run_loadVarA T24 rfl (((a29851.step hw).drop 0).take 2))) ?_
  refine evh0 (rn_field rfl rfl FO26_0) ?_
  refine evh (fun w' hw => rn_load rfl rfl (run_loadVarA T24 rfl (((a29856.step hw).drop 0).take 2))) ?_
  refine evh0 (rn_field rfl rfl FO26_1) ?_
  refine evh (fun w' hw => rn_load rfl rfl (run_loadVarA T24 rfl (((a29851.step hw).drop 2).take 2))) ?_
  refine evh0 (rn_field rfl rfl FO26_1) ?_
  refine evh (fun w' hw => rn_load rfl rfl (run_loadVarA T24 rfl (((a29856.step hw).drop 2).take 2))) ?_
  obtain ⟨x29880, q29881, h⟩ := bind_some h
  refine ev_call rfl rfl C47 (((integer_Mul_ok n) _ _  (Int_2.mk x29835.Num.Neg x29835.Num.Mag) v29836 r29837 (Int_2.mk x29840.Num.Neg x29840.Num.Mag) v29841 r29842 hp.imm _ q29881).mono ?_)
  rintro _ w29882 ⟨I29883, v29884, hv, hq, r29885⟩
  replace hv := hv.symm
  subst hv
  have hs := hq.st
  have hp := hp.join0 hq
  replace hz := hz.trans hs
  replace r29839 := r29839.step hs
  replace r29844 := r29844.step hs
  refine ⟨Stp I29883 w29882 I29883, Stp.refl _ _, fun x hx => hz.held hx, ?_⟩
  have hz := Stp.refl I29883 w29882
  obtain ⟨x29886, q29887, h⟩ := bind_some h
  refine ev_call rfl rfl C47 (((integer_Mul_ok n) _ _  (Int_2.mk x29835.Den.Neg x29835.Den.Mag) v29838 r29839 (Int_2.mk x29840.Den.Neg x29840.Den.Mag) v29843 r29844 hp.imm _ q29887).mono ?_)
  rintro _ w29888 ⟨I29889, v29890, hv, hq, r29891⟩
  replace hv := hv.symm
  subst hv
  have hs := hq.st
  have hp := hp.join0 hq
  replace hz := hz.trans hs
  replace r29885 := r29885.step hs
  refine ⟨Stp I29889 w29888 I29889, Stp.refl _ _, fun x hx => hz.held hx, ?_⟩
  have hz := Stp.refl I29889 w29888
  obtain ⟨x29892, q29893, h⟩ := bind_some h
  refine ev_call rfl rfl C14 (((rational_New_ok n) _ _  x29880 v29884 r29885 x29886 v29890 r29891 hp.imm _ q29893).mono ?_)
  rintro _ w29894 ⟨I29895, v29896, v29898, hv, hq, r29897, r29899⟩
  replace hv := hv.symm
  subst hv
  have hs := hq.st
  have hp := hp.join0 hq
  replace hz := hz.trans hs
  refine ⟨Stp I29895 w29894 I29895, Stp.refl _ _, fun x hx => hz.held hx, ?_⟩
  have hz := Stp.refl I29895 w29894
  refine ev_storeA hp (i := 0) (off := 0) (vs := [(.bool x29892.Num.Neg), v29896, (.bool x29892.Den.Neg), v29898]) rfl rfl rfl rfl T26 rfl (Nat.le_of_ble_eq_true rfl) (ones_cons rfl (ones_cons r29897.one (ones_cons rfl (ones_cons r29899.one ones_nil)))) ?_
  intro w29900 hp hs
  replace hz := hz.trans hs
  replace r29897 := r29897.step hs
  replace r29899 := r29899.step hs
  refine ⟨Stp I29895 w29900 I29895, Stp.refl _ _, fun x hx => hz.held hx, ?_⟩
  have hz := Stp.refl I29895 w29900
  apply go
  obtain rfl := Option.some.inj h
  refine ⟨_, run_loadVarA T26 rfl (hp.at_ (i := 0) rfl), ?_⟩
  have hp := hp.sel [] (by decide)
  exact ⟨I29895, v29896, v29898, rfl, hp, r29897, r29899⟩

end Go.Proofs.YtepadjfmcbjkmaaDoor

namespace Go.Proofs.YtepadjfmcbjkmaaDoor
open Go Go.Proofs.YtepadjfmcbjkmaaDoor.Gw Go.RowKit
set_option linter.unusedVariables false
attribute [local irreducible] Ev EvQ EvS EvH
def rational_Cmp_S (f : Rational → Rational → Option Int) : Prop := ∀ (w0 : World) (I0 : Nat → Prop) (x32250 : Rational) (v32251 : Value) (r32252 : RepS (dI .u32) w0 I0 v32251 x32250.Num.Mag) (v32253 : Value) (r32254 : RepS (dI .u32) w0 I0 v32253 x32250.Den.Mag) (x32255 : Rational) (v32256 : Value) (r32257 : RepS (dI .u32) w0 I0 v32256 x32255.Num.Mag) (v32258 : Value) (r32259 : RepS (dI .u32) w0 I0 v32258 x32255.Den.Mag) (hI : ∀ g, I0 g → g < w0.heap.size) (r : Int), f x32250 x32255 = some r →
    Ret Tryd.prog 28 #[(.agg #[(.bool x32250.Num.Neg), v32251, (.bool x32250.Den.Neg), v32253]), (.agg #[(.bool x32255.Num.Neg), v32256, (.bool x32255.Den.Neg), v32258])] w0 fun v w1 => v = (.int .i64 r) ∧ Ch [] w0 w1
theorem rational_Cmp_ok (n : Nat) : rational_Cmp_S (rational_Cmp n) := by
  intro w0 I0 x32250 v32251 r32252 v32253 r32254 x32255 v32256 r32257 v32258 r32259 hI r h
  unfold rational_Cmp at h
  refine enter Tryd.func28 rfl (Nat.le_of_ble_eq_true rfl) ?_
  have hp : Hp ⟨w0, I0, []⟩ I0 [] w0 := Hp.start hI
  apply go
  apply go
  refine ev_box hp rfl rfl ?_
  intro g32260 w32261 hp hs
  replace r32257 := r32257.step hs
  replace r32259 := r32259.step hs
  replace r32252 := r32252.step hs
  replace r32254 := r32254.step hs
  refine ev_box hp rfl rfl ?_
  intro g32262 w32263 hp hs
  replace r32257 := r32257.step hs
  replace r32259 := r32259.step hs
  replace r32252 := r32252.step hs
  replace r32254 := r32254.step hs
  apply go
  have hs := hp.stp (Ch.drew [] w32263)
  have hp := hp.drew
  replace r32257 := r32257.step hs
  replace r32259 := r32259.step hs
  replace r32252 := r32252.step hs
  replace r32254 := r32254.step hs
  refine W.heldG (.q 0 (.q 2 (.l 1 (.l 3 (.l 4 (.l 5 .done .no) .no) .no) .no))) (SK (Stp I0 w32263.drew I0) [(g32260, [(.bool x32250.Num.Neg), v32251, (.bool x32250.Den.Neg), v32253], 26), (g32262, [(.bool x32255.Num.Neg), v32256, (.bool x32255.Den.Neg), v32258], 26)] [[4], [5]]) MX (by kernel_rfl) ⟨Stp.refl _ _, (kp_cons (fun _ => (hp.own 1 _ _ _ rfl).1) (kp_cons (fun _ => (hp.own 0 _ _ _ rfl).1) kp_nil))⟩ ?_
  have hz := Stp.refl I0 w32263.drew
  refine ⟨SK.same (by kernel_rfl), ?_⟩
  refine evh (fun w' hw => rn_load rfl rfl (run_loadVarA T26 rfl ((S0.keep (p := 0) hw rfl rfl (by kernel_rfl)).at_ (i := 0) rfl))) ?_
  refine ⟨SK.same (by kernel_rfl), ?_⟩
  refine evh (fun w' hw => rn_load rfl rfl (run_loadVarA T26 rfl ((S0.keep (p := 1) hw rfl rfl (by kernel_rfl)).at_ (i := 0) rfl))) ?_
  refine ⟨?_, trivial⟩
  obtain ⟨x32282, q32283, h⟩ := bind_some h
  refine ev_call rfl rfl C16 (((rational_Norm_ok n) _ _  (Rational.mk (Int_2.mk x32250.Num.Neg x32250.Num.Mag) (Int_2.mk x32250.Den.Neg x32250.Den.Mag)) v32251 r32252 v32253 r32254 hp.imm _ q32283).mono ?_)
  rintro _ w32284 ⟨I32285, v32286, v32288, hv, hq, r32287, r32289⟩
  replace hv := hv.symm
  subst hv
  have hs := hq.st
  have hp := hp.join0 hq
  replace hz := hz.trans hs
  replace r32257 := r32257.step hs
  replace r32259 := r32259.step hs
  replace r32252 := r32252.step hs
  replace r32254 := r32254.step hs
  refine ⟨SK (Stp I32285 w32284 I32285) [(g32260, [(.bool x32250.Num.Neg), v32251, (.bool x32250.Den.Neg), v32253], 26), (g32262, [(.bool x32255.Num.Neg), v32256, (.bool x32255.Den.Neg), v32258], 26)] [[4], [5]], ⟨Stp.refl _ _, (kp_cons (fun _ => (hp.own 1 _ _ _ rfl).1) (kp_cons (fun _ => (hp.own 0 _ _ _ rfl).1) kp_nil))⟩, fun L x h => ⟨hz.held h.1, h.2⟩, ?_⟩
  have hz := Stp.refl I32285 w32284
  refine ⟨?_, trivial⟩
  obtain ⟨x32290, q32291, h⟩ := bind_some h
  refine ev_call rfl rfl C16 (((rational_Norm_ok n) _ _  (Rational.mk (Int_2.mk x32255.Num.Neg x32255.Num.Mag) (Int_2.mk x32255.Den.Neg x32255.Den.Mag)) v32256 r32257 v32258 r32259 hp.imm _ q32291).mono ?_)
  rintro _ w32292 ⟨I32293, v32294, v32296, hv, hq, r32295, r32297⟩
  replace hv := hv.symm
  subst hv
  have hs := hq.st
  have hp := hp.join0 hq
  replace hz := hz.trans hs
  replace r32287 := r32287.step hs
  replace r32289 := r32289.step hs
  replace r32257 := r32257.step hs
  replace r32259 := r32259.step hs
  replace r32252 := r32252.step hs
  replace r32254 := r32254.step hs
  refine ⟨SK (Stp I32293 w32292 I32293) [(g32260, [(.bool x32250.Num.Neg), v32251, (.bool x32250.Den.Neg), v32253], 26), (g32262, [(.bool x32255.Num.Neg), v32256, (.bool x32255.Den.Neg), v32258], 26)] [[4], [5]], ⟨Stp.refl _ _, (kp_cons (fun _ => (hp.own 1 _ _ _ rfl).1) (kp_cons (fun _ => (hp.own 0 _ _ _ rfl).1) kp_nil))⟩, fun L x h => ⟨hz.held h.1, h.2⟩, ?_⟩
  have hz := Stp.refl I32293 w32292
  refine ⟨?_, trivial⟩
  refine ev_storeA hp (i := 1) (off := 0) (vs := [(.bool x32282.Num.Neg), v32286, (.bool x32282.Den.Neg), v32288]) rfl rfl rfl rfl T26 rfl (Nat.le_of_ble_eq_true rfl) (ones_cons rfl (ones_cons r32287.one (ones_cons rfl (ones_cons r32289.one ones_nil)))) ?_
  intro w32298 hp hs
  replace hz := hz.trans hs
  replace r32295 := r32295.step hs
  replace r32297 := r32297.step hs
  replace r32257 := r32257.step hs
  replace r32259 := r32259.step hs
  replace r32287 := r32287.step hs
  replace r32289 := r32289.step hs
  refine ⟨SK (Stp I32293 w32298 I32293) [(g32260, [(.bool x32250.Num.Neg), v32251, (.bool x32250.Den.Neg), v32253], 26), (g32262, [(.bool x32255.Num.Neg), v32256, (.bool x32255.Den.Neg), v32258], 26)] [[4], [5]], ⟨Stp.refl _ _, (kp_cons (kp_off (by kernel_rfl)) (kp_cons (fun _ => (hp.own 0 _ _ _ rfl).1) kp_nil))⟩, fun L x h => ⟨hz.held h.1, h.2⟩, ?_⟩
  have hz := Stp.refl I32293 w32298
  refine ⟨?_, trivial⟩
  refine ev_storeA hp (i := 0) (off := 0) (vs := [(.bool x32290.Num.Neg), v32294, (.bool x32290.Den.Neg), v32296]) rfl rfl rfl rfl T26 rfl (Nat.le_of_ble_eq_true rfl) (ones_cons rfl (ones_cons r32295.one (ones_cons rfl (ones_cons r32297.one ones_nil)))) ?_
  intro w32299 hp hs
  replace hz := hz.trans hs
  replace r32295 := r32295.step hs
  replace r32297 := r32297.step hs
  replace r32287 := r32287.step hs
  replace r32289 := r32289.step hs
  refine ⟨SK (Stp I32293 w32299 I32293) [(g32260, [(.bool x32250.Num.Neg), v32251, (.bool x32250.Den.Neg), v32253], 26), (g32262, [(.bool x32255.Num.Neg), v32256, (.bool x32255.Den.Neg), v32258], 26)] [[4], [5]], ⟨Stp.refl _ _, (kp_cons (kp_off (by kernel_rfl)) (kp_cons (kp_off (by kernel_rfl)) kp_nil))⟩, fun L x h => ⟨hz.held h.1, h.2⟩, ?_⟩
  have hz := Stp.refl I32293 w32299
  apply go
  have hs := hp.stp (Ch.drew [] w32299)
  have hp := hp.drew
  replace r32295 := r32295.step hs
  replace r32297 := r32297.step hs
  replace r32287 := r32287.step hs
  replace r32289 := r32289.step hs
  refine W.held [(0, true), (1, true), (2, true), (3, true), (5, true), (6, true), (7, true), (8, true), (4, false), (9, false), (10, false), (11, true)] (fun x => Stp I32293 w32299.drew I32293 x ∧ OwnK [(g32260, [(.bool x32282.Num.Neg), v32286, (.bool x32282.Den.Neg), v32288], 26), (g32262, [(.bool x32290.Num.Neg), v32294, (.bool x32290.Den.Neg), v32296], 26)] x) MX (by kernel_rfl) ⟨Stp.refl _ _, (OwnK.cons (hp.own 1 _ _ _ rfl).1 (OwnK.cons (hp.own 0 _ _ _ rfl).1 OwnK.nil))⟩ ?_
  have hz := Stp.refl I32293 w32299.drew
  refine evh0 (rn_field rfl rfl FO26_0) ?_
  refine evh (fun w' hw => rn_load rfl rfl (run_loadVarA T24 rfl (((hw.2.at_ (i := 0) rfl).drop 0).take 2))) ?_
  refine evh0 (rn_field rfl rfl FO26_1) ?_
  refine evh (fun w' hw => rn_load rfl rfl (run_loadVarA T24 rfl (((hw.2.at_ (i := 1) rfl).drop 2).take 2))) ?_
  refine evh0 (rn_field rfl rfl FO26_0) ?_
  refine evh (fun w' hw => rn_load rfl rfl (run_loadVarA T24 rfl (((hw.2.at_ (i := 1) rfl).drop 0).take 2))) ?_
  refine evh0 (rn_field rfl rfl FO26_1) ?_
  refine evh (fun w' hw => rn_load rfl rfl (run_loadVarA T24 rfl (((hw.2.at_ (i := 0) rfl).drop 2).take 2))) ?_
  obtain ⟨x32315, q32316, h⟩ := bind_some h
  refine ev_call rfl rfl C47 (((integer_Mul_ok n) _ _  (Int_2.mk x32282.Num.Neg x32282.Num.Mag) v32286 r32287 (Int_2.mk x32290.Den.Neg x32290.Den.Mag) v32296 r32297 hp.imm _ q32316).mono ?_)
  rintro _ w32317 ⟨I32318, v32319, hv, hq, r32320⟩
  replace hv := hv.symm
  subst hv
  have hs := hq.st
  have hp := hp.join0 hq
  replace hz := hz.trans hs
  replace r32295 := r32295.step hs
  replace r32289 := r32289.step hs
  replace r32297 := r32297.step hs
  replace r32287 := r32287.step hs
  refine ⟨fun x => Stp I32318 w32317 I32318 x ∧ OwnK [(g32260, [(.bool x32282.Num.Neg), v32286, (.bool x32282.Den.Neg), v32288], 26), (g32262, [(.bool x32290.Num.Neg), v32294, (.bool x32290.Den.Neg), v32296], 26)] x, ⟨Stp.refl _ _, (OwnK.cons (hp.own 1 _ _ _ rfl).1 (OwnK.cons (hp.own 0 _ _ _ rfl).1 OwnK.nil))⟩, fun x hx => ⟨hz.held hx.1, hx.2⟩, ?_⟩
  have hz := Stp.refl I32318 w32317
  obtain ⟨x32321, q32322, h⟩ := bind_some h
  refine ev_call rfl rfl C47 (((integer_Mul_ok n) _ _  (Int_2.mk x32290.Num.Neg x32290.Num.Mag) v32294 r32295 (Int_2.mk x32282.Den.Neg x32282.Den.Mag) v32288 r32289 hp.imm _ q32322).mono ?_)
  rintro _ w32323 ⟨I32324, v32325, hv, hq, r32326⟩
  replace hv := hv.symm
  subst hv
  have hs := hq.st
  have hp := hp.join0 hq
  replace hz := hz.trans hs
  replace r32320 := r32320.step hs
  replace r32295 := r32295.step hs
  replace r32297 := r32297.step hs
  replace r32287 := r32287.step hs
  replace r32289 := r32289.step hs
  refine ⟨fun x => Stp I32324 w32323 I32324 x ∧ OwnK [(g32260, [(.bool x32282.Num.Neg), v32286, (.bool x32282.Den.Neg), v32288], 26), (g32262, [(.bool x32290.Num.Neg), v32294, (.bool x32290.Den.Neg), v32296], 26)] x, ⟨Stp.refl _ _, (OwnK.cons (hp.own 1 _ _ _ rfl).1 (OwnK.cons (hp.own 0 _ _ _ rfl).1 OwnK.nil))⟩, fun x hx => ⟨hz.held hx.1, hx.2⟩, ?_⟩
  have hz := Stp.refl I32324 w32323
  obtain ⟨x32327, q32328, h⟩ := bind_some h
  refine ev_call rfl rfl C51 (((integer_Cmp_ok n) _ _  x32315 v32319 r32320 x32321 v32325 r32326 hp.imm _ q32328).mono ?_)
  rintro _ w32329 ⟨rfl, hc⟩
  have hs := hp.stp hc
  replace hp := hp.ext hc
  replace hz := hz.trans hs
  replace r32295 := r32295.step hs
  replace r32297 := r32297.step hs
  replace r32287 := r32287.step hs
  replace r32289 := r32289.step hs
  refine ⟨fun x => Stp I32324 w32329 I32324 x ∧ OwnK [(g32260, [(.bool x32282.Num.Neg), v32286, (.bool x32282.Den.Neg), v32288], 26), (g32262, [(.bool x32290.Num.Neg), v32294, (.bool x32290.Den.Neg), v32296], 26)] x, ⟨Stp.refl _ _, (OwnK.cons (hp.own 1 _ _ _ rfl).1 (OwnK.cons (hp.own 0 _ _ _ rfl).1 OwnK.nil))⟩, fun x hx => ⟨hz.held hx.1, hx.2⟩, ?_⟩
  have hz := Stp.refl I32324 w32329
  apply go
  obtain rfl := Option.some.inj h
  exact ⟨rfl, hp.ch⟩

end Go.Proofs.YtepadjfmcbjkmaaDoor

namespace Go.Proofs.YtepadjfmcbjkmaaDoor
open Go Go.Proofs.YtepadjfmcbjkmaaDoor.Gw Go.RowKit
set_option linter.unusedVariables false
attribute [local irreducible] Ev EvQ EvS EvH
def rational_Floor_S (f : Rational → Option Int_2) : Prop := ∀ (w0 : World) (I0 : Nat → Prop) (x32330 : Rational) (v32331 : Value) (r32332 : RepS (dI .u32) w0 I0 v32331 x32330.Num.Mag) (v32333 : Value) (r32334 : RepS (dI .u32) w0 I0 v32333 x32330.Den.Mag) (hI : ∀ g, I0 g → g < w0.heap.size) (r : Int_2), f x32330 = some r →
    Ret Tryd.prog 29 #[(.agg #[(.bool x32330.Num.Neg), v32331, (.bool x32330.Den.Neg), v32333])] w0 fun v w1 => ∃ (I1 : Nat → Prop) (u32335 : Value), v = (.agg #[(.bool r.Neg), u32335]) ∧ Hp ⟨w0, I0, []⟩ I1 [] w1 ∧ RepS (dI .u32) w1 I1 u32335 r.Mag
theorem rational_Floor_ok (n : Nat) : rational_Floor_S (rational_Floor n) := by
  intro w0 I0 x32330 v32331 r32332 v32333 r32334 hI r h
  unfold rational_Floor at h
  refine enter Tryd.func29 rfl (Nat.le_of_ble_eq_true rfl) ?_
  have hp : Hp ⟨w0, I0, []⟩ I0 [] w0 := Hp.start hI
  apply go
  apply go
  refine ev_box hp rfl rfl ?_
  intro g32336 w32337 hp hs
  replace r32332 := r32332.step hs
  replace r32334 := r32334.step hs
  refine ev_alloc hp rfl T24 ?_
  intro g32338 w32339 hp hs
  replace r32332 := r32332.step hs
  replace r32334 := r32334.step hs
  apply go
  apply go
  refine ev (rn_load rfl rfl (run_loadVarA T26 rfl (hp.at_ (i := 1) rfl))) ?_
  obtain ⟨x32340, q32341, h⟩ := bind_some h
  refine ev_call rfl rfl C16 (((rational_Norm_ok n) _ _  (Rational.mk (Int_2.mk x32330.Num.Neg x32330.Num.Mag) (Int_2.mk x32330.Den.Neg x32330.Den.Mag)) v32331 r32332 v32333 r32334 hp.imm _ q32341).mono ?_)
  rintro _ w32342 ⟨I32343, v32344, v32346, hv, hq, r32345, r32347⟩
  replace hv := hv.symm
  subst hv
  have hs := hq.st
  have hp := hp.join0 hq
  replace r32332 := r32332.step hs
  replace r32334 := r32334.step hs
  refine ev_storeA hp (i := 1) (off := 0) (vs := [(.bool x32340.Num.Neg), v32344, (.bool x32340.Den.Neg), v32346]) rfl rfl rfl rfl T26 rfl (Nat.le_of_ble_eq_true rfl) (ones_cons rfl (ones_cons r32345.one (ones_cons rfl (ones_cons r32347.one ones_nil)))) ?_
  intro w32348 hp hs
  replace r32345 := r32345.step hs
  replace r32347 := r32347.step hs
  apply go
  apply go
  refine ev0 (rn_field rfl rfl FO26_0) ?_
  refine ev (rn_load rfl rfl (run_loadVarA T24 rfl (((hp.at_ (i := 1) rfl).drop 0).take 2))) ?_
  refine ev0 (rn_field rfl rfl FO26_1) ?_
  refine ev (rn_load rfl rfl (run_loadVarA T24 rfl (((hp.at_ (i := 1) rfl).drop 2).take 2))) ?_
  obtain ⟨⟨x32349, x32350, x32351⟩, q32352, h⟩ := bind_some h
  refine ev_call rfl rfl C44 (((integer_DivMod_ok n) _ _  (Int_2.mk x32340.Num.Neg x32340.Num.Mag) v32344 r32345 (Int_2.mk x32340.Den.Neg x32340.Den.Mag) v32346 r32347 hp.imm _ q32352).mono ?_)
  rintro _ w32353 ⟨I32354, v32355, v32357, hv, hq, r32356, r32358⟩
  replace hv := hv.symm
  subst hv
  have hs := hq.st
  have hp := hp.join0 hq
  replace r32345 := r32345.step hs
  replace r32347 := r32347.step hs
  refine ev_alloc hp rfl T24 ?_
  intro g32359 w32360 hp hs
  replace r32356 := r32356.step hs
  replace r32358 := r32358.step hs
  replace r32345 := r32345.step hs
  replace r32347 := r32347.step hs
  refine ev_alloc hp rfl T24 ?_
  intro g32361 w32362 hp hs
  replace r32356 := r32356.step hs
  replace r32358 := r32358.step hs
  replace r32345 := r32345.step hs
  replace r32347 := r32347.step hs
  refine ev_storeA hp (i := 1) (off := 0) (vs := [(.bool x32349.Neg), v32355]) rfl rfl rfl rfl T24 rfl (Nat.le_of_ble_eq_true rfl) (ones_cons rfl (ones_cons r32356.one ones_nil)) ?_
  intro w32363 hp hs
  replace r32358 := r32358.step hs
  replace r32356 := r32356.step hs
  replace r32345 := r32345.step hs
  replace r32347 := r32347.step hs
  refine ev_storeA hp (i := 0) (off := 0) (vs := [(.bool x32350.Neg), v32357]) rfl rfl rfl rfl T24 rfl (Nat.le_of_ble_eq_true rfl) (ones_cons rfl (ones_cons r32358.one ones_nil)) ?_
  intro w32364 hp hs
  replace r32358 := r32358.step hs
  replace r32356 := r32356.step hs
  replace r32345 := r32345.step hs
  replace r32347 := r32347.step hs
  apply go
  apply go
  refine ev (rn_load rfl rfl (run_loadVarA T24 rfl (hp.at_ (i := 1) rfl))) ?_
  refine ev_storeA hp (i := 2) (off := 0) (vs := [(.bool x32349.Neg), v32355]) rfl rfl rfl rfl T24 rfl (Nat.le_of_ble_eq_true rfl) (ones_cons rfl (ones_cons r32356.one ones_nil)) ?_
  intro w32365 hp hs
  replace r32358 := r32358.step hs
  replace r32356 := r32356.step hs
  replace r32345 := r32345.step hs
  replace r32347 := r32347.step hs
  apply go
  obtain rfl := Option.some.inj h
  refine ⟨_, run_loadVarA T24 rfl (hp.at_ (i := 2) rfl), ?_⟩
  have hp := hp.sel [] (by decide)
  exact ⟨I32354, v32355, rfl, hp, r32356⟩

end Go.Proofs.YtepadjfmcbjkmaaDoor

namespace Go.Proofs.YtepadjfmcbjkmaaDoor
open Go Go.Proofs.YtepadjfmcbjkmaaDoor.Gw Go.RowKit
set_option linter.unusedVariables false
attribute [local irreducible] Ev EvQ EvS EvH
def rational_Whole_S (f : Rational → Option (Int_2 × Bool)) : Prop := ∀ (w0 : World) (I0 : Nat → Prop) (x32366 : Rational) (v32367 : Value) (r32368 : RepS (dI .u32) w0 I0 v32367 x32366.Num.Mag) (v32369 : Value) (r32370 : RepS (dI .u32) w0 I0 v32369 x32366.Den.Mag) (hI : ∀ g, I0 g → g < w0.heap.size) (r : (Int_2 × Bool)), f x32366 = some r →
    Ret Tryd.prog 30 #[(.agg #[(.bool x32366.Num.Neg), v32367, (.bool x32366.Den.Neg), v32369])] w0 fun v w1 => ∃ (I1 : Nat → Prop) (u32371 : Value), v = (.tuple #[(.agg #[(.bool r.1.Neg), u32371]), (.bool r.2)]) ∧ Hp ⟨w0, I0, []⟩ I1 [] w1 ∧ RepS (dI .u32) w1 I1 u32371 r.1.Mag
theorem rational_Whole_ok (n : Nat) : rational_Whole_S (rational_Whole n) := by
  intro w0 I0 x32366 v32367 r32368 v32369 r32370 hI r h
  unfold rational_Whole at h
  refine enter Tryd.func30 rfl (Nat.le_of_ble_eq_true rfl) ?_
  have hp : Hp ⟨w0, I0, []⟩ I0 [] w0 := Hp.start hI
  apply go
  apply go
  refine ev_box hp rfl rfl ?_
  intro g32372 w32373 hp hs
  replace r32368 := r32368.step hs
  replace r32370 := r32370.step hs
  refine ev_alloc hp rfl T24 ?_
  intro g32374 w32375 hp hs
  replace r32368 := r32368.step hs
  replace r32370 := r32370.step hs
  apply go
  apply go
  refine ev (rn_load rfl rfl (run_loadVarA T26 rfl (hp.at_ (i := 1) rfl))) ?_
  obtain ⟨x32376, q32377, h⟩ := bind_some h
  refine ev_call rfl rfl C16 (((rational_Norm_ok n) _ _  (Rational.mk (Int_2.mk x32366.Num.Neg x32366.Num.Mag) (Int_2.mk x32366.Den.Neg x32366.Den.Mag)) v32367 r32368 v32369 r32370 hp.imm _ q32377).mono ?_)
  rintro _ w32378 ⟨I32379, v32380, v32382, hv, hq, r32381, r32383⟩
  replace hv := hv.symm
  subst hv
  have hs := hq.st
  have hp := hp.join0 hq
  replace r32368 := r32368.step hs
  replace r32370 := r32370.step hs
  refine ev_storeA hp (i := 1) (off := 0) (vs := [(.bool x32376.Num.Neg), v32380, (.bool x32376.Den.Neg), v32382]) rfl rfl rfl rfl T26 rfl (Nat.le_of_ble_eq_true rfl) (ones_cons rfl (ones_cons r32381.one (ones_cons rfl (ones_cons r32383.one ones_nil)))) ?_
  intro w32384 hp hs
  replace r32381 := r32381.step hs
  replace r32383 := r32383.step hs
  apply go
  apply go
  apply go
  refine ev0 (rn_field rfl rfl FO26_1) ?_
  refine ev (rn_load rfl rfl (run_loadVarA T24 rfl (((hp.at_ (i := 1) rfl).drop 2).take 2))) ?_
  obtain ⟨x32385, q32386, h⟩ := bind_some h
  refine ev_call rfl rfl C52 (((rational_one_ok n) _ _  (Int_2.mk x32376.Den.Neg x32376.Den.Mag) v32382 r32383 hp.imm _ q32386).mono ?_)
  rintro _ w32387 ⟨rfl, hc⟩
  have hs := hp.stp hc
  replace hp := hp.ext hc
  replace r32381 := r32381.step hs
  replace r32383 := r32383.step hs
  apply go
  refine sel_of (fun hc => ?_) (fun hc => ?_)
  ·
    have h := cond_t h hc
    apply go
    apply go
    refine ev0 (fun w => rn_build (cs := [(.bool false), (.slice none 0 0)]) rfl rfl T24 PL24 rfl) ?_
    refine ev_storeA hp (i := 0) (off := 0) (vs := [(.bool false), (.slice none 0 0)]) rfl rfl rfl rfl T24 rfl (Nat.le_of_ble_eq_true rfl) (ones_of rfl) ?_
    intro w32388 hp hs
    replace r32381 := r32381.step hs
    replace r32383 := r32383.step hs
    apply go
    obtain rfl := Option.some.inj h
    refine ⟨_, run_loadVarA T24 rfl (hp.at_ (i := 0) rfl), ?_⟩
    have hp := hp.sel [] (by decide)
    exact ⟨I32379, .slice none 0 0, rfl, hp, RepS.nil _ _ _⟩
  ·
    have h := cond_f h hc
    apply go
    apply go
    apply go
    refine ev0 (rn_field rfl rfl FO26_0) ?_
    refine ev (rn_load rfl rfl (run_loadVarA T24 rfl (((hp.at_ (i := 1) rfl).drop 0).take 2))) ?_
    refine ev_storeA hp (i := 0) (off := 0) (vs := [(.bool x32376.Num.Neg), v32380]) rfl rfl rfl rfl T24 rfl (Nat.le_of_ble_eq_true rfl) (ones_cons rfl (ones_cons r32381.one ones_nil)) ?_
    intro w32389 hp hs
    replace r32381 := r32381.step hs
    replace r32383 := r32383.step hs
    apply go
    obtain rfl := Option.some.inj h
    refine ⟨_, run_loadVarA T24 rfl (hp.at_ (i := 0) rfl), ?_⟩
    have hp := hp.sel [] (by decide)
    exact ⟨I32379, v32380, rfl, hp, r32381⟩

end Go.Proofs.YtepadjfmcbjkmaaDoor

namespace Go.Proofs.YtepadjfmcbjkmaaDoor
open Go Go.Proofs.YtepadjfmcbjkmaaDoor.Gw Go.RowKit
set_option linter.unusedVariables false
attribute [local irreducible] Ev EvQ EvS EvH vch
def law02_RationalOrder_S (f : Rational → Rational → Rational → Option Bool) : Prop := ∀ (w0 : World) (I0 : Nat → Prop) (tb : Tb w0 I0 1 .u64 pow10) (x32390 : Rational) (v32391 : Value) (r32392 : RepS (dI .u32) w0 I0 v32391 x32390.Num.Mag) (v32393 : Value) (r32394 : RepS (dI .u32) w0 I0 v32393 x32390.Den.Mag) (x32395 : Rational) (v32396 : Value) (r32397 : RepS (dI .u32) w0 I0 v32396 x32395.Num.Mag) (v32398 : Value) (r32399 : RepS (dI .u32) w0 I0 v32398 x32395.Den.Mag) (x32400 : Rational) (v32401 : Value) (r32402 : RepS (dI .u32) w0 I0 v32401 x32400.Num.Mag) (v32403 : Value) (r32404 : RepS (dI .u32) w0 I0 v32403 x32400.Den.Mag) (hI : ∀ g, I0 g → g < w0.heap.size) (r : Bool), f x32390 x32395 x32400 = some r →
    Ret Tryd.prog 6 #[(.agg #[(.bool x32390.Num.Neg), v32391, (.bool x32390.Den.Neg), v32393]), (.agg #[(.bool x32395.Num.Neg), v32396, (.bool x32395.Den.Neg), v32398]), (.agg #[(.bool x32400.Num.Neg), v32401, (.bool x32400.Den.Neg), v32403])] w0 fun v w1 => v = (.bool r) ∧ Ch [] w0 w1
theorem law02_RationalOrder_ok (n : Nat) : law02_RationalOrder_S (law02_RationalOrder n) := by
  intro w0 I0 tb x32390 v32391 r32392 v32393 r32394 x32395 v32396 r32397 v32398 r32399 x32400 v32401 r32402 v32403 r32404 hI r h
  unfold law02_RationalOrder at h
  refine enter Tryd.func6 rfl (Nat.le_of_ble_eq_true rfl) ?_
  have hp : Hp ⟨w0, I0, []⟩ I0 [] w0 := Hp.start hI
  apply go
  apply go
  refine ev_boxI hp rfl rfl ?_
  intro p32407 I32408 w32406 hp hs a32409
  replace r32397 := r32397.step hs
  replace r32399 := r32399.step hs
  replace r32402 := r32402.step hs
  replace r32404 := r32404.step hs
  replace r32392 := r32392.step hs
  replace r32394 := r32394.step hs
  replace tb := tb.step hs
  refine ev_boxI hp rfl rfl ?_
  intro p32412 I32413 w32411 hp hs a32414
  replace r32402 := r32402.step hs
  replace r32404 := r32404.step hs
  replace a32409 := a32409.step hs
  replace r32392 := r32392.step hs
  replace r32394 := r32394.step hs
  replace r32397 := r32397.step hs
  replace r32399 := r32399.step hs
  replace tb := tb.step hs
  refine ev_boxI hp rfl rfl ?_
  intro p32417 I32418 w32416 hp hs a32419
  replace a32409 := a32409.step hs
  replace r32392 := r32392.step hs
  replace r32394 := r32394.step hs
  replace a32414 := a32414.step hs
  replace r32397 := r32397.step hs
  replace r32399 := r32399.step hs
  replace r32402 := r32402.step hs
  replace r32404 := r32404.step hs
  replace tb := tb.step hs
  apply go
  obtain ⟨y32475, q32476, h⟩ := bind_some h
  refine W.cut (γ := ((List Int) × (List Int) × (List Int) × (List Int) × (List Int) × (List Int) × Bool × Value × Value × Value × Value × Value × Value × (Nat → Prop))) (fun g => [(3, (.pointer (some (p32407)))), (4, (.pointer (some (p32412)))), (5, (.pointer (some (p32417)))), (20, (.bool (g.2.2.2.2.2.2.1)))]) (fun g w' => y32475 = ((g.1), (g.2.1), (g.2.2.1), (g.2.2.2.1), (g.2.2.2.2.1), (g.2.2.2.2.2.1), (g.2.2.2.2.2.2.1)) ∧ Hp ⟨w0, I0, []⟩ (g.2.2.2.2.2.2.2.2.2.2.2.2.2) [] w' ∧ RepS (dI .u32) w' (g.2.2.2.2.2.2.2.2.2.2.2.2.2) (g.2.2.2.2.2.2.2.1) (g.1) ∧ RepS (dI .u32) w' (g.2.2.2.2.2.2.2.2.2.2.2.2.2) (g.2.2.2.2.2.2.2.2.1) (g.2.1) ∧ At w' (g.2.2.2.2.2.2.2.2.2.2.2.2.2) p32407 [(.bool x32390.Num.Neg), (g.2.2.2.2.2.2.2.1), (.bool x32390.Den.Neg), (g.2.2.2.2.2.2.2.2.1)] ∧ RepS (dI .u32) w' (g.2.2.2.2.2.2.2.2.2.2.2.2.2) (g.2.2.2.2.2.2.2.2.2.1) (g.2.2.1) ∧ RepS (dI .u32) w' (g.2.2.2.2.2.2.2.2.2.2.2.2.2) (g.2.2.2.2.2.2.2.2.2.2.1) (g.2.2.2.1) ∧ At w' (g.2.2.2.2.2.2.2.2.2.2.2.2.2) p32412 [(.bool x32395.Num.Neg), (g.2.2.2.2.2.2.2.2.2.1), (.bool x32395.Den.Neg), (g.2.2.2.2.2.2.2.2.2.2.1)] ∧ RepS (dI .u32) w' (g.2.2.2.2.2.2.2.2.2.2.2.2.2) (g.2.2.2.2.2.2.2.2.2.2.2.1) (g.2.2.2.2.1) ∧ RepS (dI .u32) w' (g.2.2.2.2.2.2.2.2.2.2.2.2.2) (g.2.2.2.2.2.2.2.2.2.2.2.2.1) (g.2.2.2.2.2.1) ∧ At w' (g.2.2.2.2.2.2.2.2.2.2.2.2.2) p32417 [(.bool x32400.Num.Neg), (g.2.2.2.2.2.2.2.2.2.2.2.1), (.bool x32400.Den.Neg), (g.2.2.2.2.2.2.2.2.2.2.2.2.1)] ∧ Tb w' (g.2.2.2.2.2.2.2.2.2.2.2.2.2) 1 .u64 pow10) ?_ ?_
  ·
    apply go
    obtain ⟨x32477, q32478, q32476⟩ := bind_some q32476
    refine ev_call rfl rfl C8 (((law02_awake_ok n) _ _ tb  hp.imm _ q32478).mono ?_)
    rintro _ w32479 ⟨rfl, hc⟩
    have hs := hp.stp hc
    replace hp := hp.ext hc
    replace a32409 := a32409.step hs
    replace r32392 := r32392.step hs
    replace r32394 := r32394.step hs
    replace a32414 := a32414.step hs
    replace r32397 := r32397.step hs
    replace r32399 := r32399.step hs
    replace a32419 := a32419.step hs
    replace r32402 := r32402.step hs
    replace r32404 := r32404.step hs
    replace tb := tb.step hs
    refine sel_of (fun hc => ?_) (fun hc => ?_)
    ·
      have q32476 := cond_t q32476 hc
      obtain rfl := Option.some.inj q32476
      exact ⟨(x32390.Num.Mag, x32390.Den.Mag, x32395.Num.Mag, x32395.Den.Mag, x32400.Num.Mag, x32400.Den.Mag, true, v32391, v32393, v32396, v32398, v32401, v32403, I32418), (.c rfl (.c rfl (.c rfl (.c rfl .n)))), rfl, hp, r32392, r32394, a32409, r32397, r32399, a32414, r32402, r32404, a32419, tb⟩
    ·
      have q32476 := cond_f q32476 hc
      refine ev (rn_load rfl rfl (run_loadVarA T26 rfl a32409)) ?_
      refine ev (rn_load rfl rfl (run_loadVarA T26 rfl a32414)) ?_
      refine ev (rn_load rfl rfl (run_loadVarA T26 rfl a32419)) ?_
      obtain ⟨A32480, m32481, m32482, rfl⟩ := r32392.isSl
      obtain ⟨A32484, m32485, m32486, rfl⟩ := r32394.isSl
      obtain ⟨A32488, m32489, m32490, rfl⟩ := r32397.isSl
      obtain ⟨A32492, m32493, m32494, rfl⟩ := r32399.isSl
      obtain ⟨A32496, m32497, m32498, rfl⟩ := r32402.isSl
      obtain ⟨A32500, m32501, m32502, rfl⟩ := r32404.isSl
      refine ev_litN (d := dRational) (xs := [(Rational.mk (Int_2.mk x32390.Num.Neg x32390.Num.Mag) (Int_2.mk x32390.Den.Neg x32390.Den.Mag)), (Rational.mk (Int_2.mk x32395.Num.Neg x32395.Num.Mag) (Int_2.mk x32395.Den.Neg x32395.Den.Mag)), (Rational.mk (Int_2.mk x32400.Num.Neg x32400.Num.Mag) (Int_2.mk x32400.Den.Neg x32400.Den.Mag))]) (cs := [(.bool x32390.Num.Neg), (.slice A32480 m32481 m32482), (.bool x32390.Den.Neg), (.slice A32484 m32485 m32486), (.bool x32395.Num.Neg), (.slice A32488 m32489 m32490), (.bool x32395.Den.Neg), (.slice A32492 m32493 m32494), (.bool x32400.Num.Neg), (.slice A32496 m32497 m32498), (.bool x32400.Den.Neg), (.slice A32500 m32501 m32502)]) hp rfl rfl Tryd.underlying55 T26 (by decide) (by kernel_rfl) rfl (Elems.cons (d := dRational) (xs := _) (dRational_m r32392 r32394) (Elems.cons (d := dRational) (xs := _) (dRational_m r32397 r32399) (Elems.cons (d := dRational) (xs := _) (dRational_m r32402 r32404) (Elems.nil _ _ _ _)))) ?_
      intro v32504 I32506 w32505 hp hs r32507
      replace a32409 := a32409.step hs
      replace r32392 := r32392.step hs
      replace r32394 := r32394.step hs
      replace a32414 := a32414.step hs
      replace r32397 := r32397.step hs
      replace r32399 := r32399.step hs
      replace a32419 := a32419.step hs
      replace r32402 := r32402.step hs
      replace r32404 := r32404.step hs
      replace tb := tb.step hs
      obtain ⟨x32508, q32509, q32476⟩ := bind_some q32476
      refine ev_call rfl rfl C9 (((law02_few_ok n) _ _  [(Rational.mk (Int_2.mk x32390.Num.Neg x32390.Num.Mag) (Int_2.mk x32390.Den.Neg x32390.Den.Mag)), (Rational.mk (Int_2.mk x32395.Num.Neg x32395.Num.Mag) (Int_2.mk x32395.Den.Neg x32395.Den.Mag)), (Rational.mk (Int_2.mk x32400.Num.Neg x32400.Num.Mag) (Int_2.mk x32400.Den.Neg x32400.Den.Mag))] v32504 r32507 hp.imm _ q32509).mono ?_)
      rintro _ w32510 ⟨rfl, hc⟩
      have hs := hp.stp hc
      replace hp := hp.ext hc
      replace a32409 := a32409.step hs
      replace r32392 := r32392.step hs
      replace r32394 := r32394.step hs
      replace a32414 := a32414.step hs
      replace r32397 := r32397.step hs
      replace r32399 := r32399.step hs
      replace a32419 := a32419.step hs
      replace r32402 := r32402.step hs
      replace r32404 := r32404.step hs
      replace tb := tb.step hs
      obtain rfl := Option.some.inj q32476
      exact ⟨(x32390.Num.Mag, x32390.Den.Mag, x32395.Num.Mag, x32395.Den.Mag, x32400.Num.Mag, x32400.Den.Mag, (!x32508), (.slice A32480 m32481 m32482), (.slice A32484 m32485 m32486), (.slice A32488 m32489 m32490), (.slice A32492 m32493 m32494), (.slice A32496 m32497 m32498), (.slice A32500 m32501 m32502), I32506), (.c rfl (.c rfl (.c rfl (.c rfl .n)))), rfl, hp, r32392, r32394, a32409, r32397, r32399, a32414, r32402, r32404, a32419, tb⟩
  ·
    rintro ⟨x32454, x32457, x32460, x32463, x32466, x32469, x32472, v32455, v32458, v32461, v32464, v32467, v32470, I32473⟩ w32474 ⟨hy, hp, r32456, r32459, a32409, r32462, r32465, a32414, r32468, r32471, a32419, tb⟩
    replace hy := hy.symm
    subst hy
    apply go
    refine sel_of (fun hc => ?_) (fun hc => ?_)
    ·
      have h := cond_t h hc
      apply go
      apply go
      obtain ⟨x32511, q32512, h⟩ := bind_some h
      refine ev_call rfl rfl C8 (((law02_awake_ok n) _ _ tb  hp.imm _ q32512).mono ?_)
      rintro _ w32513 ⟨rfl, hc⟩
      have hs := hp.stp hc
      replace hp := hp.ext hc
      replace tb := tb.step hs
      apply go
      obtain rfl := Option.some.inj h
      exact ⟨rfl, hp.ch⟩
    ·
      have h := cond_f h hc
      apply go
      apply go
      apply go
      refine ev (rn_load rfl rfl (run_loadVarA T26 rfl a32409)) ?_
      refine ev (rn_load rfl rfl (run_loadVarA T26 rfl a32414)) ?_
      obtain ⟨x32514, q32515, h⟩ := bind_some h
      refine ev_call rfl rfl C28 (((rational_Cmp_ok n) _ _  (Rational.mk (Int_2.mk x32390.Num.Neg x32454) (Int_2.mk x32390.Den.Neg x32457)) v32455 r32456 v32458 r32459 (Rational.mk (Int_2.mk x32395.Num.Neg x32460) (Int_2.mk x32395.Den.Neg x32463)) v32461 r32462 v32464 r32465 hp.imm _ q32515).mono ?_)
      rintro _ w32516 ⟨rfl, hc⟩
      have hs := hp.stp hc
      replace hp := hp.ext hc
      replace a32409 := a32409.step hs
      replace r32456 := r32456.step hs
      replace r32459 := r32459.step hs
      replace a32414 := a32414.step hs
      replace r32462 := r32462.step hs
      replace r32465 := r32465.step hs
      replace a32419 := a32419.step hs
      replace r32468 := r32468.step hs
      replace r32471 := r32471.step hs
      replace tb := tb.step hs
      apply go
      obtain ⟨y32608, q32609, h⟩ := bind_some h
      refine W.cut (γ := (Bool × (Nat → Prop))) (fun g => [(3, (.pointer (some (p32407)))), (63, (.bool (g.1)))]) (fun g w' => y32608 = (g.1) ∧ Hp ⟨w0, I0, []⟩ (g.2) [] w' ∧ RepS (dI .u32) w' (g.2) v32455 x32454 ∧ RepS (dI .u32) w' (g.2) v32458 x32457 ∧ At w' (g.2) p32407 [(.bool x32390.Num.Neg), v32455, (.bool x32390.Den.Neg), v32458] ∧ Tb w' (g.2) 1 .u64 pow10) ?_ ?_
      ·
        have hs := hp.stp (Ch.drew [] w32516)
        have hp := hp.drew
        replace a32409 := a32409.step hs
        replace r32456 := r32456.step hs
        replace r32459 := r32459.step hs
        replace a32414 := a32414.step hs
        replace r32462 := r32462.step hs
        replace r32465 := r32465.step hs
        replace a32419 := a32419.step hs
        replace r32468 := r32468.step hs
        replace r32471 := r32471.step hs
        replace tb := tb.step hs
        refine W.heldT [(0, true), (1, true), (2, true), (3, true), (4, true), (5, true), (6, true), (7, true), (8, true), (10, true), (11, true), (9, false), (12, true), (13, true), (14, true), (15, true), (16, true), (18, true), (19, true), (22, true), (17, false), (20, false), (21, false), (23, true), (24, true), (25, true), (26, true), (27, true), (29, true), (30, true), (33, true), (34, true), (28, false), (31, false), (32, false), (35, false), (36, true), (37, true), (38, true)] (Stp I32473 w32516.drew I32473) MX (by kernel_rfl) (Stp.refl _ _) ?_
        have hz := Stp.refl I32473 w32516.drew
        intro ops hops
        have e0 : nthO ops 0 = some _ := (hops 0).trans rfl
        have e1 : nthO ops 1 = some _ := (hops 1).trans rfl
        have e2 : nthO ops 2 = some _ := (hops 2).trans rfl
        have e3 : nthO ops 3 = some _ := (hops 3).trans rfl
        have e4 : nthO ops 4 = some _ := (hops 4).trans rfl
        have e5 : nthO ops 5 = some _ := (hops 5).trans rfl
        have e6 : nthO ops 6 = some _ := (hops 6).trans rfl
        have e7 : nthO ops 7 = some _ := (hops 7).trans rfl
        have e8 : nthO ops 8 = some _ := (hops 8).trans rfl
        have e9 : nthO ops 9 = some _ := (hops 9).trans rfl
        have e10 : nthO ops 10 = some _ := (hops 10).trans rfl
        have e11 : nthO ops 11 = some _ := (hops 11).trans rfl
        have e12 : nthO ops 12 = some _ := (hops 12).trans rfl
        have e13 : nthO ops 13 = some _ := (hops 13).trans rfl
        have e14 : nthO ops 14 = some _ := (hops 14).trans rfl
        have e15 : nthO ops 15 = some _ := (hops 15).trans rfl
        have e16 : nthO ops 16 = some _ := (hops 16).trans rfl
        have e17 : nthO ops 17 = some _ := (hops 17).trans rfl
        have e18 : nthO ops 18 = some _ := (hops 18).trans rfl
        have e19 : nthO ops 19 = some _ := (hops 19).trans rfl
        have e20 : nthO ops 20 = some _ := (hops 20).trans rfl
        have e21 : nthO ops 21 = some _ := (hops 21).trans rfl
        have e22 : nthO ops 22 = some _ := (hops 22).trans rfl
        have e23 : nthO ops 23 = some _ := (hops 23).trans rfl
        have e24 : nthO ops 24 = some _ := (hops 24).trans rfl
        have e25 : nthO ops 25 = some _ := (hops 25).trans rfl
        have e26 : nthO ops 26 = some _ := (hops 26).trans rfl
        have e27 : nthO ops 27 = some _ := (hops 27).trans rfl
        have e28 : nthO ops 28 = some _ := (hops 28).trans rfl
        have e29 : nthO ops 29 = some _ := (hops 29).trans rfl
        have e30 : nthO ops 30 = some _ := (hops 30).trans rfl
        have e31 : nthO ops 31 = some _ := (hops 31).trans rfl
        have e32 : nthO ops 32 = some _ := (hops 32).trans rfl
        have e33 : nthO ops 33 = some _ := (hops 33).trans rfl
        have e34 : nthO ops 34 = some _ := (hops 34).trans rfl
        have e35 : nthO ops 35 = some _ := (hops 35).trans rfl
        have e36 : nthO ops 36 = some _ := (hops 36).trans rfl
        have e37 : nthO ops 37 = some _ := (hops 37).trans rfl
        have e38 : nthO ops 38 = some _ := (hops 38).trans rfl
        clear hops
        refine vch_q e0 rfl ?_
        refine vch_q e1 rfl ?_
        refine vch_q e2 rfl ?_
        rcases Bool.eq_false_or_eq_true (decide (x32514 < (-1))) with hc | hc
        ·
          have q32609 := cond_t q32609 hc
          refine vch_qf e3 rfl e2 rfl rfl hc ?_
          refine vch_qf e4 rfl e2 rfl rfl rfl ?_
          refine vch_q e5 rfl ?_
          refine vch_q e6 rfl ?_
          refine vch_qf e7 rfl e6 rfl rfl rfl ?_
          refine vch_qf e8 rfl e6 rfl rfl rfl ?_
          refine vch_qf e10 rfl e6 rfl rfl rfl ?_
          refine vch_qf e11 rfl e6 rfl rfl rfl ?_
          refine vch_lf e9 rfl e6 rfl rfl rfl ?_
          refine ⟨Stp I32473 w32516.drew I32473, Stp.refl _ _, fun x hx => hz.held hx, ?_⟩
          have hz := Stp.refl I32473 w32516.drew
          refine vch_qf e12 rfl e6 rfl rfl rfl ?_
          refine vch_q e13 rfl ?_
          refine vch_q e14 rfl ?_
          refine vch_qf e15 rfl e14 rfl rfl rfl ?_
          refine vch_qf e16 rfl e14 rfl rfl rfl ?_
          refine vch_qf e18 rfl e14 rfl rfl rfl ?_
          refine vch_qf e19 rfl e14 rfl rfl rfl ?_
          refine vch_qf e22 rfl e14 rfl rfl rfl ?_
          refine vch_lf e17 rfl e14 rfl rfl rfl ?_
          refine ⟨Stp I32473 w32516.drew I32473, Stp.refl _ _, fun x hx => hz.held hx, ?_⟩
          have hz := Stp.refl I32473 w32516.drew
          refine vch_lf e20 rfl e14 rfl rfl rfl ?_
          refine ⟨Stp I32473 w32516.drew I32473, Stp.refl _ _, fun x hx => hz.held hx, ?_⟩
          have hz := Stp.refl I32473 w32516.drew
          refine vch_lf e21 rfl e14 rfl rfl rfl ?_
          refine ⟨Stp I32473 w32516.drew I32473, Stp.refl _ _, fun x hx => hz.held hx, ?_⟩
          have hz := Stp.refl I32473 w32516.drew
          refine vch_qf e23 rfl e14 rfl rfl rfl ?_
          refine vch_q e24 rfl ?_
          refine vch_q e25 rfl ?_
          refine vch_qf e26 rfl e25 rfl rfl rfl ?_
          refine vch_qf e27 rfl e25 rfl rfl rfl ?_
          refine vch_qf e29 rfl e25 rfl rfl rfl ?_
          refine vch_qf e30 rfl e25 rfl rfl rfl ?_
          refine vch_qf e33 rfl e25 rfl rfl rfl ?_
          refine vch_qf e34 rfl e25 rfl rfl rfl ?_
          refine vch_lf e28 rfl e25 rfl rfl rfl ?_
          refine ⟨Stp I32473 w32516.drew I32473, Stp.refl _ _, fun x hx => hz.held hx, ?_⟩
          have hz := Stp.refl I32473 w32516.drew
          refine vch_lf e31 rfl e25 rfl rfl rfl ?_
          refine ⟨Stp I32473 w32516.drew I32473, Stp.refl _ _, fun x hx => hz.held hx, ?_⟩
          have hz := Stp.refl I32473 w32516.drew
          refine vch_lf e32 rfl e25 rfl rfl rfl ?_
          refine ⟨Stp I32473 w32516.drew I32473, Stp.refl _ _, fun x hx => hz.held hx, ?_⟩
          have hz := Stp.refl I32473 w32516.drew
          refine vch_lf e35 rfl e25 rfl rfl rfl ?_
          refine ⟨Stp I32473 w32516.drew I32473, Stp.refl _ _, fun x hx => hz.held hx, ?_⟩
          have hz := Stp.refl I32473 w32516.drew
          refine vch_qf e36 rfl e25 rfl rfl rfl ?_
          refine vch_qf e37 rfl e25 rfl rfl rfl ?_
          refine vch_q e38 rfl ?_
          refine vch_end ?_
          obtain rfl := Option.some.inj q32609
          exact ⟨(true, I32473), (.c rfl (.c rfl .n)), rfl, hp, r32456, r32459, a32409, tb⟩
        ·
          have q32609 := cond_f q32609 hc
          refine vch_qt e3 rfl e2 rfl rfl hc ?_
          refine vch_qt e4 rfl e2 rfl rfl rfl ?_
          refine vch_q e5 rfl ?_
          refine vch_q e6 rfl ?_
          rcases Bool.eq_false_or_eq_true (decide (x32514 > 1)) with hc | hc
          ·
            have q32609 := cond_t q32609 hc
            refine vch_qf e7 rfl e6 rfl rfl hc ?_
            refine vch_qf e8 rfl e6 rfl rfl rfl ?_
            refine vch_qf e10 rfl e6 rfl rfl rfl ?_
            refine vch_qf e11 rfl e6 rfl rfl rfl ?_
            refine vch_lf e9 rfl e6 rfl rfl rfl ?_
            refine ⟨Stp I32473 w32516.drew I32473, Stp.refl _ _, fun x hx => hz.held hx, ?_⟩
            have hz := Stp.refl I32473 w32516.drew
            refine vch_qf e12 rfl e6 rfl rfl rfl ?_
            refine vch_q e13 rfl ?_
            refine vch_q e14 rfl ?_
            refine vch_qf e15 rfl e14 rfl rfl rfl ?_
            refine vch_qf e16 rfl e14 rfl rfl rfl ?_
            refine vch_qf e18 rfl e14 rfl rfl rfl ?_
            refine vch_qf e19 rfl e14 rfl rfl rfl ?_
            refine vch_qf e22 rfl e14 rfl rfl rfl ?_
            refine vch_lf e17 rfl e14 rfl rfl rfl ?_
            refine ⟨Stp I32473 w32516.drew I32473, Stp.refl _ _, fun x hx => hz.held hx, ?_⟩
            have hz := Stp.refl I32473 w32516.drew
            refine vch_lf e20 rfl e14 rfl rfl rfl ?_
            refine ⟨Stp I32473 w32516.drew I32473, Stp.refl _ _, fun x hx => hz.held hx, ?_⟩
            have hz := Stp.refl I32473 w32516.drew
            refine vch_lf e21 rfl e14 rfl rfl rfl ?_
            refine ⟨Stp I32473 w32516.drew I32473, Stp.refl _ _, fun x hx => hz.held hx, ?_⟩
            have hz := Stp.refl I32473 w32516.drew
            refine vch_qf e23 rfl e14 rfl rfl rfl ?_
            refine vch_q e24 rfl ?_
            refine vch_q e25 rfl ?_
            refine vch_qf e26 rfl e25 rfl rfl rfl ?_
            refine vch_qf e27 rfl e25 rfl rfl rfl ?_
            refine vch_qf e29 rfl e25 rfl rfl rfl ?_
            refine vch_qf e30 rfl e25 rfl rfl rfl ?_
            refine vch_qf e33 rfl e25 rfl rfl rfl ?_
            refine vch_qf e34 rfl e25 rfl rfl rfl ?_
            refine vch_lf e28 rfl e25 rfl rfl rfl ?_
            refine ⟨Stp I32473 w32516.drew I32473, Stp.refl _ _, fun x hx => hz.held hx, ?_⟩
            have hz := Stp.refl I32473 w32516.drew
            refine vch_lf e31 rfl e25 rfl rfl rfl ?_
            refine ⟨Stp I32473 w32516.drew I32473, Stp.refl _ _, fun x hx => hz.held hx, ?_⟩
            have hz := Stp.refl I32473 w32516.drew
            refine vch_lf e32 rfl e25 rfl rfl rfl ?_
            refine ⟨Stp I32473 w32516.drew I32473, Stp.refl _ _, fun x hx => hz.held hx, ?_⟩
            have hz := Stp.refl I32473 w32516.drew
            refine vch_lf e35 rfl e25 rfl rfl rfl ?_
            refine ⟨Stp I32473 w32516.drew I32473, Stp.refl _ _, fun x hx => hz.held hx, ?_⟩
            have hz := Stp.refl I32473 w32516.drew
            refine vch_qf e36 rfl e25 rfl rfl rfl ?_
            refine vch_qf e37 rfl e25 rfl rfl rfl ?_
            refine vch_q e38 rfl ?_
            refine vch_end ?_
            obtain rfl := Option.some.inj q32609
            exact ⟨(true, I32473), (.c rfl (.c rfl .n)), rfl, hp, r32456, r32459, a32409, tb⟩
          ·
            have q32609 := cond_f q32609 hc
            refine vch_qt e7 rfl e6 rfl rfl hc ?_
            refine evh (fun w' hw => rn_load rfl rfl (run_loadVarA T26 rfl (a32414.step hw))) ?_
            refine vch_qt e8 rfl e6 rfl rfl rfl ?_
            refine evh (fun w' hw => rn_load rfl rfl (run_loadVarA T26 rfl (a32409.step hw))) ?_
            refine vch_qt e10 rfl e6 rfl rfl rfl ?_
            refine vch_qt e11 rfl e6 rfl rfl rfl ?_
            refine vch_lt e9 rfl e6 rfl rfl rfl ?_
            obtain ⟨x32654, q32655, q32609⟩ := bind_some q32609
            refine ev_call rfl rfl C28 (((rational_Cmp_ok n) _ _  (Rational.mk (Int_2.mk x32395.Num.Neg x32460) (Int_2.mk x32395.Den.Neg x32463)) v32461 r32462 v32464 r32465 (Rational.mk (Int_2.mk x32390.Num.Neg x32454) (Int_2.mk x32390.Den.Neg x32457)) v32455 r32456 v32458 r32459 hp.imm _ q32655).mono ?_)
            rintro _ w32656 ⟨rfl, hc⟩
            have hs := hp.stp hc
            replace hp := hp.ext hc
            replace hz := hz.trans hs
            replace a32409 := a32409.step hs
            replace r32456 := r32456.step hs
            replace r32459 := r32459.step hs
            replace a32414 := a32414.step hs
            replace r32462 := r32462.step hs
            replace r32465 := r32465.step hs
            replace a32419 := a32419.step hs
            replace r32468 := r32468.step hs
            replace r32471 := r32471.step hs
            replace tb := tb.step hs
            refine ⟨Stp I32473 w32656 I32473, Stp.refl _ _, fun x hx => hz.held hx, ?_⟩
            have hz := Stp.refl I32473 w32656
            refine vch_qt e12 rfl e6 rfl rfl rfl ?_
            refine vch_q e13 rfl ?_
            refine vch_q e14 rfl ?_
            rcases Bool.eq_false_or_eq_true (x32654 != (IntKind.i64.wrap (0 - x32514))) with hc | hc
            ·
              have q32609 := cond_t q32609 hc
              refine vch_qf e15 rfl e14 rfl rfl hc ?_
              refine vch_qf e16 rfl e14 rfl rfl rfl ?_
              refine vch_qf e18 rfl e14 rfl rfl rfl ?_
              refine vch_qf e19 rfl e14 rfl rfl rfl ?_
              refine vch_qf e22 rfl e14 rfl rfl rfl ?_
              refine vch_lf e17 rfl e14 rfl rfl rfl ?_
              refine ⟨Stp I32473 w32656 I32473, Stp.refl _ _, fun x hx => hz.held hx, ?_⟩
              have hz := Stp.refl I32473 w32656
              refine vch_lf e20 rfl e14 rfl rfl rfl ?_
              refine ⟨Stp I32473 w32656 I32473, Stp.refl _ _, fun x hx => hz.held hx, ?_⟩
              have hz := Stp.refl I32473 w32656
              refine vch_lf e21 rfl e14 rfl rfl rfl ?_
              refine ⟨Stp I32473 w32656 I32473, Stp.refl _ _, fun x hx => hz.held hx, ?_⟩
              have hz := Stp.refl I32473 w32656
              refine vch_qf e23 rfl e14 rfl rfl rfl ?_
              refine vch_q e24 rfl ?_
              refine vch_q e25 rfl ?_
              refine vch_qf e26 rfl e25 rfl rfl rfl ?_
              refine vch_qf e27 rfl e25 rfl rfl rfl ?_
              refine vch_qf e29 rfl e25 rfl rfl rfl ?_
              refine vch_qf e30 rfl e25 rfl rfl rfl ?_
              refine vch_qf e33 rfl e25 rfl rfl rfl ?_
              refine vch_qf e34 rfl e25 rfl rfl rfl ?_
              refine vch_lf e28 rfl e25 rfl rfl rfl ?_
              refine ⟨Stp I32473 w32656 I32473, Stp.refl _ _, fun x hx => hz.held hx, ?_⟩
              have hz := Stp.refl I32473 w32656
              refine vch_lf e31 rfl e25 rfl rfl rfl ?_
              refine ⟨Stp I32473 w32656 I32473, Stp.refl _ _, fun x hx => hz.held hx, ?_⟩
              have hz := Stp.refl I32473 w32656
              refine vch_lf e32 rfl e25 rfl rfl rfl ?_
              refine ⟨Stp I32473 w32656 I32473, Stp.refl _ _, fun x hx => hz.held hx, ?_⟩
              have hz := Stp.refl I32473 w32656
              refine vch_lf e35 rfl e25 rfl rfl rfl ?_
              refine ⟨Stp I32473 w32656 I32473, Stp.refl _ _, fun x hx => hz.held hx, ?_⟩
              have hz := Stp.refl I32473 w32656
              refine vch_qf e36 rfl e25 rfl rfl rfl ?_
              refine vch_qf e37 rfl e25 rfl rfl rfl ?_
              refine vch_q e38 rfl ?_
              refine vch_end ?_
              obtain rfl := Option.some.inj q32609
              exact ⟨(true, I32473), (.c rfl (.c rfl .n)), rfl, hp, r32456, r32459, a32409, tb⟩
            ·
              have q32609 := cond_f q32609 hc
              refine vch_qt e15 rfl e14 rfl rfl hc ?_
              refine evh (fun w' hw => rn_load rfl rfl (run_loadVarA T26 rfl (a32409.step hw))) ?_
              refine vch_qt e16 rfl e14 rfl rfl rfl ?_
              refine evh (fun w' hw => rn_load rfl rfl (run_loadVarA T26 rfl (a32419.step hw))) ?_
              refine vch_qt e18 rfl e14 rfl rfl rfl ?_
              refine evh (fun w' hw => rn_load rfl rfl (run_loadVarA T26 rfl (a32414.step hw))) ?_
              refine vch_qt e19 rfl e14 rfl rfl rfl ?_
              refine evh (fun w' hw => rn_load rfl rfl (run_loadVarA T26 rfl (a32419.step hw))) ?_
              refine vch_qt e22 rfl e14 rfl rfl rfl ?_
              refine vch_lt e17 rfl e14 rfl rfl rfl ?_
              obtain ⟨x32657, q32658, q32609⟩ := bind_some q32609
              refine ev_call rfl rfl C19 (((rational_Add_ok n) _ _  (Rational.mk (Int_2.mk x32390.Num.Neg x32454) (Int_2.mk x32390.Den.Neg x32457)) v32455 r32456 v32458 r32459 (Rational.mk (Int_2.mk x32400.Num.Neg x32466) (Int_2.mk x32400.Den.Neg x32469)) v32467 r32468 v32470 r32471 hp.imm _ q32658).mono ?_)
              rintro _ w32659 ⟨I32660, v32661, v32663, hv, hq, r32662, r32664⟩
              replace hv := hv.symm
              subst hv
              have hs := hq.st
              have hp := hp.join0 hq
              replace hz := hz.trans hs
              replace a32409 := a32409.step hs
              replace r32456 := r32456.step hs
              replace r32459 := r32459.step hs
              replace a32414 := a32414.step hs
              replace r32462 := r32462.step hs
              replace r32465 := r32465.step hs
              replace a32419 := a32419.step hs
              replace r32468 := r32468.step hs
              replace r32471 := r32471.step hs
              replace tb := tb.step hs
              refine ⟨Stp I32660 w32659 I32660, Stp.refl _ _, fun x hx => hz.held hx, ?_⟩
              have hz := Stp.refl I32660 w32659
              refine vch_lt e20 rfl e14 rfl rfl rfl ?_
              obtain ⟨x32665, q32666, q32609⟩ := bind_some q32609
              refine ev_call rfl rfl C19 (((rational_Add_ok n) _ _  (Rational.mk (Int_2.mk x32395.Num.Neg x32460) (Int_2.mk x32395.Den.Neg x32463)) v32461 r32462 v32464 r32465 (Rational.mk (Int_2.mk x32400.Num.Neg x32466) (Int_2.mk x32400.Den.Neg x32469)) v32467 r32468 v32470 r32471 hp.imm _ q32666).mono ?_)
              rintro _ w32667 ⟨I32668, v32669, v32671, hv, hq, r32670, r32672⟩
              replace hv := hv.symm
              subst hv
              have hs := hq.st
              have hp := hp.join0 hq
              replace hz := hz.trans hs
              replace a32409 := a32409.step hs
              replace r32456 := r32456.step hs
              replace r32459 := r32459.step hs
              replace a32414 := a32414.step hs
              replace r32462 := r32462.step hs
              replace r32465 := r32465.step hs
              replace a32419 := a32419.step hs
              replace r32468 := r32468.step hs
              replace r32471 := r32471.step hs
              replace r32662 := r32662.step hs
              replace r32664 := r32664.step hs
              replace tb := tb.step hs
              refine ⟨Stp I32668 w32667 I32668, Stp.refl _ _, fun x hx => hz.held hx, ?_⟩
              have hz := Stp.refl I32668 w32667
              refine vch_lt e21 rfl e14 rfl rfl rfl ?_
              obtain ⟨x32673, q32674, q32609⟩ := bind_some q32609
              refine ev_call rfl rfl C28 (((rational_Cmp_ok n) _ _  x32657 v32661 r32662 v32663 r32664 x32665 v32669 r32670 v32671 r32672 hp.imm _ q32674).mono ?_)
              rintro _ w32675 ⟨rfl, hc⟩
              have hs := hp.stp hc
              replace hp := hp.ext hc
              replace hz := hz.trans hs
              replace a32409 := a32409.step hs
              replace r32456 := r32456.step hs
              replace r32459 := r32459.step hs
              replace a32414 := a32414.step hs
              replace r32462 := r32462.step hs
              replace r32465 := r32465.step hs
              replace a32419 := a32419.step hs
              replace r32468 := r32468.step hs
              replace r32471 := r32471.step hs
              replace tb := tb.step hs
              refine ⟨Stp I32668 w32675 I32668, Stp.refl _ _, fun x hx => hz.held hx, ?_⟩
              have hz := Stp.refl I32668 w32675
              refine vch_qt e23 rfl e14 rfl rfl rfl ?_
              refine vch_q e24 rfl ?_
              refine vch_q e25 rfl ?_
              rcases Bool.eq_false_or_eq_true (x32673 != x32514) with hc | hc
              ·
                have q32609 := cond_t q32609 hc
                refine vch_qf e26 rfl e25 rfl rfl hc ?_
                refine vch_qf e27 rfl e25 rfl rfl rfl ?_
                refine vch_qf e29 rfl e25 rfl rfl rfl ?_
                refine vch_qf e30 rfl e25 rfl rfl rfl ?_
                refine vch_qf e33 rfl e25 rfl rfl rfl ?_
                refine vch_qf e34 rfl e25 rfl rfl rfl ?_
                refine vch_lf e28 rfl e25 rfl rfl rfl ?_
                refine ⟨Stp I32668 w32675 I32668, Stp.refl _ _, fun x hx => hz.held hx, ?_⟩
                have hz := Stp.refl I32668 w32675
                refine vch_lf e31 rfl e25 rfl rfl rfl ?_
                refine ⟨Stp I32668 w32675 I32668, Stp.refl _ _, fun x hx => hz.held hx, ?_⟩
                have hz := Stp.refl I32668 w32675
                refine vch_lf e32 rfl e25 rfl rfl rfl ?_
                refine ⟨Stp I32668 w32675 I32668, Stp.refl _ _, fun x hx => hz.held hx, ?_⟩
                have hz := Stp.refl I32668 w32675
                refine vch_lf e35 rfl e25 rfl rfl rfl ?_
                refine ⟨Stp I32668 w32675 I32668, Stp.refl _ _, fun x hx => hz.held hx, ?_⟩
                have hz := Stp.refl I32668 w32675
                refine vch_qf e36 rfl e25 rfl rfl rfl ?_
                refine vch_qf e37 rfl e25 rfl rfl rfl ?_
                refine vch_q e38 rfl ?_
                refine vch_end ?_
                obtain rfl := Option.some.inj q32609
                exact ⟨(true, I32668), (.c rfl (.c rfl .n)), rfl, hp, r32456, r32459, a32409, tb⟩
              ·
                have q32609 := cond_f q32609 hc
                refine vch_qt e26 rfl e25 rfl rfl hc ?_
                refine evh (fun w' hw => rn_load rfl rfl (run_loadVarA T26 rfl (a32409.step hw))) ?_
                refine vch_qt e27 rfl e25 rfl rfl rfl ?_
                refine evh (fun w' hw => rn_load rfl rfl (run_loadVarA T26 rfl (a32419.step hw))) ?_
                refine vch_qt e29 rfl e25 rfl rfl rfl ?_
                refine evh (fun w' hw => rn_load rfl rfl (run_loadVarA T26 rfl (a32414.step hw))) ?_
                refine vch_qt e30 rfl e25 rfl rfl rfl ?_
                refine evh (fun w' hw => rn_load rfl rfl (run_loadVarA T26 rfl (a32419.step hw))) ?_
                refine vch_qt e33 rfl e25 rfl rfl rfl ?_
                refine vch_qt e34 rfl e25 rfl rfl rfl ?_
                refine evh (fun w' hw => rn_load rfl rfl (run_loadVarA T26 rfl (a32419.step hw))) ?_
                refine vch_lt e28 rfl e25 rfl rfl rfl ?_
                obtain ⟨x32676, q32677, q32609⟩ := bind_some q32609
                refine ev_call rfl rfl C23 (((rational_Mul_ok n) _ _  (Rational.mk (Int_2.mk x32390.Num.Neg x32454) (Int_2.mk x32390.Den.Neg x32457)) v32455 r32456 v32458 r32459 (Rational.mk (Int_2.mk x32400.Num.Neg x32466) (Int_2.mk x32400.Den.Neg x32469)) v32467 r32468 v32470 r32471 hp.imm _ q32677).mono ?_)
                rintro _ w32678 ⟨I32679, v32680, v32682, hv, hq, r32681, r32683⟩
                replace hv := hv.symm
                subst hv
                have hs := hq.st
                have hp := hp.join0 hq
                replace hz := hz.trans hs
                replace a32409 := a32409.step hs
                replace r32456 := r32456.step hs
                replace r32459 := r32459.step hs
                replace r32462 := r32462.step hs
                replace r32465 := r32465.step hs
                replace r32468 := r32468.step hs
                replace r32471 := r32471.step hs
                replace tb := tb.step hs
                refine ⟨Stp I32679 w32678 I32679, Stp.refl _ _, fun x hx => hz.held hx, ?_⟩
                have hz := Stp.refl I32679 w32678
                refine vch_lt e31 rfl e25 rfl rfl rfl ?_
                obtain ⟨x32684, q32685, q32609⟩ := bind_some q32609
                refine ev_call rfl rfl C23 (((rational_Mul_ok n) _ _  (Rational.mk (Int_2.mk x32395.Num.Neg x32460) (Int_2.mk x32395.Den.Neg x32463)) v32461 r32462 v32464 r32465 (Rational.mk (Int_2.mk x32400.Num.Neg x32466) (Int_2.mk x32400.Den.Neg x32469)) v32467 r32468 v32470 r32471 hp.imm _ q32685).mono ?_)
                rintro _ w32686 ⟨I32687, v32688, v32690, hv, hq, r32689, r32691⟩
                replace hv := hv.symm
                subst hv
                have hs := hq.st
                have hp := hp.join0 hq
                replace hz := hz.trans hs
                replace a32409 := a32409.step hs
                replace r32456 := r32456.step hs
                replace r32459 := r32459.step hs
                replace r32468 := r32468.step hs
                replace r32471 := r32471.step hs
                replace r32681 := r32681.step hs
                replace r32683 := r32683.step hs
                replace tb := tb.step hs
                refine ⟨Stp I32687 w32686 I32687, Stp.refl _ _, fun x hx => hz.held hx, ?_⟩
                have hz := Stp.refl I32687 w32686
                refine vch_lt e32 rfl e25 rfl rfl rfl ?_
                obtain ⟨x32692, q32693, q32609⟩ := bind_some q32609
                refine ev_call rfl rfl C28 (((rational_Cmp_ok n) _ _  x32676 v32680 r32681 v32682 r32683 x32684 v32688 r32689 v32690 r32691 hp.imm _ q32693).mono ?_)
                rintro _ w32694 ⟨rfl, hc⟩
                have hs := hp.stp hc
                replace hp := hp.ext hc
                replace hz := hz.trans hs
                replace a32409 := a32409.step hs
                replace r32456 := r32456.step hs
                replace r32459 := r32459.step hs
                replace r32468 := r32468.step hs
                replace r32471 := r32471.step hs
                replace tb := tb.step hs
                refine ⟨Stp I32687 w32694 I32687, Stp.refl _ _, fun x hx => hz.held hx, ?_⟩
                have hz := Stp.refl I32687 w32694
                refine vch_lt e35 rfl e25 rfl rfl rfl ?_
                obtain ⟨x32695, q32696, q32609⟩ := bind_some q32609
                refine ev_call rfl rfl C17 (((rational_Sign_ok n) _ _  (Rational.mk (Int_2.mk x32400.Num.Neg x32466) (Int_2.mk x32400.Den.Neg x32469)) v32467 r32468 v32470 r32471 hp.imm _ q32696).mono ?_)
                rintro _ w32697 ⟨rfl, hc⟩
                have hs := hp.stp hc
                replace hp := hp.ext hc
                replace hz := hz.trans hs
                replace a32409 := a32409.step hs
                replace r32456 := r32456.step hs
                replace r32459 := r32459.step hs
                replace tb := tb.step hs
                refine ⟨Stp I32687 w32697 I32687, Stp.refl _ _, fun x hx => hz.held hx, ?_⟩
                have hz := Stp.refl I32687 w32697
                refine vch_qt e36 rfl e25 rfl rfl rfl ?_
                refine vch_qt e37 rfl e25 rfl rfl rfl ?_
                refine vch_q e38 rfl ?_
                refine vch_end ?_
                obtain rfl := Option.some.inj q32609
                exact ⟨((x32692 != (IntKind.i64.wrap (x32514 * x32695))), I32687), (.c rfl (.c rfl .n)), rfl, hp, r32456, r32459, a32409, tb⟩
      ·
        rintro ⟨x32605, I32606⟩ w32607 ⟨hy, hp, r32456, r32459, a32409, tb⟩
        replace hy := hy.symm
        subst hy
        apply go
        refine sel_of (fun hc => ?_) (fun hc => ?_)
        ·
          have h := cond_t h hc
          apply go
          apply go
          apply go
          obtain rfl := Option.some.inj h
          exact ⟨rfl, hp.ch⟩
        ·
          have h := cond_f h hc
          apply go
          apply go
          apply go
          refine ev (rn_load rfl rfl (run_loadVarA T26 rfl a32409)) ?_
          obtain ⟨x32698, q32699, h⟩ := bind_some h
          refine ev_call rfl rfl C29 (((rational_Floor_ok n) _ _  (Rational.mk (Int_2.mk x32390.Num.Neg x32454) (Int_2.mk x32390.Den.Neg x32457)) v32455 r32456 v32458 r32459 hp.imm _ q32699).mono ?_)
          rintro _ w32700 ⟨I32701, v32702, hv, hq, r32703⟩
          replace hv := hv.symm
          subst hv
          have hs := hq.st
          have hp := hp.join0 hq
          replace a32409 := a32409.step hs
          replace r32456 := r32456.step hs
          replace r32459 := r32459.step hs
          replace tb := tb.step hs
          refine ev_litN (d := (dI .u32)) (xs := [1]) (cs := [(.int .u32 1)]) hp rfl rfl Tryd.underlying22 T42 (by decide) rfl rfl (Elems.cons (d := (dI .u32)) (xs := _) rfl (Elems.nil _ _ _ _)) ?_
          intro v32704 I32706 w32705 hp hs r32707
          replace a32409 := a32409.step hs
          replace r32456 := r32456.step hs
          replace r32459 := r32459.step hs
          replace r32703 := r32703.step hs
          replace tb := tb.step hs
          obtain ⟨A32708, m32709, m32710, rfl⟩ := r32707.isSl
          refine ev0 (fun w => rn_build (cs := [(.bool false), (.slice A32708 m32709 m32710)]) rfl rfl T24 PL24 rfl) ?_
          obtain ⟨A32712, m32713, m32714, rfl⟩ := r32703.isSl
          refine ev0 (fun w => rn_build (cs := [(.bool x32698.Neg), (.slice A32712 m32713 m32714), (.bool false), (.slice A32708 m32709 m32710)]) rfl rfl T26 PL26 rfl) ?_
          refine ev_alloc hp rfl T26 ?_
          intro g32716 w32717 hp hs
          replace a32409 := a32409.step hs
          replace r32456 := r32456.step hs
          replace r32459 := r32459.step hs
          replace r32703 := r32703.step hs
          replace r32707 := r32707.step hs
          replace tb := tb.step hs
          refine ev_storeA hp (i := 0) (off := 0) (vs := [(.bool x32698.Neg), (.slice A32712 m32713 m32714), (.bool false), (.slice A32708 m32709 m32710)]) rfl rfl rfl rfl T26 rfl (Nat.le_of_ble_eq_true rfl) (ones_cons rfl (ones_cons r32703.one (ones_cons rfl (ones_cons r32707.one ones_nil)))) ?_
          intro w32718 hp hs
          replace a32409 := a32409.step hs
          replace r32456 := r32456.step hs
          replace r32459 := r32459.step hs
          replace r32703 := r32703.step hs
          replace r32707 := r32707.step hs
          replace tb := tb.step hs
          apply go
          apply go
          apply go
          refine ev0 (rn_field rfl rfl FO26_0) ?_
          refine ev0 (rn_field rfl rfl FO24_1) ?_
          refine ev (rn_load rfl rfl (run_loadVar1 T22 (hp.cell (i := 0) (off := 1) rfl rfl))) ?_
          refine ev0 (rn_len rfl rfl Tryd.underlying22 r32703) ?_
          apply go
          refine sel_of (fun hc => ?_) (fun hc => ?_)
          ·
            have h := cond_t h hc
            apply go
            apply go
            apply go
            obtain rfl := Option.some.inj h
            exact ⟨rfl, hp.ch⟩
          ·
            have h := cond_f h hc
            apply go
            apply go
            apply go
            refine ev (rn_load rfl rfl (run_loadVarA T26 rfl a32409)) ?_
            obtain ⟨⟨x32719, x32720⟩, q32721, h⟩ := bind_some h
            refine ev_call rfl rfl C30 (((rational_Whole_ok n) _ _  (Rational.mk (Int_2.mk x32390.Num.Neg x32454) (Int_2.mk x32390.Den.Neg x32457)) v32455 r32456 v32458 r32459 hp.imm _ q32721).mono ?_)
            rintro _ w32722 ⟨I32723, v32724, hv, hq, r32725⟩
            replace hv := hv.symm
            subst hv
            have hs := hq.st
            have hp := hp.join0 hq
            replace a32409 := a32409.step hs
            replace r32456 := r32456.step hs
            replace r32459 := r32459.step hs
            replace r32703 := r32703.step hs
            replace r32707 := r32707.step hs
            replace tb := tb.step hs
            refine ev_alloc hp rfl T24 ?_
            intro g32726 w32727 hp hs
            replace a32409 := a32409.step hs
            replace r32456 := r32456.step hs
            replace r32459 := r32459.step hs
            replace r32725 := r32725.step hs
            replace r32703 := r32703.step hs
            replace r32707 := r32707.step hs
            replace tb := tb.step hs
            refine ev_storeA hp (i := 0) (off := 0) (vs := [(.bool x32719.Neg), v32724]) rfl rfl rfl rfl T24 rfl (Nat.le_of_ble_eq_true rfl) (ones_cons rfl (ones_cons r32725.one ones_nil)) ?_
            intro w32728 hp hs
            replace a32409 := a32409.step hs
            replace r32456 := r32456.step hs
            replace r32459 := r32459.step hs
            replace r32725 := r32725.step hs
            replace r32703 := r32703.step hs
            replace r32707 := r32707.step hs
            replace tb := tb.step hs
            obtain ⟨y32782, q32783, h⟩ := bind_some h
            refine W.cut (γ := (Bool × (Nat → Prop))) (fun g => [(6, (.bool (g.1)))]) (fun g w' => y32782 = (g.1) ∧ Hp ⟨w0, I0, []⟩ (g.2) [] w' ∧ Tb w' (g.2) 1 .u64 pow10) ?_ ?_
            ·
              have hs := hp.stp (Ch.drew [] w32728)
              have hp := hp.drew
              replace a32409 := a32409.step hs
              replace r32456 := r32456.step hs
              replace r32459 := r32459.step hs
              replace r32725 := r32725.step hs
              replace r32703 := r32703.step hs
              replace r32707 := r32707.step hs
              replace tb := tb.step hs
              refine W.heldT [(0, true), (1, true), (2, false), (3, true), (4, true), (5, true), (6, true), (7, false), (8, false), (9, false), (10, true), (11, true), (12, true), (13, true), (14, true), (15, true), (16, false), (17, true), (18, true), (19, true), (20, true)] (fun x => Stp I32723 w32728.drew I32723 x ∧ OwnK [(g32716, [(.bool x32698.Neg), (.slice A32712 m32713 m32714), (.bool false), (.slice A32708 m32709 m32710)], 26)] x) MX (by kernel_rfl) ⟨Stp.refl _ _, (OwnK.cons (hp.own 1 _ _ _ rfl).1 OwnK.nil)⟩ ?_
              have hz := Stp.refl I32723 w32728.drew
              intro ops hops
              have e0 : nthO ops 0 = some _ := (hops 0).trans rfl
              have e1 : nthO ops 1 = some _ := (hops 1).trans rfl
              have e2 : nthO ops 2 = some _ := (hops 2).trans rfl
              have e3 : nthO ops 3 = some _ := (hops 3).trans rfl
              have e4 : nthO ops 4 = some _ := (hops 4).trans rfl
              have e5 : nthO ops 5 = some _ := (hops 5).trans rfl
              have e6 : nthO ops 6 = some _ := (hops 6).trans rfl
              have e7 : nthO ops 7 = some _ := (hops 7).trans rfl
              have e8 : nthO ops 8 = some _ := (hops 8).trans rfl
              have e9 : nthO ops 9 = some _ := (hops 9).trans rfl
              have e10 : nthO ops 10 = some _ := (hops 10).trans rfl
              have e11 : nthO ops 11 = some _ := (hops 11).trans rfl
              have e12 : nthO ops 12 = some _ := (hops 12).trans rfl
              have e13 : nthO ops 13 = some _ := (hops 13).trans rfl
              have e14 : nthO ops 14 = some _ := (hops 14).trans rfl
              have e15 : nthO ops 15 = some _ := (hops 15).trans rfl
              have e16 : nthO ops 16 = some _ := (hops 16).trans rfl
              have e17 : nthO ops 17 = some _ := (hops 17).trans rfl
              have e18 : nthO ops 18 = some _ := (hops 18).trans rfl
              have e19 : nthO ops 19 = some _ := (hops 19).trans rfl
              have e20 : nthO ops 20 = some _ := (hops 20).trans rfl
              clear hops
              refine vch_q e0 rfl ?_
              refine evh (fun w' hw => rn_load rfl rfl (run_loadVarA T26 rfl (hw.2.at_ (i := 0) rfl))) ?_
              refine vch_q e1 rfl ?_
              refine evh (fun w' hw => rn_load rfl rfl (run_loadVarA T26 rfl (a32409.step hw.1))) ?_
              refine vch_l e2 rfl ?_
              obtain ⟨x32809, q32810, q32783⟩ := bind_some q32783
              refine ev_call rfl rfl C28 (((rational_Cmp_ok n) _ _  (Rational.mk (Int_2.mk x32698.Neg x32698.Mag) (Int_2.mk false [1])) (.slice A32712 m32713 m32714) r32703 (.slice A32708 m32709 m32710) r32707 (Rational.mk (Int_2.mk x32390.Num.Neg x32454) (Int_2.mk x32390.Den.Neg x32457)) v32455 r32456 v32458 r32459 hp.imm _ q32810).mono ?_)
              rintro _ w32811 ⟨rfl, hc⟩
              have hs := hp.stp hc
              replace hp := hp.ext hc
              replace hz := hz.trans hs
              replace a32409 := a32409.step hs
              replace r32456 := r32456.step hs
              replace r32459 := r32459.step hs
              replace r32725 := r32725.step hs
              replace r32703 := r32703.step hs
              replace r32707 := r32707.step hs
              replace tb := tb.step hs
              refine ⟨fun x => Stp I32723 w32811 I32723 x ∧ OwnK [(g32716, [(.bool x32698.Neg), (.slice A32712 m32713 m32714), (.bool false), (.slice A32708 m32709 m32710)], 26)] x, ⟨Stp.refl _ _, (OwnK.cons (hp.own 1 _ _ _ rfl).1 OwnK.nil)⟩, fun x hx => ⟨hz.held hx.1, hx.2⟩, ?_⟩
              have hz := Stp.refl I32723 w32811
              refine vch_q e3 rfl ?_
              refine vch_q e4 rfl ?_
              rcases Bool.eq_false_or_eq_true (decide (x32809 ≤ 0)) with hc | hc
              ·
                have q32783 := cond_t q32783 hc
                refine vch_qt e5 rfl e4 rfl rfl hc ?_
                refine evh (fun w' hw => rn_load rfl rfl (run_loadVarA T26 rfl (a32409.step hw.1))) ?_
                refine vch_qt e6 rfl e4 rfl rfl rfl ?_
                refine evh (fun w' hw => rn_load rfl rfl (run_loadVarA T26 rfl (hw.2.at_ (i := 0) rfl))) ?_
                refine vch_lt e7 rfl e4 rfl rfl rfl ?_
                obtain ⟨x32812, q32813, q32783⟩ := bind_some q32783
                refine ev_call rfl rfl C12 (((rational_Of_ok n) _ _  1 1 hp.imm _ q32813).mono ?_)
                rintro _ w32814 ⟨I32815, v32816, v32818, hv, hq, r32817, r32819⟩
                replace hv := hv.symm
                subst hv
                have hs := hq.st
                have hp := hp.join0 hq
                replace hz := hz.trans hs
                replace a32409 := a32409.step hs
                replace r32456 := r32456.step hs
                replace r32459 := r32459.step hs
                replace r32703 := r32703.step hs
                replace r32707 := r32707.step hs
                replace r32725 := r32725.step hs
                replace tb := tb.step hs
                refine ⟨fun x => Stp I32815 w32814 I32815 x ∧ OwnK [(g32716, [(.bool x32698.Neg), (.slice A32712 m32713 m32714), (.bool false), (.slice A32708 m32709 m32710)], 26)] x, ⟨Stp.refl _ _, (OwnK.cons (hp.own 1 _ _ _ rfl).1 OwnK.nil)⟩, fun x hx => ⟨hz.held hx.1, hx.2⟩, ?_⟩
                have hz := Stp.refl I32815 w32814
                refine vch_lt e8 rfl e4 rfl rfl rfl ?_
                obtain ⟨x32820, q32821, q32783⟩ := bind_some q32783
                refine ev_call rfl rfl C19 (((rational_Add_ok n) _ _  (Rational.mk (Int_2.mk x32698.Neg x32698.Mag) (Int_2.mk false [1])) (.slice A32712 m32713 m32714) r32703 (.slice A32708 m32709 m32710) r32707 x32812 v32816 r32817 v32818 r32819 hp.imm _ q32821).mono ?_)
                rintro _ w32822 ⟨I32823, v32824, v32826, hv, hq, r32825, r32827⟩
                replace hv := hv.symm
                subst hv
                have hs := hq.st
                have hp := hp.join0 hq
                replace hz := hz.trans hs
                replace a32409 := a32409.step hs
                replace r32456 := r32456.step hs
                replace r32459 := r32459.step hs
                replace r32725 := r32725.step hs
                replace r32703 := r32703.step hs
                replace r32707 := r32707.step hs
                replace tb := tb.step hs
                refine ⟨fun x => Stp I32823 w32822 I32823 x ∧ OwnK [(g32716, [(.bool x32698.Neg), (.slice A32712 m32713 m32714), (.bool false), (.slice A32708 m32709 m32710)], 26)] x, ⟨Stp.refl _ _, (OwnK.cons (hp.own 1 _ _ _ rfl).1 OwnK.nil)⟩, fun x hx => ⟨hz.held hx.1, hx.2⟩, ?_⟩
                have hz := Stp.refl I32823 w32822
                refine vch_lt e9 rfl e4 rfl rfl rfl ?_
                obtain ⟨x32828, q32829, q32783⟩ := bind_some q32783
                refine ev_call rfl rfl C28 (((rational_Cmp_ok n) _ _  (Rational.mk (Int_2.mk x32390.Num.Neg x32454) (Int_2.mk x32390.Den.Neg x32457)) v32455 r32456 v32458 r32459 x32820 v32824 r32825 v32826 r32827 hp.imm _ q32829).mono ?_)
                rintro _ w32830 ⟨rfl, hc⟩
                have hs := hp.stp hc
                replace hp := hp.ext hc
                replace hz := hz.trans hs
                replace a32409 := a32409.step hs
                replace r32456 := r32456.step hs
                replace r32459 := r32459.step hs
                replace r32725 := r32725.step hs
                replace r32703 := r32703.step hs
                replace r32707 := r32707.step hs
                replace tb := tb.step hs
                refine ⟨fun x => Stp I32823 w32830 I32823 x ∧ OwnK [(g32716, [(.bool x32698.Neg), (.slice A32712 m32713 m32714), (.bool false), (.slice A32708 m32709 m32710)], 26)] x, ⟨Stp.refl _ _, (OwnK.cons (hp.own 1 _ _ _ rfl).1 OwnK.nil)⟩, fun x hx => ⟨hz.held hx.1, hx.2⟩, ?_⟩
                have hz := Stp.refl I32823 w32830
                refine vch_qt e10 rfl e4 rfl rfl rfl ?_
                refine vch_q e11 rfl ?_
                refine vch_q e12 rfl ?_
                rcases Bool.eq_false_or_eq_true (decide (x32828 < 0)) with hc | hc
                ·
                  have q32783 := cond_t q32783 hc
                  refine vch_qt e13 rfl e12 rfl rfl hc ?_
                  refine vch_qt e14 rfl e12 rfl rfl rfl ?_
                  refine evh (fun w' hw => rn_load rfl rfl (run_loadVarA T26 rfl (hw.2.at_ (i := 0) rfl))) ?_
                  refine vch_qt e15 rfl e12 rfl rfl rfl ?_
                  refine evh (fun w' hw => rn_load rfl rfl (run_loadVarA T26 rfl (a32409.step hw.1))) ?_
                  refine vch_lt e16 rfl e12 rfl rfl rfl ?_
                  obtain ⟨x32831, q32832, q32783⟩ := bind_some q32783
                  refine ev_call rfl rfl C28 (((rational_Cmp_ok n) _ _  (Rational.mk (Int_2.mk x32698.Neg x32698.Mag) (Int_2.mk false [1])) (.slice A32712 m32713 m32714) r32703 (.slice A32708 m32709 m32710) r32707 (Rational.mk (Int_2.mk x32390.Num.Neg x32454) (Int_2.mk x32390.Den.Neg x32457)) v32455 r32456 v32458 r32459 hp.imm _ q32832).mono ?_)
                  rintro _ w32833 ⟨rfl, hc⟩
                  have hs := hp.stp hc
                  replace hp := hp.ext hc
                  replace hz := hz.trans hs
                  replace r32725 := r32725.step hs
                  replace r32703 := r32703.step hs
                  replace r32707 := r32707.step hs
                  replace tb := tb.step hs
                  refine ⟨fun x => Stp I32823 w32833 I32823 x ∧ OwnK [(g32716, [(.bool x32698.Neg), (.slice A32712 m32713 m32714), (.bool false), (.slice A32708 m32709 m32710)], 26)] x, ⟨Stp.refl _ _, (OwnK.cons (hp.own 1 _ _ _ rfl).1 OwnK.nil)⟩, fun x hx => ⟨hz.held hx.1, hx.2⟩, ?_⟩
                  have hz := Stp.refl I32823 w32833
                  refine vch_qt e17 rfl e12 rfl rfl rfl ?_
                  refine vch_qt e18 rfl e12 rfl rfl rfl ?_
                  refine evh0 (rn_eqB rfl rfl rfl Tryd.underlying4) ?_
                  refine vch_q e19 rfl ?_
                  refine vch_q e20 rfl ?_
                  refine vch_end ?_
                  obtain rfl := Option.some.inj q32783
                  have hp := hp.sel [] (by decide)
                  exact ⟨((x32720 == (x32831 == 0)), I32823), (.c rfl .n), rfl, hp, tb⟩
                ·
                  have q32783 := cond_f q32783 hc
                  refine vch_qf e13 rfl e12 rfl rfl hc ?_
                  refine vch_qf e14 rfl e12 rfl rfl rfl ?_
                  refine vch_qf e15 rfl e12 rfl rfl rfl ?_
                  refine vch_lf e16 rfl e12 rfl rfl rfl ?_
                  refine ⟨fun x => Stp I32823 w32830 I32823 x ∧ OwnK [(g32716, [(.bool x32698.Neg), (.slice A32712 m32713 m32714), (.bool false), (.slice A32708 m32709 m32710)], 26)] x, ⟨Stp.refl _ _, (OwnK.cons (hp.own 1 _ _ _ rfl).1 OwnK.nil)⟩, fun x hx => ⟨hz.held hx.1, hx.2⟩, ?_⟩
                  have hz := Stp.refl I32823 w32830
                  refine vch_qf e17 rfl e12 rfl rfl rfl ?_
                  refine vch_qf e18 rfl e12 rfl rfl rfl ?_
                  refine vch_q e19 rfl ?_
                  refine vch_q e20 rfl ?_
                  refine vch_end ?_
                  obtain rfl := Option.some.inj q32783
                  have hp := hp.sel [] (by decide)
                  exact ⟨(false, I32823), (.c rfl .n), rfl, hp, tb⟩
              ·
                have q32783 := cond_f q32783 hc
                refine vch_qf e5 rfl e4 rfl rfl hc ?_
                refine vch_qf e6 rfl e4 rfl rfl rfl ?_
                refine vch_lf e7 rfl e4 rfl rfl rfl ?_
                refine ⟨fun x => Stp I32723 w32811 I32723 x ∧ OwnK [(g32716, [(.bool x32698.Neg), (.slice A32712 m32713 m32714), (.bool false), (.slice A32708 m32709 m32710)], 26)] x, ⟨Stp.refl _ _, (OwnK.cons (hp.own 1 _ _ _ rfl).1 OwnK.nil)⟩, fun x hx => ⟨hz.held hx.1, hx.2⟩, ?_⟩
                have hz := Stp.refl I32723 w32811
                refine vch_lf e8 rfl e4 rfl rfl rfl ?_
                refine ⟨fun x => Stp I32723 w32811 I32723 x ∧ OwnK [(g32716, [(.bool x32698.Neg), (.slice A32712 m32713 m32714), (.bool false), (.slice A32708 m32709 m32710)], 26)] x, ⟨Stp.refl _ _, (OwnK.cons (hp.own 1 _ _ _ rfl).1 OwnK.nil)⟩, fun x hx => ⟨hz.held hx.1, hx.2⟩, ?_⟩
                have hz := Stp.refl I32723 w32811
                refine vch_lf e9 rfl e4 rfl rfl rfl ?_
                refine ⟨fun x => Stp I32723 w32811 I32723 x ∧ OwnK [(g32716, [(.bool x32698.Neg), (.slice A32712 m32713 m32714), (.bool false), (.slice A32708 m32709 m32710)], 26)] x, ⟨Stp.refl _ _, (OwnK.cons (hp.own 1 _ _ _ rfl).1 OwnK.nil)⟩, fun x hx => ⟨hz.held hx.1, hx.2⟩, ?_⟩
                have hz := Stp.refl I32723 w32811
                refine vch_qf e10 rfl e4 rfl rfl rfl ?_
                refine vch_q e11 rfl ?_
                refine vch_q e12 rfl ?_
                refine vch_qf e13 rfl e12 rfl rfl rfl ?_
                refine vch_qf e14 rfl e12 rfl rfl rfl ?_
                refine vch_qf e15 rfl e12 rfl rfl rfl ?_
                refine vch_lf e16 rfl e12 rfl rfl rfl ?_
                refine ⟨fun x => Stp I32723 w32811 I32723 x ∧ OwnK [(g32716, [(.bool x32698.Neg), (.slice A32712 m32713 m32714), (.bool false), (.slice A32708 m32709 m32710)], 26)] x, ⟨Stp.refl _ _, (OwnK.cons (hp.own 1 _ _ _ rfl).1 OwnK.nil)⟩, fun x hx => ⟨hz.held hx.1, hx.2⟩, ?_⟩
                have hz := Stp.refl I32723 w32811
                refine vch_qf e17 rfl e12 rfl rfl rfl ?_
                refine vch_qf e18 rfl e12 rfl rfl rfl ?_
                refine vch_q e19 rfl ?_
                refine vch_q e20 rfl ?_
                refine vch_end ?_
                obtain rfl := Option.some.inj q32783
                have hp := hp.sel [] (by decide)
                exact ⟨(false, I32723), (.c rfl .n), rfl, hp, tb⟩
            ·
              rintro ⟨x32779, I32780⟩ w32781 ⟨hy, hp, tb⟩
              replace hy := hy.symm
              subst hy
              apply go
              obtain rfl := Option.some.inj h
              exact ⟨rfl, hp.ch⟩

end Go.Proofs.YtepadjfmcbjkmaaDoor
