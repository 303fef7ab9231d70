/-
  Each function of the program computes the plain function of its name.
-/
import Derived.Test.YtepadjfmcbjkmaaDoorFactsA
import Derived.Test.YtepadjfmcbjkmaaDoorWalkA
import Derived.Lib.Walk
import Derived.BigCall
import Derived.BigGuard
import Derived.Test.YtepadjfmcbjkmaaDoorCoreA
namespace Go.Proofs.YtepadjfmcbjkmaaDoor
open Go Go.Proofs.YtepadjfmcbjkmaaDoor.Gw Go.RowKit
set_option linter.unusedVariables false
attribute [local irreducible] Ev EvQ EvS EvH
def rational_one_S (f : Int_2 → Option Bool) : Prop := ∀ (w0 : World) (I0 : Nat → Prop) (x17386 : Int_2) (v17387 : Value) (r17388 : RepS (dI .u32) w0 I0 v17387 x17386.Mag) (hI : ∀ g, I0 g → g < w0.heap.size) (r : Bool), f x17386 = some r →
    Ret Tryd.prog 52 #[(.agg #[(.bool x17386.Neg), v17387])] w0 fun v w1 => v = (.bool r) ∧ Ch [] w0 w1
theorem rational_one_ok (n : Nat) : rational_one_S (rational_one n) := by
  intro w0 I0 x17386 v17387 r17388 hI r h
  unfold rational_one at h
  refine enter Tryd.func52 rfl (Nat.le_of_ble_eq_true rfl) ?_
  have hp : Hp ⟨w0, I0, []⟩ I0 [] w0 := Hp.start hI
  apply go
  apply go
  refine ev_boxI hp rfl rfl ?_
  intro p17391 I17392 w17390 hp hs a17393
  replace r17388 := r17388.step hs
  apply go
  have hs := hp.stp (Ch.drew [] w17390)
  have hp := hp.drew
  replace a17393 := a17393.step hs
  replace r17388 := r17388.step hs
  refine W.held [(0, true), (1, false), (2, false), (3, true), (4, true)] (Stp I17392 w17390.drew I17392) MX (by kernel_rfl) (Stp.refl _ _) ?_
  have hz := Stp.refl I17392 w17390.drew
  refine evh (fun w' hw => rn_load rfl rfl (run_loadVarA T24 rfl (a17393.step hw))) ?_
  obtain ⟨x17403, q17404, h⟩ := bind_some h
  refine ev_call rfl rfl C38 (((integer_Of_ok n) _ _  1 hp.imm _ q17404).mono ?_)
  rintro _ w17405 ⟨I17406, v17407, hv, hq, r17408⟩
  replace hv := hv.symm
  subst hv
  have hs := hq.st
  have hp := hp.join0 hq
  replace hz := hz.trans hs
  replace r17388 := r17388.step hs
  refine ⟨Stp I17406 w17405 I17406, Stp.refl _ _, fun x hx => hz.held hx, ?_⟩
  have hz := Stp.refl I17406 w17405
  obtain ⟨x17409, q17410, h⟩ := bind_some h
  refine ev_call rfl rfl C51 (((integer_Cmp_ok n) _ _  (Int_2.mk x17386.Neg x17386.Mag) v17387 r17388 x17403 v17407 r17408 hp.imm _ q17410).mono ?_)
  rintro _ w17411 ⟨rfl, hc⟩
  have hs := hp.stp hc
  replace hp := hp.ext hc
  replace hz := hz.trans hs
  refine ⟨Stp I17406 w17411 I17406, Stp.refl _ _, fun x hx => hz.held hx, ?_⟩
  have hz := Stp.refl I17406 w17411
  apply go
  obtain rfl := Option.some.inj h
  exact ⟨rfl, hp.ch⟩

end Go.Proofs.YtepadjfmcbjkmaaDoor

namespace Go.Proofs.YtepadjfmcbjkmaaDoor
open Go Go.Proofs.YtepadjfmcbjkmaaDoor.Gw Go.RowKit
set_option linter.unusedVariables false
attribute [local irreducible] Ev EvQ EvS EvH
def strconv_FormatUint_S (f : Int → Int → Option ByteArray) : Prop := ∀ (w0 : World) (I0 : Nat → Prop) (tb : Tb w0 I0 1 .u64 pow10) (x17427 : Int) (x17428 : Int) (hI : ∀ g, I0 g → g < w0.heap.size) (r : ByteArray), f x17427 x17428 = some r →
    Ret Tryd.prog 73 #[(.int .u64 x17427), (.int .i64 x17428)] w0 fun v w1 => v = (.string r) ∧ Ch [] w0 w1

open Go.Sort in
theorem fmt_zero (w : World) (nd : Nat) (hs : nd ≤ 24) : Holds (fun (b : UInt8) => Value.int .u8 (b.toNat : Int)) (w.alloc (.cells Lib.zeros24 103)) w.heap.size 0 (Array.replicate nd (0 : UInt8)) := fun j hj => by
  have hj' : j < nd := by simpa using hj
  refine ⟨?_, World.frozen?_alloc_new _ _ _ _⟩
  rw [World.cell?_alloc_new, Lib.zeros24_at _ (by omega), getElem!_pos _ j hj]
  simp
open Go.Sort in
theorem fmt_below (w : World) (o : Obj) (dk : Array UInt8) (k : Nat) : Below w.heap.size w ((putRow (fun (b : UInt8) => Value.int .u8 (b.toNat : Int)) (w.alloc o) w.heap.size 0 dk).drewN k) := by
  have h1 : Below w.heap.size w (putRow (fun (b : UInt8) => Value.int .u8 (b.toNat : Int)) (w.alloc o) w.heap.size 0 dk) := by
    refine ⟨rfl, rfl, rfl, by rw [size_putRow]; exact (Below.alloc (Below.refl w.heap.size w) (Nat.le_refl _) o).size, fun g hg => ?_⟩
    rw [← Below.heap_alloc w o g hg]
    unfold putRow mapBlock
    dsimp only
    rw [Array.getElem?_modify, if_neg (by omega)]
  refine ⟨?_, ?_, ?_, ?_, ?_⟩
  · exact h1.os
  · exact h1.tape
  · exact h1.output
  · exact h1.size
  · exact h1.block
set_option maxHeartbeats 6400000 in
set_option maxRecDepth 100000 in
theorem fmt_big (u : Nat) (h100 : 100 ≤ u) (hu64 : u < 18446744073709551616) (w : World) (htab : Lib.TabIs Tryd.prog w "internal/strconv.uint64pow10" .u64 Lib.pow10Tab) :
    Calls Tryd.prog 85 #[.int .u64 u, .int .i64 10] w fun e w' => e = .returned (.string ⟨(Lib.decDigits u).toArray⟩) ∧ Below w.heap.size w w' := by
  have hu1 : 1 ≤ u := by omega
  have hnd20 : Lib.nDigits u ≤ 20 := by have := Lib.numDigits_eq u hu1 hu64; split at this <;> omega
  have hb3 : Lib.nDigits u ≤ 24 := by omega
  have hal : Tryd.prog.arrayLen 103 = 24 := by simp [Program.arrayLen, Tryd.underlying103]
  have hsl : ∀ W, (Instr.sliceAt 103 (.pointer (some ⟨w.heap.size, 0, none⟩)) none (some (.int .i64 (Lib.nDigits u : Int))) none).run Tryd.prog W = .ok (.slice (some ⟨w.heap.size, 0, none⟩) (Lib.nDigits u) 24) W := fun W => by
    rw [run_sliceAt_array_h W 103 ⟨w.heap.size, 0, none⟩ (by simp [Program.arrayLen, Program.elem, Tryd.underlying103]) .i64 (Lib.nDigits u : Int) (by omega) (by rw [hal]; omega)]
    go_simp
  have hH0 := fmt_zero w (Lib.nDigits u) (by omega)
  have hfmt := sh_internal_strconv_formatBase10 w.heap.size 0 24 u (Array.replicate (Lib.nDigits u) 0) (w.alloc (.cells Lib.zeros24 103)) hH0 (by rw [Array.size_replicate]; exact Lib.lt_pow_nDigits u) hu64 (by rw [Array.size_replicate]; omega)
  rw [Array.size_replicate] at hfmt
  have HH0 := Lib.hid hH0
  clear hH0 hal
  go_enter Tryd.func85, Tryd.ntmps85
  go_wp2_with (first
    | (go_at_call 96; refine (sh_internal_strconv_numDigits u hu1 hu64 _ (Lib.tabIs_alloc htab _)).mono ?_; rintro e w' ⟨rfl, rfl⟩))
  go_at_call 97
  refine hfmt.mono ?_
  rintro e w' ⟨rfl, k, v', dk, rfl, hF⟩
  have hcv : (convert 92 9 (.slice (some ⟨w.heap.size, 0, none⟩) (Lib.nDigits u) 24)).run Tryd.prog ((Go.Sort.putRow (fun (b : UInt8) => Value.int .u8 (b.toNat : Int)) (w.alloc (.cells Lib.zeros24 103)) w.heap.size 0 dk).drewN k) = .ok (.string ⟨(Lib.decDigits u).toArray⟩) ((Go.Sort.putRow (fun (b : UInt8) => Value.int .u8 (b.toNat : Int)) (w.alloc (.cells Lib.zeros24 103)) w.heap.size 0 dk).drewN k) := by
    have h := run_convert_bytes_back (P := Tryd.prog) ((Go.Sort.putRow (fun (b : UInt8) => Value.int .u8 (b.toNat : Int)) (w.alloc (.cells Lib.zeros24 103)) w.heap.size 0 dk).drewN k) 92 9 5 ⟨w.heap.size, 0, none⟩ 24 (Lib.decDigits u) Tryd.underlying92 Tryd.underlying5 Tryd.underlying9 (fun j hj => by
      rw [Lib.row_is_numeral hF j hj, Lib.add_plain, World.cell?_drewN]
      exact Go.Sort.cell?_putRow (fun (b : UInt8) => Value.int .u8 (b.toNat : Int)) _ w.heap.size 0 _ dk HH0.out (by rw [hF.size, Array.size_replicate]) j (by rw [hF.size]; rw [Lib.decDigits_length] at hj; exact hj))
    rw [Lib.decDigits_length] at h
    exact h
  go_wp2
  go_ret
  exact ⟨rfl, fmt_below w _ dk k⟩
theorem fmt_inner (u : Nat) (hu64 : u < 18446744073709551616) (w : World) (htab : Lib.TabIs Tryd.prog w "internal/strconv.uint64pow10" .u64 Lib.pow10Tab) :
    Calls Tryd.prog 85 #[.int .u64 u, .int .i64 10] w fun e w' => e = .returned (.string ⟨(Lib.decDigits u).toArray⟩) ∧ Below w.heap.size w w' := by
  by_cases h100 : u < 100
  · go_enter Tryd.func85, Tryd.ntmps85
    go_wp2_with (first
      | (go_at_call 95; refine (sh_internal_strconv_small u h100 _).mono ?_; rintro e w' ⟨rfl, rfl⟩))
    go_ret
    exact ⟨rfl, Below.refl _ _⟩
  · exact fmt_big u (by omega) hu64 w htab
theorem strconv_FormatUint_ok (n : Nat) : strconv_FormatUint_S (strconv_FormatUint n) := by
  intro w0 I0 tb x b hI r h
  obtain ⟨rfl, ⟨u, rfl, hu⟩, rfl⟩ := fmtU_some h
  have htab : Lib.TabIs Tryd.prog w0 "internal/strconv.uint64pow10" .u64 Lib.pow10Tab := tb.tab (zs := Lib.pow10Tab) (by kernel_rfl)
  apply ret_below
  go_enter Tryd.func73, Tryd.ntmps73
  go_wp2_with (first
    | (go_at_call 85; refine (fmt_inner u hu _ htab).mono ?_; rintro e w' ⟨rfl, hb⟩))
  go_ret
  exact ⟨rfl, hb⟩

end Go.Proofs.YtepadjfmcbjkmaaDoor

namespace Go.Proofs.YtepadjfmcbjkmaaDoor
open Go Go.Proofs.YtepadjfmcbjkmaaDoor.Gw Go.RowKit
set_option linter.unusedVariables false
attribute [local irreducible] Ev EvQ EvS EvH
def bits_Mul32_S (f : Int → Int → Option (Int × Int)) : Prop := ∀ (w0 : World) (I0 : Nat → Prop) (x17429 : Int) (x17430 : Int) (hI : ∀ g, I0 g → g < w0.heap.size) (r : (Int × Int)), f x17429 x17430 = some r →
    Ret Tryd.prog 99 #[(.int .u32 x17429), (.int .u32 x17430)] w0 fun v w1 => v = (.tuple #[(.int .u32 r.1), (.int .u32 r.2)]) ∧ Ch [] w0 w1
theorem bits_Mul32_ok (n : Nat) : bits_Mul32_S (bits_Mul32 n) := by
  intro w0 I0 x17429 x17430 hI r h
  unfold bits_Mul32 at h
  refine enter Tryd.func99 rfl (Nat.le_of_ble_eq_true rfl) ?_
  have hp : Hp ⟨w0, I0, []⟩ I0 [] w0 := Hp.start hI
  apply go
  apply go
  apply go
  apply go
  refine ev0 (rn_conv rfl rfl U42 Tryd.underlying68) ?_
  refine ev0 (rn_conv rfl rfl U42 Tryd.underlying68) ?_
  apply go
  apply go
  refine ⟨by decide, ?_⟩
  refine ev0 (rn_conv rfl rfl U68 Tryd.underlying42) ?_
  refine ev0 (rn_conv rfl rfl U68 Tryd.underlying42) ?_
  apply go
  obtain rfl := Option.some.inj h
  exact ⟨rfl, hp.ch⟩

end Go.Proofs.YtepadjfmcbjkmaaDoor

namespace Go.Proofs.YtepadjfmcbjkmaaDoor
open Go Go.Proofs.YtepadjfmcbjkmaaDoor.Gw Go.RowKit
set_option linter.unusedVariables false
attribute [local irreducible] Ev EvQ EvS EvH
def bits_Mul64_S (f : Int → Int → Option (Int × Int)) : Prop := ∀ (w0 : World) (I0 : Nat → Prop) (x17431 : Int) (x17432 : Int) (hI : ∀ g, I0 g → g < w0.heap.size) (r : (Int × Int)), f x17431 x17432 = some r →
    Ret Tryd.prog 100 #[(.int .u64 x17431), (.int .u64 x17432)] w0 fun v w1 => v = (.tuple #[(.int .u64 r.1), (.int .u64 r.2)]) ∧ Ch [] w0 w1
theorem bits_Mul64_ok (n : Nat) : bits_Mul64_S (bits_Mul64 n) := by
  intro w0 I0 x17431 x17432 hI r h
  unfold bits_Mul64 at h
  refine enter Tryd.func100 rfl (Nat.le_of_ble_eq_true rfl) ?_
  have hp : Hp ⟨w0, I0, []⟩ I0 [] w0 := Hp.start hI
  apply go
  apply go
  apply go
  apply go
  apply go
  apply go
  refine ⟨by decide, ?_⟩
  apply go
  apply go
  apply go
  apply go
  refine ⟨by decide, ?_⟩
  apply go
  apply go
  apply go
  apply go
  refine ⟨by decide, ?_⟩
  apply go
  apply go
  apply go
  apply go
  refine ⟨by decide, ?_⟩
  apply go
  apply go
  apply go
  apply go
  refine ⟨by decide, ?_⟩
  apply go
  apply go
  apply go
  obtain rfl := Option.some.inj h
  exact ⟨rfl, hp.ch⟩

end Go.Proofs.YtepadjfmcbjkmaaDoor

namespace Go.Proofs.YtepadjfmcbjkmaaDoor
open Go Go.Proofs.YtepadjfmcbjkmaaDoor.Gw Go.RowKit
set_option linter.unusedVariables false
attribute [local irreducible] Ev EvQ EvS EvH
def bits_Mul_S (f : Int → Int → Option (Int × Int)) : Prop := ∀ (w0 : World) (I0 : Nat → Prop) (x17433 : Int) (x17434 : Int) (hI : ∀ g, I0 g → g < w0.heap.size) (r : (Int × Int)), f x17433 x17434 = some r →
    Ret Tryd.prog 86 #[(.int .u64 x17433), (.int .u64 x17434)] w0 fun v w1 => v = (.tuple #[(.int .u64 r.1), (.int .u64 r.2)]) ∧ Ch [] w0 w1
theorem bits_Mul_ok (n : Nat) : bits_Mul_S (bits_Mul n) := by
  intro w0 I0 x17433 x17434 hI r h
  unfold bits_Mul at h
  refine enter Tryd.func86 rfl (Nat.le_of_ble_eq_true rfl) ?_
  have hp : Hp ⟨w0, I0, []⟩ I0 [] w0 := Hp.start hI
  apply go
  apply go
  apply go
  apply go
  apply go
  apply go
  apply go
  obtain ⟨⟨x17435, x17436⟩, q17437, h⟩ := bind_some h
  refine ev_call rfl rfl C100 (((bits_Mul64_ok n) _ _  x17433 x17434 hp.imm _ q17437).mono ?_)
  rintro _ w17438 ⟨rfl, hc⟩
  have hs := hp.stp hc
  replace hp := hp.ext hc
  apply go
  apply go
  apply go
  obtain rfl := Option.some.inj h
  exact ⟨rfl, hp.ch⟩

end Go.Proofs.YtepadjfmcbjkmaaDoor

namespace Go.Proofs.YtepadjfmcbjkmaaDoor
open Go Go.Proofs.YtepadjfmcbjkmaaDoor.Gw Go.RowKit
set_option linter.unusedVariables false
attribute [local irreducible] Ev EvQ EvS EvH
def strings_Repeat_S (f : ByteArray → Int → Option ByteArray) : Prop := ∀ (w0 : World) (I0 : Nat → Prop) (x17439 : ByteArray) (x17440 : Int) (hI : ∀ g, I0 g → g < w0.heap.size) (r : ByteArray), f x17439 x17440 = some r →
    Ret Tryd.prog 74 #[(.string x17439), (.int .i64 x17440)] w0 fun v w1 => v = (.string r) ∧ Ch [] w0 w1

theorem strings_Repeat_ok (n : Nat) : strings_Repeat_S (strings_Repeat n) := by
  intro w0 I0 s c hI r h
  obtain ⟨⟨k, rfl, hk⟩, hs, rfl⟩ := repS_some h
  have hm : s.size * k ≤ 1000000 * 1000000 := Nat.mul_le_mul hs hk
  exact ret_below (sh_strings_Repeat s k w0 (by omega) (by omega))

end Go.Proofs.YtepadjfmcbjkmaaDoor

namespace Go.Proofs.YtepadjfmcbjkmaaDoor
open Go Go.Proofs.YtepadjfmcbjkmaaDoor.Gw Go.RowKit
set_option linter.unusedVariables false
attribute [local irreducible] Ev EvQ EvS EvH vch
def slices_Reversestring_string__S (f : (List ByteArray) → Option (List ByteArray)) : Prop := ∀ (w0 : World) (I0 : Nat → Prop) (x17530 : (List ByteArray)) (v17531 : Value) (e17532 : Ent) (o17533 : OwnS dS 9 w0 I0 v17531 e17532 x17530) (hp : Hp ⟨w0, I0, (blk e17532)⟩ I0 [e17532] w0) (r : (List ByteArray)), f x17530 = some r →
    Ret Tryd.prog 75 #[v17531] w0 fun v w1 => ∃ (I1 : Nat → Prop) (u17534 : Ent), v = (.tuple #[]) ∧ Hp ⟨w0, I0, (blk e17532)⟩ I1 [u17534] w1 ∧ OwnS dS 9 w1 I1 v17531 u17534 r ∧ blk u17534 = blk e17532
theorem slices_Reversestring_string__ok (n : Nat) : slices_Reversestring_string__S (slices_Reversestring_string_ n) := by
  intro w0 I0 x17530 v17531 e17532 o17533 hp r h
  unfold slices_Reversestring_string_ at h
  refine enter Tryd.func75 rfl (Nat.le_of_ble_eq_true rfl) ?_
  have o17533z := o17533
  apply go
  apply go
  refine ev0 (x_lenO rfl rfl Tryd.underlying77 o17533) ?_
  apply go
  refine W.loop h (γ := Ent) (fun s g => [(0, v17531), (2, (.int .i64 (s.2.1))), (3, (.int .i64 (s.2.2)))]) (fun s g w' => Hp ⟨w0, I0, (blk e17532)⟩ I0 [(g)] w' ∧ OwnS dS 9 w' I0 v17531 (g) (s.1)) e17532 (.c rfl (.c rfl (.c rfl .n))) ⟨hp, o17533⟩ ?_
  rintro ⟨x17846, x17850, x17851⟩ e17848 w18169 y18170 ⟨hp, o17849⟩ q18171 q18172
  unfold slices_Reversestring_string__L0 at q18171
  apply go
  apply go
  apply go
  apply go
  refine sel_of (fun hc => ?_) (fun hc => ?_)
  ·
    have q18171 := cond_t q18171 hc
    apply go
    obtain ⟨y18330, q18331, q18171⟩ := bind_some q18171
    refine W.cut (γ := ((List ByteArray) × Ent)) (fun g => [(0, v17531), (2, (.int .i64 x17850)), (3, (.int .i64 x17851))]) (fun g w' => y18330 = (g.1) ∧ Hp ⟨w0, I0, (blk e17532)⟩ I0 [(g.2)] w' ∧ OwnS dS 9 w' I0 v17531 (g.2) (g.1)) ?_ ?_
    ·
      apply go
      have hs := hp.stp (Ch.drew [] w18169)
      have hp := hp.drew
      replace o17849 := o17849.step hs
      refine W.heldG (.q 0 (.q 1 (.q 2 (.q 3 (.q 4 (.q 5 (.q 6 (.q 8 (.q 9 (.q 10 (.l 7 (.l 11 (.q 12 (.l 13 (.q 14 (.l 15 .done .no)) .no)) .no) (.l 11 (.l 7 (.q 12 (.l 13 (.q 14 (.l 15 .done .no)) .no)) .no) .no)))))))))))) (SK (Stp I0 w18169.drew I0) [] []) MX (by kernel_rfl) ⟨Stp.refl _ _, kp_nil⟩ ?_
      have hz := Stp.refl I0 w18169.drew
      refine ⟨SK.same (by kernel_rfl), ?_⟩
      refine ⟨SK.same (by kernel_rfl), ?_⟩
      refine ⟨SK.same (by kernel_rfl), ?_⟩
      refine ⟨SK.same (by kernel_rfl), ?_⟩
      refine ⟨SK.same (by kernel_rfl), ?_⟩
      refine ⟨SK.same (by kernel_rfl), ?_⟩
      refine ⟨SK.same (by kernel_rfl), ?_⟩
      obtain ⟨x18416, q18417, q18331⟩ := bind_some q18331
      refine evh_indexO rfl rfl rfl Tryd.underlying77 T9 o17849 q18417 ?_
      intro g18418 c18419 h18422 d18420 l18421
      refine ⟨SK.same (by kernel_rfl), ?_⟩
      refine ⟨SK.same (by kernel_rfl), ?_⟩
      refine ⟨SK.same (by kernel_rfl), ?_⟩
      obtain ⟨x18424, q18425, q18331⟩ := bind_some q18331
      refine evh_indexO rfl rfl rfl Tryd.underlying77 T9 o17849 q18425 ?_
      intro g18426 c18427 h18430 d18428 l18429
      refine ⟨?_, ?_⟩
      ·
        refine ev (rn_load rfl rfl (run_loadVar1 T9 (hp.cellE (i := 0) rfl h18422 d18420 (j := 0) rfl))) ?_
        refine ⟨SK (Stp I0 w18169.drew I0) [] [], ⟨Stp.refl _ _, kp_nil⟩, fun L x h => ⟨hz.held h.1, h.2⟩, ?_⟩
        have hz := Stp.refl I0 w18169.drew
        refine ⟨?_, trivial⟩
        refine ev (rn_load rfl rfl (run_loadVar1 T9 (hp.cellE (i := 0) rfl h18430 d18428 (j := 0) rfl))) ?_
        refine ⟨SK (Stp I0 w18169.drew I0) [] [], ⟨Stp.refl _ _, kp_nil⟩, fun L x h => ⟨hz.held h.1, h.2⟩, ?_⟩
        have hz := Stp.refl I0 w18169.drew
        refine ⟨SK.same (by kernel_rfl), ?_⟩
        obtain ⟨x18432, q18433, q18331⟩ := bind_some q18331
        refine evh_indexO rfl rfl rfl Tryd.underlying77 T9 o17849 q18433 ?_
        intro g18434 c18435 h18438 d18436 l18437
        refine ⟨?_, trivial⟩
        refine ev_storeE hp (i := 0) rfl h18438 rfl rfl rfl T9 o17849 q18433 (x0 := x18416) rfl ?_
        intro e18441 w18440 hp hs o18442
        replace hz := hz.trans hs
        refine ⟨SK (Stp I0 w18440 I0) [] [], ⟨Stp.refl _ _, kp_nil⟩, fun L x h => ⟨hz.held h.1, h.2⟩, ?_⟩
        have hz := Stp.refl I0 w18440
        refine ⟨SK.same (by kernel_rfl), ?_⟩
        obtain ⟨x18445, q18446, q18331⟩ := bind_some q18331
        refine evh_indexO rfl rfl rfl Tryd.underlying77 T9 o18442 q18446 ?_
        intro g18447 c18448 h18451 d18449 l18450
        refine ⟨?_, trivial⟩
        refine ev_storeE hp (i := 0) rfl h18451 rfl rfl rfl T9 o18442 q18446 (x0 := x18424) rfl ?_
        intro e18454 w18453 hp hs o18455
        replace hz := hz.trans hs
        refine ⟨SK (Stp I0 w18453 I0) [] [], ⟨Stp.refl _ _, kp_nil⟩, fun L x h => ⟨hz.held h.1, h.2⟩, ?_⟩
        have hz := Stp.refl I0 w18453
        obtain rfl := Option.some.inj q18331
        exact ⟨((upd (upd x17846 x17850 x18416) x17851 x18424), e18454), (.c rfl (.c rfl (.c rfl .n))), rfl, hp, o18455⟩
      refine ⟨?_, trivial⟩
      refine ev (rn_load rfl rfl (run_loadVar1 T9 (hp.cellE (i := 0) rfl h18430 d18428 (j := 0) rfl))) ?_
      refine ⟨SK (Stp I0 w18169.drew I0) [] [], ⟨Stp.refl _ _, kp_nil⟩, fun L x h => ⟨hz.held h.1, h.2⟩, ?_⟩
      have hz := Stp.refl I0 w18169.drew
      refine ⟨?_, trivial⟩
      refine ev (rn_load rfl rfl (run_loadVar1 T9 (hp.cellE (i := 0) rfl h18422 d18420 (j := 0) rfl))) ?_
      refine ⟨SK (Stp I0 w18169.drew I0) [] [], ⟨Stp.refl _ _, kp_nil⟩, fun L x h => ⟨hz.held h.1, h.2⟩, ?_⟩
      have hz := Stp.refl I0 w18169.drew
      refine ⟨SK.same (by kernel_rfl), ?_⟩
      obtain ⟨x18458, q18459, q18331⟩ := bind_some q18331
      refine evh_indexO rfl rfl rfl Tryd.underlying77 T9 o17849 q18459 ?_
      intro g18460 c18461 h18464 d18462 l18463
      refine ⟨?_, trivial⟩
      refine ev_storeE hp (i := 0) rfl h18464 rfl rfl rfl T9 o17849 q18459 (x0 := x18416) rfl ?_
      intro e18467 w18466 hp hs o18468
      replace hz := hz.trans hs
      refine ⟨SK (Stp I0 w18466 I0) [] [], ⟨Stp.refl _ _, kp_nil⟩, fun L x h => ⟨hz.held h.1, h.2⟩, ?_⟩
      have hz := Stp.refl I0 w18466
      refine ⟨SK.same (by kernel_rfl), ?_⟩
      obtain ⟨x18471, q18472, q18331⟩ := bind_some q18331
      refine evh_indexO rfl rfl rfl Tryd.underlying77 T9 o18468 q18472 ?_
      intro g18473 c18474 h18477 d18475 l18476
      refine ⟨?_, trivial⟩
      refine ev_storeE hp (i := 0) rfl h18477 rfl rfl rfl T9 o18468 q18472 (x0 := x18424) rfl ?_
      intro e18480 w18479 hp hs o18481
      replace hz := hz.trans hs
      refine ⟨SK (Stp I0 w18479 I0) [] [], ⟨Stp.refl _ _, kp_nil⟩, fun L x h => ⟨hz.held h.1, h.2⟩, ?_⟩
      have hz := Stp.refl I0 w18479
      obtain rfl := Option.some.inj q18331
      exact ⟨((upd (upd x17846 x17850 x18416) x17851 x18424), e18480), (.c rfl (.c rfl (.c rfl .n))), rfl, hp, o18481⟩
    ·
      rintro ⟨x18325, e18327⟩ w18329 ⟨hy, hp, o18328⟩
      replace hy := hy.symm
      subst hy
      apply go
      exact ⟨_, (Option.some.inj q18171).symm, e18327, (.c rfl (.c rfl (.c rfl .n))), ⟨hp, o18328⟩⟩
  ·
    have q18171 := cond_f q18171 hc
    apply go
    have q18484 := congrArg some (q18172 _ (Option.some.inj q18171).symm)
    obtain rfl := Option.some.inj q18484
    exact ⟨I0, e17848, rfl, hp, o17849, (OwnS.blk o17533z o17849)⟩

end Go.Proofs.YtepadjfmcbjkmaaDoor

namespace Go.Proofs.YtepadjfmcbjkmaaDoor
open Go Go.Proofs.YtepadjfmcbjkmaaDoor.Gw Go.RowKit
set_option linter.unusedVariables false
attribute [local irreducible] Ev EvQ EvS EvH
def strings_Join_S (f : (List ByteArray) → ByteArray → Option ByteArray) : Prop := ∀ (w0 : World) (I0 : Nat → Prop) (x18485 : (List ByteArray)) (v18486 : Value) (r18487 : RepS dS w0 I0 v18486 x18485) (x18488 : ByteArray) (hI : ∀ g, I0 g → g < w0.heap.size) (r : ByteArray), f x18485 x18488 = some r →
    Ret Tryd.prog 76 #[v18486, (.string x18488)] w0 fun v w1 => v = (.string r) ∧ Ch [] w0 w1

theorem strings_Join_ok (n : Nat) : strings_Join_S (strings_Join n) := by
  intro w0 I0 xs v hr sep hI r h
  obtain ⟨hN, hL, rfl⟩ := joinS_some h
  rcases Nat.eq_zero_or_pos xs.length with h0 | h0
  · obtain rfl := List.eq_nil_of_length_eq_zero h0
    obtain ⟨a, c, rfl, _, _⟩ := hr
    exact ret_same (sh_strings_Join_none a c sep w0)
  · obtain ⟨b, o, c, rfl, hc, hb, hcells⟩ := hr.strs h0
    exact ret_below (sh_strings_Join b o c xs sep w0 hcells (hI b hb) hN hc hL)

end Go.Proofs.YtepadjfmcbjkmaaDoor

namespace Go.Proofs.YtepadjfmcbjkmaaDoor
open Go Go.Proofs.YtepadjfmcbjkmaaDoor.Gw Go.RowKit
set_option linter.unusedVariables false
attribute [local irreducible] Ev EvQ EvS EvH
def integer_Text_S (f : Int_2 → Option ByteArray) : Prop := ∀ (w0 : World) (I0 : Nat → Prop) (tb : Tb w0 I0 1 .u64 pow10) (x18489 : Int_2) (v18490 : Value) (r18491 : RepS (dI .u32) w0 I0 v18490 x18489.Mag) (hI : ∀ g, I0 g → g < w0.heap.size) (r : ByteArray), f x18489 = some r →
    Ret Tryd.prog 54 #[(.agg #[(.bool x18489.Neg), v18490])] w0 fun v w1 => v = (.string r) ∧ Ch [] w0 w1
theorem integer_Text_ok (n : Nat) : integer_Text_S (integer_Text n) := by
  intro w0 I0 tb x18489 v18490 r18491 hI r h
  unfold integer_Text at h
  refine enter Tryd.func54 rfl (Nat.le_of_ble_eq_true rfl) ?_
  have hp : Hp ⟨w0, I0, []⟩ I0 [] w0 := Hp.start hI
  apply go
  apply go
  refine ev_boxI hp rfl rfl ?_
  intro p18494 I18495 w18493 hp hs a18496
  replace r18491 := r18491.step hs
  replace tb := tb.step hs
  apply go
  apply go
  refine ev0 (rn_field rfl rfl FO24_1) ?_
  refine ev (rn_load rfl rfl (run_loadVar1 T22 (a18496.2 1 _ rfl))) ?_
  obtain ⟨x18497, q18498, h⟩ := bind_some h
  refine ev_call rfl rfl C60 (((integer_trim_ok n) _ _  x18489.Mag v18490 r18491 hp.imm _ q18498).mono ?_)
  rintro _ w18499 ⟨I18500, v18501, hv, hq, r18502⟩
  replace hv := hv.symm
  subst hv
  have hs := hq.st
  have hp := hp.join0 hq
  replace a18496 := a18496.step hs
  replace r18491 := r18491.step hs
  replace tb := tb.step hs
  obtain ⟨x18503, q18504, h⟩ := bind_some h
  refine ev_call rfl rfl C61 (((slices_Cloneuint32_uint32__ok n) _ _  x18497 v18501 r18502 hp.imm _ q18504).mono ?_)
  rintro _ w18505 ⟨I18506, v18507, hv, hq, r18508⟩
  replace hv := hv.symm
  subst hv
  have hs := hq.st
  have hp := hp.join0 hq
  replace a18496 := a18496.step hs
  replace r18491 := r18491.step hs
  replace tb := tb.step hs
  apply go
  apply go
  apply go
  refine ev0 (rn_len rfl rfl Tryd.underlying22 r18508) ?_
  apply go
  refine sel_of (fun hc => ?_) (fun hc => ?_)
  ·
    have h := cond_t h hc
    apply go
    apply go
    apply go
    obtain rfl := Option.some.inj h
    exact ⟨rfl, hp.ch⟩
  ·
    have h := cond_f h hc
    apply go
    apply go
    apply go
    obtain ⟨y18652, q18653, h⟩ := bind_some h
    refine W.cut (γ := ((List ByteArray) × Value × Ent × (Nat → Prop))) (fun g => [(1, (.pointer (some (p18494)))), (4, (g.2.1))]) (fun g w' => y18652 = (g.1) ∧ Hp ⟨w0, I0, []⟩ (g.2.2.2) [(g.2.2.1)] w' ∧ RepS (dI .u32) w' (g.2.2.2) v18490 x18489.Mag ∧ At w' (g.2.2.2) p18494 [(.bool x18489.Neg), v18490] ∧ OwnS dS 9 w' (g.2.2.2) (g.2.1) (g.2.2.1) (g.1) ∧ Tb w' (g.2.2.2) 1 .u64 pow10) ?_ ?_
    ·
      apply go
      have hp := hp.none_
      have o18748 := OwnS.nil dS 9 w18505 I18506
      refine W.loop q18653 (γ := (Value × Value × Ent × (Nat → Prop))) (fun s g => [(1, (.pointer (some (p18494)))), (3, (g.1)), (4, (g.2.1))]) (fun s g w' => Hp ⟨w0, I0, []⟩ (g.2.2.2) [(g.2.2.1)] w' ∧ RepS (dI .u32) w' (g.2.2.2) v18490 x18489.Mag ∧ At w' (g.2.2.2) p18494 [(.bool x18489.Neg), v18490] ∧ RepS (dI .u32) w' (g.2.2.2) (g.1) (s.1) ∧ OwnS dS 9 w' (g.2.2.2) (g.2.1) (g.2.2.1) (s.2) ∧ Tb w' (g.2.2.2) 1 .u64 pow10) (v18507, (.slice none 0 0), none, I18506) (.c rfl (.c rfl (.c rfl .n))) ⟨hp, r18491, a18496, r18508, o18748, tb⟩ ?_
      rintro ⟨x18693, x18696⟩ ⟨v18694, v18697, e18698, I18700⟩ w18747 y18749 ⟨hp, r18491, a18496, r18695, o18699, tb⟩ q18750 q18751
      unfold integer_Text_L1 at q18750
      apply go
      apply go
      apply go
      refine ev0 (rn_len rfl rfl Tryd.underlying22 r18695) ?_
      apply go
      refine sel_of (fun hc => ?_) (fun hc => ?_)
      ·
        have q18750 := cond_t q18750 hc
        apply go
        apply go
        apply go
        apply go
        apply go
        apply go
        obtain ⟨⟨x18752, x18753⟩, q18754, q18750⟩ := bind_some q18750
        refine ev_call rfl rfl C72 (((integer_short_ok n) _ _  x18693 v18694 r18695 1000000000 hp.imm _ q18754).mono ?_)
        rintro _ w18755 ⟨I18756, v18757, hv, hq, r18758⟩
        replace hv := hv.symm
        subst hv
        have hs := hq.st
        have hp := hp.join0 hq
        replace a18496 := a18496.step hs
        replace r18491 := r18491.step hs
        replace o18699 := o18699.step hs
        replace tb := tb.step hs
        apply go
        apply go
        obtain ⟨x18759, q18760, q18750⟩ := bind_some q18750
        refine ev_call rfl rfl C60 (((integer_trim_ok n) _ _  x18752 v18757 r18758 hp.imm _ q18760).mono ?_)
        rintro _ w18761 ⟨I18762, v18763, hv, hq, r18764⟩
        replace hv := hv.symm
        subst hv
        have hs := hq.st
        have hp := hp.join0 hq
        replace a18496 := a18496.step hs
        replace r18491 := r18491.step hs
        replace o18699 := o18699.step hs
        replace tb := tb.step hs
        apply go
        apply go
        refine ev0 (rn_conv rfl rfl U42 Tryd.underlying68) ?_
        obtain ⟨x18765, q18766, q18750⟩ := bind_some q18750
        refine ev_call rfl rfl C73 (((strconv_FormatUint_ok n) _ _ tb (IntKind.u64.wrap x18753) 10 hp.imm _ q18766).mono ?_)
        rintro _ w18767 ⟨rfl, hc⟩
        have hs := hp.stp hc
        replace hp := hp.ext hc
        replace a18496 := a18496.step hs
        replace r18491 := r18491.step hs
        replace o18699 := o18699.step hs
        replace r18764 := r18764.step hs
        replace tb := tb.step hs
        obtain ⟨y18774, q18775, q18750⟩ := bind_some q18750
        refine W.cut (γ := ByteArray) (fun g => [(1, (.pointer (some (p18494)))), (3, v18763), (4, v18697), (6, (.string (g)))]) (fun g w' => y18774 = (g) ∧ Hp ⟨w0, I0, []⟩ I18762 [e18698] w' ∧ RepS (dI .u32) w' I18762 v18490 x18489.Mag ∧ At w' I18762 p18494 [(.bool x18489.Neg), v18490] ∧ RepS (dI .u32) w' I18762 v18763 x18759 ∧ OwnS dS 9 w' I18762 v18697 e18698 x18696 ∧ Tb w' I18762 1 .u64 pow10) ?_ ?_
        ·
          apply go
          apply go
          refine ev0 (rn_len rfl rfl Tryd.underlying22 r18764) ?_
          apply go
          refine sel_of (fun hc => ?_) (fun hc => ?_)
          ·
            have q18775 := cond_t q18775 hc
            apply go
            refine ev0 (rn_lenS rfl rfl Tryd.underlying9) ?_
            obtain ⟨x18776, q18777, q18775⟩ := bind_some q18775
            refine ev_call rfl rfl C74 (((strings_Repeat_ok n) _ _  (ByteArray.mk #[48]) (IntKind.i64.wrap (9 - (x18765.size : Int))) hp.imm _ q18777).mono ?_)
            rintro _ w18778 ⟨rfl, hc⟩
            have hs := hp.stp hc
            replace hp := hp.ext hc
            replace a18496 := a18496.step hs
            replace r18491 := r18491.step hs
            replace o18699 := o18699.step hs
            replace r18764 := r18764.step hs
            replace tb := tb.step hs
            obtain ⟨q18779, _, q18775⟩ := need_some q18775
            refine ⟨q18779, ?_⟩
            obtain rfl := Option.some.inj q18775
            exact ⟨(x18776 ++ x18765), (.c rfl (.c rfl (.c rfl (.c rfl .n)))), rfl, hp, r18491, a18496, r18764, o18699, tb⟩
          ·
            have q18775 := cond_f q18775 hc
            apply go
            obtain rfl := Option.some.inj q18775
            exact ⟨x18765, (.c rfl (.c rfl (.c rfl (.c rfl .n)))), rfl, hp, r18491, a18496, r18764, o18699, tb⟩
        ·
          rintro x18772 w18773 ⟨hy, hp, r18491, a18496, r18764, o18699, tb⟩
          replace hy := hy.symm
          subst hy
          apply go
          refine ev_litN (d := dS) (xs := [x18772]) (cs := [(.string x18772)]) hp rfl rfl Tryd.underlying77 T9 (by decide) rfl rfl (Elems.cons (d := dS) (xs := _) rfl (Elems.nil _ _ _ _)) ?_
          intro v18780 I18782 w18781 hp hs r18783
          replace a18496 := a18496.step hs
          replace r18491 := r18491.step hs
          replace r18764 := r18764.step hs
          replace o18699 := o18699.step hs
          replace tb := tb.step hs
          obtain ⟨x18784, q18785, q18750⟩ := bind_some q18750
          refine ev_append hp (i := 0) rfl rfl rfl rfl Tryd.underlying77 T9 rfl rfl o18699 r18783 q18785 ?_
          rintro v18786 e18787 w18788 hp hs o18789
          replace a18496 := a18496.step hs
          replace r18491 := r18491.step hs
          replace r18764 := r18764.step hs
          replace tb := tb.step hs
          exact ⟨_, (Option.some.inj q18750).symm, (v18763, v18786, e18787, I18782), (.c rfl (.c rfl (.c rfl .n))), ⟨hp, r18491, a18496, r18764, o18789, tb⟩⟩
      ·
        have q18750 := cond_f q18750 hc
        apply go
        have q18790 := congrArg some (q18751 _ (Option.some.inj q18750).symm)
        obtain rfl := Option.some.inj q18790
        exact ⟨(x18696, v18697, e18698, I18700), (.c rfl (.c rfl .n)), rfl, hp, r18491, a18496, o18699, tb⟩
    ·
      rintro ⟨x18646, v18647, e18648, I18650⟩ w18651 ⟨hy, hp, r18491, a18496, o18649, tb⟩
      replace hy := hy.symm
      subst hy
      obtain ⟨y18807, q18808, h⟩ := bind_some h
      refine W.cut (γ := ((List ByteArray) × Value × Ent × (Nat → Prop))) (fun g => [(4, (g.2.1))]) (fun g w' => y18807 = (g.1) ∧ Hp ⟨w0, I0, []⟩ (g.2.2.2) [(g.2.2.1)] w' ∧ OwnS dS 9 w' (g.2.2.2) (g.2.1) (g.2.2.1) (g.1) ∧ Tb w' (g.2.2.2) 1 .u64 pow10) ?_ ?_
      ·
        apply go
        apply go
        refine ev0 (rn_field rfl rfl FO24_0) ?_
        refine ev (rn_load rfl rfl (run_loadVar1 T4 (a18496.2 0 _ rfl))) ?_
        apply go
        refine sel_of (fun hc => ?_) (fun hc => ?_)
        ·
          have q18808 := cond_t q18808 hc
          apply go
          refine ev_litN (d := dS) (xs := [(ByteArray.mk #[45])]) (cs := [(.string (ByteArray.mk #[45]))]) hp rfl rfl Tryd.underlying77 T9 (by decide) rfl rfl (Elems.cons (d := dS) (xs := _) rfl (Elems.nil _ _ _ _)) ?_
          intro v18809 I18811 w18810 hp hs r18812
          replace o18649 := o18649.step hs
          replace tb := tb.step hs
          obtain ⟨x18813, q18814, q18808⟩ := bind_some q18808
          refine ev_append hp (i := 0) rfl rfl rfl rfl Tryd.underlying77 T9 rfl rfl o18649 r18812 q18814 ?_
          rintro v18815 e18816 w18817 hp hs o18818
          replace tb := tb.step hs
          obtain rfl := Option.some.inj q18808
          exact ⟨(x18813, v18815, e18816, I18811), (.c rfl .n), rfl, hp, o18818, tb⟩
        ·
          have q18808 := cond_f q18808 hc
          apply go
          obtain rfl := Option.some.inj q18808
          exact ⟨(x18646, v18647, e18648, I18650), (.c rfl .n), rfl, hp, o18649, tb⟩
      ·
        rintro ⟨x18801, v18802, e18803, I18805⟩ w18806 ⟨hy, hp, o18804, tb⟩
        replace hy := hy.symm
        subst hy
        apply go
        apply go
        obtain ⟨x18819, q18820, h⟩ := bind_some h
        refine ev_call rfl rfl C75 (((slices_Reversestring_string__ok n) _ _  x18801 v18802 e18803 o18804 (hp.lend (i := 0) rfl) _ q18820).mono ?_)
        rintro _ w18821 ⟨I18822, e18823, hv, hq, o18824, hsame⟩
        replace hv := hv.symm
        subst hv
        have hs := hq.st
        have hp := hp.backO (i := 0) rfl hq hsame
        replace tb := tb.step hs
        apply go
        apply go
        have r18825 := o18824.frz hp (i := 0) rfl
        obtain ⟨hp, hs⟩ := freeze_hp hp (i := 0) rfl
        replace tb := tb.step hs
        have hp := hp.sel [] (by decide)
        obtain ⟨x18826, q18827, h⟩ := bind_some h
        refine ev_call rfl rfl C76 (((strings_Join_ok n) _ _  x18819 v18802 r18825 (ByteArray.mk #[]) hp.imm _ q18827).mono ?_)
        rintro _ w18828 ⟨rfl, hc⟩
        have hs := hp.stp hc
        replace hp := hp.ext hc
        replace tb := tb.step hs
        apply go
        obtain rfl := Option.some.inj h
        exact ⟨rfl, hp.ch⟩

end Go.Proofs.YtepadjfmcbjkmaaDoor

namespace Go.Proofs.YtepadjfmcbjkmaaDoor
open Go Go.Proofs.YtepadjfmcbjkmaaDoor.Gw Go.RowKit
set_option linter.unusedVariables false
attribute [local irreducible] Ev EvQ EvS EvH
def rational_Text_S (f : Rational → Option ByteArray) : Prop := ∀ (w0 : World) (I0 : Nat → Prop) (tb : Tb w0 I0 1 .u64 pow10) (x18829 : Rational) (v18830 : Value) (r18831 : RepS (dI .u32) w0 I0 v18830 x18829.Num.Mag) (v18832 : Value) (r18833 : RepS (dI .u32) w0 I0 v18832 x18829.Den.Mag) (hI : ∀ g, I0 g → g < w0.heap.size) (r : ByteArray), f x18829 = some r →
    Ret Tryd.prog 35 #[(.agg #[(.bool x18829.Num.Neg), v18830, (.bool x18829.Den.Neg), v18832])] w0 fun v w1 => v = (.string r) ∧ Ch [] w0 w1
theorem rational_Text_ok (n : Nat) : rational_Text_S (rational_Text n) := by
  intro w0 I0 tb x18829 v18830 r18831 v18832 r18833 hI r h
  unfold rational_Text at h
  refine enter Tryd.func35 rfl (Nat.le_of_ble_eq_true rfl) ?_
  have hp : Hp ⟨w0, I0, []⟩ I0 [] w0 := Hp.start hI
  apply go
  apply go
  refine ev_box hp rfl rfl ?_
  intro g18834 w18835 hp hs
  replace r18831 := r18831.step hs
  replace r18833 := r18833.step hs
  replace tb := tb.step hs
  apply go
  apply go
  refine ev (rn_load rfl rfl (run_loadVarA T26 rfl (hp.at_ (i := 0) rfl))) ?_
  obtain ⟨x18836, q18837, h⟩ := bind_some h
  refine ev_call rfl rfl C16 (((rational_Norm_ok n) _ _  (Rational.mk (Int_2.mk x18829.Num.Neg x18829.Num.Mag) (Int_2.mk x18829.Den.Neg x18829.Den.Mag)) v18830 r18831 v18832 r18833 hp.imm _ q18837).mono ?_)
  rintro _ w18838 ⟨I18839, v18840, v18842, hv, hq, r18841, r18843⟩
  replace hv := hv.symm
  subst hv
  have hs := hq.st
  have hp := hp.join0 hq
  replace r18831 := r18831.step hs
  replace r18833 := r18833.step hs
  replace tb := tb.step hs
  refine ev_storeA hp (i := 0) (off := 0) (vs := [(.bool x18836.Num.Neg), v18840, (.bool x18836.Den.Neg), v18842]) rfl rfl rfl rfl T26 rfl (Nat.le_of_ble_eq_true rfl) (ones_cons rfl (ones_cons r18841.one (ones_cons rfl (ones_cons r18843.one ones_nil)))) ?_
  intro w18844 hp hs
  replace r18841 := r18841.step hs
  replace r18843 := r18843.step hs
  replace tb := tb.step hs
  apply go
  apply go
  apply go
  refine ev0 (rn_field rfl rfl FO26_1) ?_
  refine ev (rn_load rfl rfl (run_loadVarA T24 rfl (((hp.at_ (i := 0) rfl).drop 2).take 2))) ?_
  obtain ⟨x18845, q18846, h⟩ := bind_some h
  refine ev_call rfl rfl C52 (((rational_one_ok n) _ _  (Int_2.mk x18836.Den.Neg x18836.Den.Mag) v18842 r18843 hp.imm _ q18846).mono ?_)
  rintro _ w18847 ⟨rfl, hc⟩
  have hs := hp.stp hc
  replace hp := hp.ext hc
  replace r18841 := r18841.step hs
  replace r18843 := r18843.step hs
  replace tb := tb.step hs
  apply go
  refine sel_of (fun hc => ?_) (fun hc => ?_)
  ·
    have h := cond_t h hc
    apply go
    apply go
    refine ev0 (rn_field rfl rfl FO26_0) ?_
    refine ev (rn_load rfl rfl (run_loadVarA T24 rfl (((hp.at_ (i := 0) rfl).drop 0).take 2))) ?_
    obtain ⟨x18848, q18849, h⟩ := bind_some h
    refine ev_call rfl rfl C54 (((integer_Text_ok n) _ _ tb (Int_2.mk x18836.Num.Neg x18836.Num.Mag) v18840 r18841 hp.imm _ q18849).mono ?_)
    rintro _ w18850 ⟨rfl, hc⟩
    have hs := hp.stp hc
    replace hp := hp.ext hc
    replace r18841 := r18841.step hs
    replace r18843 := r18843.step hs
    replace tb := tb.step hs
    apply go
    obtain rfl := Option.some.inj h
    exact ⟨rfl, hp.ch⟩
  ·
    have h := cond_f h hc
    apply go
    apply go
    refine W.quiet (fun w' => Ch [] w18847 w') MX (by kernel_rfl) (Ch.drew [] w18847) ?_
    refine evq0 (rn_field rfl rfl FO26_0) ?_
    refine evq (fun w' hw => rn_load rfl rfl (run_loadVarA T24 rfl ((((hp.ext hw).at_ (i := 0) rfl).drop 0).take 2))) ?_
    obtain ⟨x18851, q18852, h⟩ := bind_some h
    refine evq_call rfl rfl C54 (fun w' hw => ((integer_Text_ok n) _ _ (tb.step (hp.stp hw)) (Int_2.mk x18836.Num.Neg x18836.Num.Mag) v18840 (r18841.step (hp.stp hw)) (hp.ext hw).imm _ q18852).mono fun _ _ ⟨e, hc⟩ => ⟨e, hw.trans hc⟩) ?_
    obtain ⟨q18853, _, h⟩ := need_some h
    refine ⟨q18853, ?_⟩
    refine evq0 (rn_field rfl rfl FO26_1) ?_
    refine evq (fun w' hw => rn_load rfl rfl (run_loadVarA T24 rfl ((((hp.ext hw).at_ (i := 0) rfl).drop 2).take 2))) ?_
    obtain ⟨x18854, q18855, h⟩ := bind_some h
    refine evq_call rfl rfl C54 (fun w' hw => ((integer_Text_ok n) _ _ (tb.step (hp.stp hw)) (Int_2.mk x18836.Den.Neg x18836.Den.Mag) v18842 (r18843.step (hp.stp hw)) (hp.ext hw).imm _ q18855).mono fun _ _ ⟨e, hc⟩ => ⟨e, hw.trans hc⟩) ?_
    obtain ⟨q18856, _, h⟩ := need_some h
    refine ⟨q18856, ?_⟩
    intro w18857 hc
    have hs := hp.stp hc
    replace hp := hp.ext hc
    replace r18841 := r18841.step hs
    replace r18843 := r18843.step hs
    replace tb := tb.step hs
    apply go
    obtain rfl := Option.some.inj h
    exact ⟨rfl, hp.ch⟩

end Go.Proofs.YtepadjfmcbjkmaaDoor

namespace Go.Proofs.YtepadjfmcbjkmaaDoor
open Go Go.Proofs.YtepadjfmcbjkmaaDoor.Gw Go.RowKit
set_option linter.unusedVariables false
attribute [local irreducible] Ev EvQ EvS EvH
def law02_awake_S (f : Option Bool) : Prop := ∀ (w0 : World) (I0 : Nat → Prop) (tb : Tb w0 I0 1 .u64 pow10)  (hI : ∀ g, I0 g → g < w0.heap.size) (r : Bool), f  = some r →
    Ret Tryd.prog 8 #[] w0 fun v w1 => v = (.bool r) ∧ Ch [] w0 w1
theorem law02_awake_ok (n : Nat) : law02_awake_S (law02_awake n) := by
  intro w0 I0 tb hI r h
  unfold law02_awake at h
  refine enter Tryd.func8 rfl (Nat.le_of_ble_eq_true rfl) ?_
  have hp : Hp ⟨w0, I0, []⟩ I0 [] w0 := Hp.start hI
  apply go
  apply go
  obtain ⟨y21857, q21858, h⟩ := bind_some h
  refine W.cut (γ := (Bool × (Nat → Prop))) (fun g => [(0, (.bool (g.1)))]) (fun g w' => y21857 = (g.1) ∧ Hp ⟨w0, I0, []⟩ (g.2) [] w' ∧ Tb w' (g.2) 1 .u64 pow10) ?_ ?_
  ·
    apply go
    obtain ⟨x21859, q21860, q21858⟩ := bind_some q21858
    refine ev_call rfl rfl C12 (((rational_Of_ok n) _ _  6 (-4) hp.imm _ q21860).mono ?_)
    rintro _ w21861 ⟨I21862, v21863, v21865, hv, hq, r21864, r21866⟩
    replace hv := hv.symm
    subst hv
    have hs := hq.st
    have hp := hp.join0 hq
    replace tb := tb.step hs
    obtain ⟨x21867, q21868, q21858⟩ := bind_some q21858
    refine ev_call rfl rfl C35 (((rational_Text_ok n) _ _ tb x21859 v21863 r21864 v21865 r21866 hp.imm _ q21868).mono ?_)
    rintro _ w21869 ⟨rfl, hc⟩
    have hs := hp.stp hc
    replace hp := hp.ext hc
    replace tb := tb.step hs
    refine sel_of (fun hc => ?_) (fun hc => ?_)
    ·
      have q21858 := cond_t q21858 hc
      obtain ⟨x21870, q21871, q21858⟩ := bind_some q21858
      refine ev_call rfl rfl C12 (((rational_Of_ok n) _ _  1 2 hp.imm _ q21871).mono ?_)
      rintro _ w21872 ⟨I21873, v21874, v21876, hv, hq, r21875, r21877⟩
      replace hv := hv.symm
      subst hv
      have hs := hq.st
      have hp := hp.join0 hq
      replace tb := tb.step hs
      obtain ⟨x21878, q21879, q21858⟩ := bind_some q21858
      refine ev_call rfl rfl C12 (((rational_Of_ok n) _ _  1 3 hp.imm _ q21879).mono ?_)
      rintro _ w21880 ⟨I21881, v21882, v21884, hv, hq, r21883, r21885⟩
      replace hv := hv.symm
      subst hv
      have hs := hq.st
      have hp := hp.join0 hq
      replace r21875 := r21875.step hs
      replace r21877 := r21877.step hs
      replace tb := tb.step hs
      obtain ⟨x21886, q21887, q21858⟩ := bind_some q21858
      refine ev_call rfl rfl C19 (((rational_Add_ok n) _ _  x21870 v21874 r21875 v21876 r21877 x21878 v21882 r21883 v21884 r21885 hp.imm _ q21887).mono ?_)
      rintro _ w21888 ⟨I21889, v21890, v21892, hv, hq, r21891, r21893⟩
      replace hv := hv.symm
      subst hv
      have hs := hq.st
      have hp := hp.join0 hq
      replace tb := tb.step hs
      obtain ⟨x21894, q21895, q21858⟩ := bind_some q21858
      refine ev_call rfl rfl C35 (((rational_Text_ok n) _ _ tb x21886 v21890 r21891 v21892 r21893 hp.imm _ q21895).mono ?_)
      rintro _ w21896 ⟨rfl, hc⟩
      have hs := hp.stp hc
      replace hp := hp.ext hc
      replace tb := tb.step hs
      obtain rfl := Option.some.inj q21858
      exact ⟨((x21894.toList == (ByteArray.mk #[53, 47, 54]).toList), I21889), (.c rfl .n), rfl, hp, tb⟩
    ·
      have q21858 := cond_f q21858 hc
      obtain rfl := Option.some.inj q21858
      exact ⟨(false, I21862), (.c rfl .n), rfl, hp, tb⟩
  ·
    rintro ⟨x21854, I21855⟩ w21856 ⟨hy, hp, tb⟩
    replace hy := hy.symm
    subst hy
    apply go
    obtain rfl := Option.some.inj h
    exact ⟨rfl, hp.ch⟩

end Go.Proofs.YtepadjfmcbjkmaaDoor

namespace Go.Proofs.YtepadjfmcbjkmaaDoor
open Go Go.Proofs.YtepadjfmcbjkmaaDoor.Gw Go.RowKit
set_option linter.unusedVariables false
attribute [local irreducible] Ev EvQ EvS EvH
def ref02_Few_S (f : (List Rational) → Option Bool) : Prop := ∀ (w0 : World) (I0 : Nat → Prop) (x21897 : (List Rational)) (v21898 : Value) (r21899 : RepS dRational w0 I0 v21898 x21897) (hI : ∀ g, I0 g → g < w0.heap.size) (r : Bool), f x21897 = some r →
    Ret Tryd.prog 36 #[v21898] w0 fun v w1 => v = (.bool r) ∧ Ch [] w0 w1
theorem ref02_Few_ok (n : Nat) : ref02_Few_S (ref02_Few n) := by
  intro w0 I0 x21897 v21898 r21899 hI r h
  unfold ref02_Few at h
  refine enter Tryd.func36 rfl (Nat.le_of_ble_eq_true rfl) ?_
  have hp : Hp ⟨w0, I0, []⟩ I0 [] w0 := Hp.start hI
  apply go
  apply go
  apply go
  apply go
  obtain ⟨y21983, q21984, h⟩ := bind_some h
  refine W.cut (γ := Int) (fun g => [(0, v21898), (3, (.int .i64 (g)))]) (fun g w' => y21983 = (g) ∧ Hp ⟨w0, I0, []⟩ I0 [] w' ∧ RepS dRational w' I0 v21898 x21897) ?_ ?_
  ·
    apply go
    apply go
    apply go
    refine W.loop q21984 (γ := Unit) (fun s _ => [(0, v21898), (3, (.int .i64 (s.1))), (4, (.int .i64 (s.2)))]) (fun s _ w' => Hp ⟨w0, I0, []⟩ I0 [] w' ∧ RepS dRational w' I0 v21898 x21897) () (.c rfl (.c rfl (.c rfl .n))) ⟨hp, r21899⟩ ?_
    rintro ⟨x22009, x22010⟩ ⟨⟩ w22037 y22038 ⟨hp, r21899⟩ q22039 q22040
    unfold ref02_Few_L1 at q22039
    apply go
    obtain ⟨y22042, q22043, q22039⟩ := bind_some q22039
    refine W.cut (γ := Bool) (fun g => [(0, v21898), (3, (.int .i64 x22009)), (4, (.int .i64 x22010)), (12, (.bool (g)))]) (fun g w' => y22042 = (g) ∧ w22037 = w') ?_ ?_
    ·
      apply go
      refine ev0 (rn_len rfl rfl Tryd.underlying55 r21899) ?_
      refine sel_of (fun hc => ?_) (fun hc => ?_)
      ·
        have q22043 := cond_t q22043 hc
        obtain rfl := Option.some.inj q22043
        exact ⟨(decide (x22010 < 50)), (.c rfl (.c rfl (.c rfl (.c rfl .n)))), rfl, rfl⟩
      ·
        have q22043 := cond_f q22043 hc
        obtain rfl := Option.some.inj q22043
        exact ⟨false, (.c rfl (.c rfl (.c rfl (.c rfl .n)))), rfl, rfl⟩
    ·
      rintro x22041 _ ⟨hy, rfl⟩
      replace hy := hy.symm
      subst hy
      apply go
      refine sel_of (fun hc => ?_) (fun hc => ?_)
      ·
        have q22039 := cond_t q22039 hc
        apply go
        apply go
        apply go
        refine W.quiet (fun w' => Ch [] w22037 w') MX (by kernel_rfl) (Ch.drew [] w22037) ?_
        obtain ⟨x22044, q22045, q22039⟩ := bind_some q22039
        refine evq_index rfl rfl rfl Tryd.underlying55 T26 r21899 q22045 ?_
        intro p22046 c22047 d22048 a22049
        obtain ⟨v22050, v22052, rfl, r22051, r22053⟩ := dRational_o d22048
        refine evq0 (rn_field rfl rfl FO26_0) ?_
        refine evq0 (rn_field rfl rfl FO24_1) ?_
        refine evq (fun w' hw => rn_load rfl rfl (run_loadVar1 T22 ((a22049.step (hp.stp hw)).2 1 _ rfl))) ?_
        refine evq0 (rn_len rfl rfl Tryd.underlying22 r22051) ?_
        refine evq0 (rn_min rfl rfl rfl) ?_
        obtain ⟨x22054, q22055, q22039⟩ := bind_some q22039
        refine evq_index rfl rfl rfl Tryd.underlying55 T26 r21899 q22055 ?_
        intro p22056 c22057 d22058 a22059
        obtain ⟨v22060, v22062, rfl, r22061, r22063⟩ := dRational_o d22058
        refine evq0 (rn_field rfl rfl FO26_1) ?_
        refine evq0 (rn_fieldAt rfl rfl FO24_1) ?_
        refine evq (fun w' hw => rn_load rfl rfl (run_loadVar1 T22 ((a22059.step (hp.stp hw)).2 3 _ rfl))) ?_
        refine evq0 (rn_len rfl rfl Tryd.underlying22 r22063) ?_
        refine evq0 (rn_min rfl rfl rfl) ?_
        intro w22064 hc
        have hs := hp.stp hc
        replace hp := hp.ext hc
        replace r21899 := r21899.step hs
        apply go
        exact ⟨_, (Option.some.inj q22039).symm, (), (.c rfl (.c rfl (.c rfl .n))), ⟨hp, r21899⟩⟩
      ·
        have q22039 := cond_f q22039 hc
        apply go
        have q22065 := congrArg some (q22040 _ (Option.some.inj q22039).symm)
        obtain rfl := Option.some.inj q22065
        exact ⟨x22009, (.c rfl (.c rfl .n)), rfl, hp, r21899⟩
  ·
    rintro x21981 w21982 ⟨hy, hp, r21899⟩
    replace hy := hy.symm
    subst hy
    obtain ⟨y22067, q22068, h⟩ := bind_some h
    refine W.cut (γ := Bool) (fun g => [(2, (.bool (g)))]) (fun g w' => y22067 = (g) ∧ w21982 = w') ?_ ?_
    ·
      apply go
      refine ev0 (rn_len rfl rfl Tryd.underlying55 r21899) ?_
      refine sel_of (fun hc => ?_) (fun hc => ?_)
      ·
        have q22068 := cond_t q22068 hc
        obtain rfl := Option.some.inj q22068
        exact ⟨(decide (x21981 ≤ 60)), (.c rfl .n), rfl, rfl⟩
      ·
        have q22068 := cond_f q22068 hc
        obtain rfl := Option.some.inj q22068
        exact ⟨false, (.c rfl .n), rfl, rfl⟩
    ·
      rintro x22066 _ ⟨hy, rfl⟩
      replace hy := hy.symm
      subst hy
      apply go
      obtain rfl := Option.some.inj h
      exact ⟨rfl, hp.ch⟩

end Go.Proofs.YtepadjfmcbjkmaaDoor

namespace Go.Proofs.YtepadjfmcbjkmaaDoor
open Go Go.Proofs.YtepadjfmcbjkmaaDoor.Gw Go.RowKit
set_option linter.unusedVariables false
attribute [local irreducible] Ev EvQ EvS EvH
def law02_few_S (f : (List Rational) → Option Bool) : Prop := ∀ (w0 : World) (I0 : Nat → Prop) (x22069 : (List Rational)) (v22070 : Value) (r22071 : RepS dRational w0 I0 v22070 x22069) (hI : ∀ g, I0 g → g < w0.heap.size) (r : Bool), f x22069 = some r →
    Ret Tryd.prog 9 #[v22070] w0 fun v w1 => v = (.bool r) ∧ Ch [] w0 w1
theorem law02_few_ok (n : Nat) : law02_few_S (law02_few n) := by
  intro w0 I0 x22069 v22070 r22071 hI r h
  unfold law02_few at h
  refine enter Tryd.func9 rfl (Nat.le_of_ble_eq_true rfl) ?_
  have hp : Hp ⟨w0, I0, []⟩ I0 [] w0 := Hp.start hI
  apply go
  apply go
  apply go
  apply go
  obtain ⟨x22072, q22073, h⟩ := bind_some h
  refine ev_call rfl rfl C36 (((ref02_Few_ok n) _ _  x22069 v22070 r22071 hp.imm _ q22073).mono ?_)
  rintro _ w22074 ⟨rfl, hc⟩
  have hs := hp.stp hc
  replace hp := hp.ext hc
  apply go
  obtain rfl := Option.some.inj h
  exact ⟨rfl, hp.ch⟩

end Go.Proofs.YtepadjfmcbjkmaaDoor

namespace Go.Proofs.YtepadjfmcbjkmaaDoor
open Go Go.Proofs.YtepadjfmcbjkmaaDoor.Gw Go.RowKit
set_option linter.unusedVariables false
attribute [local irreducible] Ev EvQ EvS EvH
def base_Int_S (f : Int_2 → Int_2 → Option Bool) : Prop := ∀ (w0 : World) (I0 : Nat → Prop) (x26691 : Int_2) (v26692 : Value) (r26693 : RepS (dI .u32) w0 I0 v26692 x26691.Mag) (x26694 : Int_2) (v26695 : Value) (r26696 : RepS (dI .u32) w0 I0 v26695 x26694.Mag) (hI : ∀ g, I0 g → g < w0.heap.size) (r : Bool), f x26691 x26694 = some r →
    Ret Tryd.prog 37 #[(.agg #[(.bool x26691.Neg), v26692]), (.agg #[(.bool x26694.Neg), v26695])] w0 fun v w1 => v = (.bool r) ∧ Ch [] w0 w1
theorem base_Int_ok (n : Nat) : base_Int_S (base_Int n) := by
  intro w0 I0 x26691 v26692 r26693 x26694 v26695 r26696 hI r h
  unfold base_Int at h
  refine enter Tryd.func37 rfl (Nat.le_of_ble_eq_true rfl) ?_
  have hp : Hp ⟨w0, I0, []⟩ I0 [] w0 := Hp.start hI
  apply go
  apply go
  refine ev_boxI hp rfl rfl ?_
  intro p26699 I26700 w26698 hp hs a26701
  replace r26696 := r26696.step hs
  replace r26693 := r26693.step hs
  refine ev_boxI hp rfl rfl ?_
  intro p26704 I26705 w26703 hp hs a26706
  replace a26701 := a26701.step hs
  replace r26693 := r26693.step hs
  replace r26696 := r26696.step hs
  apply go
  obtain ⟨y26708, q26709, h⟩ := bind_some h
  refine W.cut (γ := Bool) (fun g => [(2, (.pointer (some (p26699)))), (3, (.pointer (some (p26704)))), (19, (.bool (g)))]) (fun g w' => y26708 = (g) ∧ w26703 = w') ?_ ?_
  ·
    apply go
    refine ev0 (rn_field rfl rfl FO24_0) ?_
    refine ev (rn_load rfl rfl (run_loadVar1 T4 (a26701.2 0 _ rfl))) ?_
    refine ev0 (rn_field rfl rfl FO24_0) ?_
    refine ev (rn_load rfl rfl (run_loadVar1 T4 (a26706.2 0 _ rfl))) ?_
    refine ev0 (rn_neB rfl rfl rfl Tryd.underlying4) ?_
    refine sel_of (fun hc => ?_) (fun hc => ?_)
    ·
      have q26709 := cond_t q26709 hc
      obtain rfl := Option.some.inj q26709
      exact ⟨true, (.c rfl (.c rfl (.c rfl .n))), rfl, rfl⟩
    ·
      have q26709 := cond_f q26709 hc
      refine ev0 (rn_field rfl rfl FO24_1) ?_
      refine ev (rn_load rfl rfl (run_loadVar1 T22 (a26701.2 1 _ rfl))) ?_
      refine ev0 (rn_len rfl rfl Tryd.underlying22 r26693) ?_
      refine ev0 (rn_field rfl rfl FO24_1) ?_
      refine ev (rn_load rfl rfl (run_loadVar1 T22 (a26706.2 1 _ rfl))) ?_
      refine ev0 (rn_len rfl rfl Tryd.underlying22 r26696) ?_
      obtain rfl := Option.some.inj q26709
      exact ⟨((x26691.Mag.length : Int) != (x26694.Mag.length : Int)), (.c rfl (.c rfl (.c rfl .n))), rfl, rfl⟩
  ·
    rintro x26707 _ ⟨hy, rfl⟩
    replace hy := hy.symm
    subst hy
    apply go
    refine sel_of (fun hc => ?_) (fun hc => ?_)
    ·
      have h := cond_t h hc
      apply go
      apply go
      apply go
      obtain rfl := Option.some.inj h
      exact ⟨rfl, hp.ch⟩
    ·
      have h := cond_f h hc
      apply go
      obtain ⟨y26758, q26759, h⟩ := bind_some h
      refine W.cut (γ := Unit) (fun _ => []) (fun _ w' => y26758 = .go () ∧ Hp ⟨w0, I0, []⟩ I26705 [] w') ?_ ?_
      ·
        apply go
        apply go
        apply go
        refine W.loop q26759 (γ := Unit) (fun s _ => [(2, (.pointer (some (p26699)))), (3, (.pointer (some (p26704)))), (5, (.int .i64 (s)))]) (fun s _ w' => Hp ⟨w0, I0, []⟩ I26705 [] w' ∧ RepS (dI .u32) w' I26705 v26692 x26691.Mag ∧ At w' I26705 p26699 [(.bool x26691.Neg), v26692] ∧ RepS (dI .u32) w' I26705 v26695 x26694.Mag ∧ At w' I26705 p26704 [(.bool x26694.Neg), v26695]) () (.c rfl (.c rfl (.c rfl .n))) ⟨hp, r26693, a26701, r26696, a26706⟩ ?_
        rintro x26773 ⟨⟩ w26788 y26789 ⟨hp, r26693, a26701, r26696, a26706⟩ q26790 q26791
        unfold base_Int_L1 at q26790
        apply go
        apply go
        apply go
        refine ev0 (rn_field rfl rfl FO24_1) ?_
        refine ev (rn_load rfl rfl (run_loadVar1 T22 (a26701.2 1 _ rfl))) ?_
        refine ev0 (rn_len rfl rfl Tryd.underlying22 r26693) ?_
        apply go
        refine sel_of (fun hc => ?_) (fun hc => ?_)
        ·
          have q26790 := cond_t q26790 hc
          apply go
          apply go
          apply go
          apply go
          refine W.quiet (fun w' => Ch [] w26788 w') MX (by kernel_rfl) (Ch.drew [] w26788) ?_
          refine evq0 (rn_field rfl rfl FO24_1) ?_
          refine evq (fun w' hw => rn_load rfl rfl (run_loadVar1 T22 ((a26701.step (hp.stp hw)).2 1 _ rfl))) ?_
          obtain ⟨x26792, q26793, q26790⟩ := bind_some q26790
          refine evq_index rfl rfl rfl Tryd.underlying22 T42 r26693 q26793 ?_
          intro p26794 c26795 d26796 a26797
          obtain rfl : c26795 = [(.int .u32 x26792)] := d26796
          refine evq (fun w' hw => rn_load rfl rfl (run_loadVar1 T42 ((a26797.step (hp.stp hw)).2 0 _ rfl))) ?_
          refine evq0 (rn_field rfl rfl FO24_1) ?_
          refine evq (fun w' hw => rn_load rfl rfl (run_loadVar1 T22 ((a26706.step (hp.stp hw)).2 1 _ rfl))) ?_
          obtain ⟨x26798, q26799, q26790⟩ := bind_some q26790
          refine evq_index rfl rfl rfl Tryd.underlying22 T42 r26696 q26799 ?_
          intro p26800 c26801 d26802 a26803
          obtain rfl : c26801 = [(.int .u32 x26798)] := d26802
          refine evq (fun w' hw => rn_load rfl rfl (run_loadVar1 T42 ((a26803.step (hp.stp hw)).2 0 _ rfl))) ?_
          intro w26804 hc
          have hs := hp.stp hc
          replace hp := hp.ext hc
          replace a26701 := a26701.step hs
          replace r26693 := r26693.step hs
          replace a26706 := a26706.step hs
          replace r26696 := r26696.step hs
          apply go
          refine sel_of (fun hc => ?_) (fun hc => ?_)
          ·
            have q26790 := cond_t q26790 hc
            apply go
            apply go
            apply go
            have q26805 := congrArg some (q26791 _ (Option.some.inj q26790).symm)
            obtain rfl := Option.some.inj q26805
            obtain rfl := Option.some.inj h
            exact ⟨rfl, hp.ch⟩
          ·
            have q26790 := cond_f q26790 hc
            apply go
            apply go
            exact ⟨_, (Option.some.inj q26790).symm, (), (.c rfl (.c rfl (.c rfl .n))), ⟨hp, r26693, a26701, r26696, a26706⟩⟩
        ·
          have q26790 := cond_f q26790 hc
          apply go
          have q26806 := congrArg some (q26791 _ (Option.some.inj q26790).symm)
          obtain rfl := Option.some.inj q26806
          exact ⟨(), .n, rfl, hp⟩
      ·
        rintro ⟨⟩ w26757 ⟨hy, hp⟩
        replace hy := hy.symm
        subst hy
        apply go
        apply go
        apply go
        obtain rfl := Option.some.inj h
        exact ⟨rfl, hp.ch⟩

end Go.Proofs.YtepadjfmcbjkmaaDoor

namespace Go.Proofs.YtepadjfmcbjkmaaDoor
open Go Go.Proofs.YtepadjfmcbjkmaaDoor.Gw Go.RowKit
set_option linter.unusedVariables false
attribute [local irreducible] Ev EvQ EvS EvH
def base_Rational_S (f : Rational → Rational → Option Bool) : Prop := ∀ (w0 : World) (I0 : Nat → Prop) (x26807 : Rational) (v26808 : Value) (r26809 : RepS (dI .u32) w0 I0 v26808 x26807.Num.Mag) (v26810 : Value) (r26811 : RepS (dI .u32) w0 I0 v26810 x26807.Den.Mag) (x26812 : Rational) (v26813 : Value) (r26814 : RepS (dI .u32) w0 I0 v26813 x26812.Num.Mag) (v26815 : Value) (r26816 : RepS (dI .u32) w0 I0 v26815 x26812.Den.Mag) (hI : ∀ g, I0 g → g < w0.heap.size) (r : Bool), f x26807 x26812 = some r →
    Ret Tryd.prog 11 #[(.agg #[(.bool x26807.Num.Neg), v26808, (.bool x26807.Den.Neg), v26810]), (.agg #[(.bool x26812.Num.Neg), v26813, (.bool x26812.Den.Neg), v26815])] w0 fun v w1 => v = (.bool r) ∧ Ch [] w0 w1
theorem base_Rational_ok (n : Nat) : base_Rational_S (base_Rational n) := by
  intro w0 I0 x26807 v26808 r26809 v26810 r26811 x26812 v26813 r26814 v26815 r26816 hI r h
  unfold base_Rational at h
  refine enter Tryd.func11 rfl (Nat.le_of_ble_eq_true rfl) ?_
  have hp : Hp ⟨w0, I0, []⟩ I0 [] w0 := Hp.start hI
  apply go
  apply go
  refine ev_boxI hp rfl rfl ?_
  intro p26819 I26820 w26818 hp hs a26821
  replace r26814 := r26814.step hs
  replace r26816 := r26816.step hs
  replace r26809 := r26809.step hs
  replace r26811 := r26811.step hs
  refine ev_boxI hp rfl rfl ?_
  intro p26824 I26825 w26823 hp hs a26826
  replace a26821 := a26821.step hs
  replace r26809 := r26809.step hs
  replace r26811 := r26811.step hs
  replace r26814 := r26814.step hs
  replace r26816 := r26816.step hs
  obtain ⟨y26835, q26836, h⟩ := bind_some h
  refine W.cut (γ := Bool) (fun g => [(4, (.bool (g)))]) (fun g w' => y26835 = (g) ∧ Hp ⟨w0, I0, []⟩ I26825 [] w') ?_ ?_
  ·
    apply go
    refine ev0 (rn_field rfl rfl FO26_0) ?_
    refine ev (rn_load rfl rfl (run_loadVarA T24 rfl ((a26821.drop 0).take 2))) ?_
    refine ev0 (rn_field rfl rfl FO26_0) ?_
    refine ev (rn_load rfl rfl (run_loadVarA T24 rfl ((a26826.drop 0).take 2))) ?_
    obtain ⟨x26837, q26838, q26836⟩ := bind_some q26836
    refine ev_call rfl rfl C37 (((base_Int_ok n) _ _  (Int_2.mk x26807.Num.Neg x26807.Num.Mag) v26808 r26809 (Int_2.mk x26812.Num.Neg x26812.Num.Mag) v26813 r26814 hp.imm _ q26838).mono ?_)
    rintro _ w26839 ⟨rfl, hc⟩
    have hs := hp.stp hc
    replace hp := hp.ext hc
    replace a26821 := a26821.step hs
    replace r26809 := r26809.step hs
    replace r26811 := r26811.step hs
    replace a26826 := a26826.step hs
    replace r26814 := r26814.step hs
    replace r26816 := r26816.step hs
    refine sel_of (fun hc => ?_) (fun hc => ?_)
    ·
      have q26836 := cond_t q26836 hc
      refine ev0 (rn_field rfl rfl FO26_1) ?_
      refine ev (rn_load rfl rfl (run_loadVarA T24 rfl ((a26821.drop 2).take 2))) ?_
      refine ev0 (rn_field rfl rfl FO26_1) ?_
      refine ev (rn_load rfl rfl (run_loadVarA T24 rfl ((a26826.drop 2).take 2))) ?_
      obtain ⟨x26840, q26841, q26836⟩ := bind_some q26836
      refine ev_call rfl rfl C37 (((base_Int_ok n) _ _  (Int_2.mk x26807.Den.Neg x26807.Den.Mag) v26810 r26811 (Int_2.mk x26812.Den.Neg x26812.Den.Mag) v26815 r26816 hp.imm _ q26841).mono ?_)
      rintro _ w26842 ⟨rfl, hc⟩
      have hs := hp.stp hc
      replace hp := hp.ext hc
      obtain rfl := Option.some.inj q26836
      exact ⟨x26840, (.c rfl .n), rfl, hp⟩
    ·
      have q26836 := cond_f q26836 hc
      obtain rfl := Option.some.inj q26836
      exact ⟨false, (.c rfl .n), rfl, hp⟩
  ·
    rintro x26833 w26834 ⟨hy, hp⟩
    replace hy := hy.symm
    subst hy
    apply go
    obtain rfl := Option.some.inj h
    exact ⟨rfl, hp.ch⟩

end Go.Proofs.YtepadjfmcbjkmaaDoor

namespace Go.Proofs.YtepadjfmcbjkmaaDoor
open Go Go.Proofs.YtepadjfmcbjkmaaDoor.Gw Go.RowKit
set_option linter.unusedVariables false
attribute [local irreducible] Ev EvQ EvS EvH
def ref01_trim_S (f : (List Int) → Option (List Int)) : Prop := ∀ (w0 : World) (I0 : Nat → Prop) (x22533 : (List Int)) (v22534 : Value) (r22535 : RepS (dI .u32) w0 I0 v22534 x22533) (hI : ∀ g, I0 g → g < w0.heap.size) (r : (List Int)), f x22533 = some r →
    Ret Tryd.prog 64 #[v22534] w0 fun v w1 => ∃ (I1 : Nat → Prop) (u22536 : Value) (u22537 : Ent), v = u22536 ∧ Hp ⟨w0, I0, []⟩ I1 [u22537] w1 ∧ OwnS (dI .u32) 42 w1 I1 u22536 u22537 r
theorem ref01_trim_ok (n : Nat) : ref01_trim_S (ref01_trim n) := by
  intro w0 I0 x22533 v22534 r22535 hI r h
  unfold ref01_trim at h
  refine enter Tryd.func64 rfl (Nat.le_of_ble_eq_true rfl) ?_
  have hp : Hp ⟨w0, I0, []⟩ I0 [] w0 := Hp.start hI
  apply go
  apply go
  obtain ⟨y22608, q22609, h⟩ := bind_some h
  refine W.cut (γ := ((List Int) × Value)) (fun g => [(0, (g.2))]) (fun g w' => y22608 = (g.1) ∧ w0 = w' ∧ RepS (dI .u32) w' I0 (g.2) (g.1)) ?_ ?_
  ·
    apply go
    refine W.loop q22609 (γ := Value) (fun s g => [(0, (g))]) (fun s g w' => w0 = w' ∧ RepS (dI .u32) w' I0 (g) (s)) v22534 (.c rfl .n) ⟨rfl, r22535⟩ ?_
    rintro x22629 v22630 _ y22654 ⟨rfl, r22631⟩ q22655 q22656
    unfold ref01_trim_L1 at q22655
    apply go
    obtain ⟨y22664, q22665, q22655⟩ := bind_some q22655
    refine W.cut (γ := Bool) (fun g => [(0, v22630), (14, (.bool (g)))]) (fun g w' => y22664 = (g) ∧ w0 = w') ?_ ?_
    ·
      apply go
      refine ev0 (rn_len rfl rfl Tryd.underlying22 r22631) ?_
      refine sel_of (fun hc => ?_) (fun hc => ?_)
      ·
        have q22665 := cond_t q22665 hc
        refine ev0 (rn_len rfl rfl Tryd.underlying22 r22631) ?_
        obtain ⟨x22666, q22667, q22665⟩ := bind_some q22665
        refine ev_index rfl rfl rfl Tryd.underlying22 T42 r22631 q22667 ?_
        intro p22668 c22669 d22670 a22671
        obtain rfl : c22669 = [(.int .u32 x22666)] := d22670
        refine ev (rn_load rfl rfl (run_loadVar1 T42 (a22671.2 0 _ rfl))) ?_
        obtain rfl := Option.some.inj q22665
        exact ⟨(x22666 == 0), (.c rfl (.c rfl .n)), rfl, rfl⟩
      ·
        have q22665 := cond_f q22665 hc
        obtain rfl := Option.some.inj q22665
        exact ⟨false, (.c rfl (.c rfl .n)), rfl, rfl⟩
    ·
      rintro x22663 _ ⟨hy, rfl⟩
      replace hy := hy.symm
      subst hy
      apply go
      refine sel_of (fun hc => ?_) (fun hc => ?_)
      ·
        have q22655 := cond_t q22655 hc
        apply go
        apply go
        apply go
        refine ev0 (rn_len rfl rfl Tryd.underlying22 r22631) ?_
        obtain ⟨x22672, q22673, q22655⟩ := bind_some q22655
        refine ev_slice (kl := .i64) (kh := .i64) rfl rfl rfl rfl Tryd.underlying22 T42 r22631 q22673 ?_
        intro v22674 r22675
        exact ⟨_, (Option.some.inj q22655).symm, v22674, (.c rfl .n), ⟨rfl, r22675⟩⟩
      ·
        have q22655 := cond_f q22655 hc
        apply go
        have q22676 := congrArg some (q22656 _ (Option.some.inj q22655).symm)
        obtain rfl := Option.some.inj q22676
        exact ⟨(x22629, v22630), (.c rfl .n), rfl, rfl, r22631⟩
  ·
    rintro ⟨x22605, v22606⟩ _ ⟨hy, rfl, r22607⟩
    replace hy := hy.symm
    subst hy
    apply go
    apply go
    refine ev_litON (d := (dI .u32)) (xs := ([] : List Int)) (cs := []) hp rfl rfl Tryd.underlying22 T42 (by decide) (by decide) rfl rfl (Elems.nil _ _ _ _) ?_
    intro v22677 e22679 w22678 hp hs o22680
    replace r22607 := r22607.step hs
    obtain ⟨x22681, q22682, h⟩ := bind_some h
    refine ev_append hp (i := 0) rfl rfl rfl rfl Tryd.underlying22 T42 rfl rfl o22680 r22607 q22682 ?_
    rintro v22683 e22684 w22685 hp hs o22686
    apply go
    obtain rfl := Option.some.inj h
    exact ⟨I0, v22683, e22684, rfl, hp, o22686⟩

end Go.Proofs.YtepadjfmcbjkmaaDoor

namespace Go.Proofs.YtepadjfmcbjkmaaDoor
open Go Go.Proofs.YtepadjfmcbjkmaaDoor.Gw Go.RowKit
set_option linter.unusedVariables false
attribute [local irreducible] Ev EvQ EvS EvH
def ref01_Norm_S (f : Int_2 → Option Int_2) : Prop := ∀ (w0 : World) (I0 : Nat → Prop) (x22687 : Int_2) (v22688 : Value) (r22689 : RepS (dI .u32) w0 I0 v22688 x22687.Mag) (hI : ∀ g, I0 g → g < w0.heap.size) (r : Int_2), f x22687 = some r →
    Ret Tryd.prog 59 #[(.agg #[(.bool x22687.Neg), v22688])] w0 fun v w1 => ∃ (I1 : Nat → Prop) (u22690 : Value), v = (.agg #[(.bool r.Neg), u22690]) ∧ Hp ⟨w0, I0, []⟩ I1 [] w1 ∧ RepS (dI .u32) w1 I1 u22690 r.Mag
theorem ref01_Norm_ok (n : Nat) : ref01_Norm_S (ref01_Norm n) := by
  intro w0 I0 x22687 v22688 r22689 hI r h
  unfold ref01_Norm at h
  refine enter Tryd.func59 rfl (Nat.le_of_ble_eq_true rfl) ?_
  have hp : Hp ⟨w0, I0, []⟩ I0 [] w0 := Hp.start hI
  apply go
  apply go
  refine ev_boxI hp rfl rfl ?_
  intro p22693 I22694 w22692 hp hs a22695
  replace r22689 := r22689.step hs
  refine ev_alloc hp rfl T24 ?_
  intro g22696 w22697 hp hs
  replace a22695 := a22695.step hs
  replace r22689 := r22689.step hs
  apply go
  apply go
  refine ev0 (rn_field rfl rfl FO24_1) ?_
  refine ev (rn_load rfl rfl (run_loadVar1 T22 (a22695.2 1 _ rfl))) ?_
  obtain ⟨x22698, q22699, h⟩ := bind_some h
  refine ev_call rfl rfl C64 (((ref01_trim_ok n) _ _  x22687.Mag v22688 r22689 hp.imm _ q22699).mono ?_)
  rintro _ w22700 ⟨I22701, v22702, e22703, hv, hq, o22704⟩
  replace hv := hv.symm
  subst hv
  have hs := hq.st
  have hp := hp.join0 hq
  replace a22695 := a22695.step hs
  replace r22689 := r22689.step hs
  obtain ⟨y22721, q22722, h⟩ := bind_some h
  refine W.cut (γ := (Bool × (List Int) × Value × Ent)) (fun g => [(2, (.pointer (some ⟨g22696, 0, none⟩)))]) (fun g w' => y22721 = ((g.1), (g.2.1)) ∧ Hp ⟨w0, I0, []⟩ I22701 [(g.2.2.2), some (g22696, [(.bool (g.1)), (g.2.2.1)], 24)] w' ∧ OwnS (dI .u32) 42 w' I22701 (g.2.2.1) (g.2.2.2) (g.2.1)) ?_ ?_
  ·
    apply go
    refine ev0 (rn_field rfl rfl FO24_0) ?_
    refine ev (rn_load rfl rfl (run_loadVar1 T4 (a22695.2 0 _ rfl))) ?_
    refine sel_of (fun hc => ?_) (fun hc => ?_)
    ·
      have q22722 := cond_t q22722 hc
      refine ev0 (x_lenO rfl rfl Tryd.underlying22 o22704) ?_
      obtain ⟨A22723, m22724, m22725, rfl⟩ := o22704.isSl
      refine ev0 (fun w => rn_build (cs := [(.bool (decide ((x22698.length : Int) > 0))), (.slice A22723 m22724 m22725)]) rfl rfl T24 PL24 rfl) ?_
      refine ev_storeA hp (i := 1) (off := 0) (vs := [(.bool (decide ((x22698.length : Int) > 0))), (.slice A22723 m22724 m22725)]) rfl rfl rfl rfl T24 rfl (Nat.le_of_ble_eq_true rfl) (ones_cons rfl (ones_cons o22704.one ones_nil)) ?_
      intro w22727 hp hs
      replace o22704 := o22704.step hs
      obtain rfl := Option.some.inj q22722
      exact ⟨((decide ((x22698.length : Int) > 0)), x22698, (.slice A22723 m22724 m22725), e22703), (.c rfl .n), rfl, hp, o22704⟩
    ·
      have q22722 := cond_f q22722 hc
      obtain ⟨A22728, m22729, m22730, rfl⟩ := o22704.isSl
      refine ev0 (fun w => rn_build (cs := [(.bool false), (.slice A22728 m22729 m22730)]) rfl rfl T24 PL24 rfl) ?_
      refine ev_storeA hp (i := 1) (off := 0) (vs := [(.bool false), (.slice A22728 m22729 m22730)]) rfl rfl rfl rfl T24 rfl (Nat.le_of_ble_eq_true rfl) (ones_cons rfl (ones_cons o22704.one ones_nil)) ?_
      intro w22732 hp hs
      replace o22704 := o22704.step hs
      obtain rfl := Option.some.inj q22722
      exact ⟨(false, x22698, (.slice A22728 m22729 m22730), e22703), (.c rfl .n), rfl, hp, o22704⟩
  ·
    rintro ⟨x22715, x22716, v22717, e22718⟩ w22720 ⟨hy, hp, o22719⟩
    replace hy := hy.symm
    subst hy
    apply go
    obtain rfl := Option.some.inj h
    have r22733 := o22719.frz hp (i := 0) rfl
    obtain ⟨hp, hs⟩ := freeze_hp hp (i := 0) rfl
    have hp := hp.sel [1] (by decide)
    refine ⟨_, run_loadVarA T24 rfl (hp.at_ (i := 0) rfl), ?_⟩
    have hp := hp.sel [] (by decide)
    exact ⟨(Ad I22701 e22718), v22717, rfl, hp, r22733⟩

end Go.Proofs.YtepadjfmcbjkmaaDoor

namespace Go.Proofs.YtepadjfmcbjkmaaDoor
open Go Go.Proofs.YtepadjfmcbjkmaaDoor.Gw Go.RowKit
set_option linter.unusedVariables false
attribute [local irreducible] Ev EvQ EvS EvH
def ref01_Of_S (f : Int → Option Int_2) : Prop := ∀ (w0 : World) (I0 : Nat → Prop) (x22734 : Int) (hI : ∀ g, I0 g → g < w0.heap.size) (r : Int_2), f x22734 = some r →
    Ret Tryd.prog 40 #[(.int .i64 x22734)] w0 fun v w1 => ∃ (I1 : Nat → Prop) (u22735 : Value), v = (.agg #[(.bool r.Neg), u22735]) ∧ Hp ⟨w0, I0, []⟩ I1 [] w1 ∧ RepS (dI .u32) w1 I1 u22735 r.Mag
theorem ref01_Of_ok (n : Nat) : ref01_Of_S (ref01_Of n) := by
  intro w0 I0 x22734 hI r h
  unfold ref01_Of at h
  refine enter Tryd.func40 rfl (Nat.le_of_ble_eq_true rfl) ?_
  have hp : Hp ⟨w0, I0, []⟩ I0 [] w0 := Hp.start hI
  apply go
  apply go
  refine ev_alloc hp rfl T24 ?_
  intro g22736 w22737 hp hs
  apply go
  apply go
  refine ev0 (rn_conv rfl rfl U3 Tryd.underlying68) ?_
  obtain ⟨y22739, q22740, h⟩ := bind_some h
  refine W.cut (γ := Int) (fun g => [(0, (.int .i64 x22734)), (2, (.pointer (some ⟨g22736, 0, none⟩))), (3, (.int .u64 (g)))]) (fun g w' => y22739 = (g) ∧ w22737 = w') ?_ ?_
  ·
    apply go
    apply go
    apply go
    refine sel_of (fun hc => ?_) (fun hc => ?_)
    ·
      have q22740 := cond_t q22740 hc
      apply go
      obtain rfl := Option.some.inj q22740
      exact ⟨(IntKind.u64.wrap (0 - (IntKind.u64.wrap x22734))), (.c rfl (.c rfl (.c rfl .n))), rfl, rfl⟩
    ·
      have q22740 := cond_f q22740 hc
      apply go
      obtain rfl := Option.some.inj q22740
      exact ⟨(IntKind.u64.wrap x22734), (.c rfl (.c rfl (.c rfl .n))), rfl, rfl⟩
  ·
    rintro x22738 _ ⟨hy, rfl⟩
    replace hy := hy.symm
    subst hy
    apply go
    apply go
    refine ev0 (rn_conv rfl rfl U68 Tryd.underlying42) ?_
    refine ⟨by decide, ?_⟩
    refine ev0 (rn_conv rfl rfl U68 Tryd.underlying42) ?_
    refine ev_litN (d := (dI .u32)) (xs := [(IntKind.u32.wrap x22738), (IntKind.u32.wrap (x22738.fdiv (2 ^ min (32 : Int).toNat (IntKind.u64).bits)))]) (cs := [(.int .u32 (IntKind.u32.wrap x22738)), (.int .u32 (IntKind.u32.wrap (x22738.fdiv (2 ^ min (32 : Int).toNat (IntKind.u64).bits))))]) hp rfl rfl Tryd.underlying22 T42 (by decide) rfl rfl (Elems.cons (d := (dI .u32)) (xs := _) rfl (Elems.cons (d := (dI .u32)) (xs := _) rfl (Elems.nil _ _ _ _))) ?_
    intro v22741 I22743 w22742 hp hs r22744
    obtain ⟨A22745, m22746, m22747, rfl⟩ := r22744.isSl
    refine ev0 (fun w => rn_build (cs := [(.bool (decide (x22734 < 0))), (.slice A22745 m22746 m22747)]) rfl rfl T24 PL24 rfl) ?_
    obtain ⟨x22749, q22750, h⟩ := bind_some h
    refine ev_call rfl rfl C59 (((ref01_Norm_ok n) _ _  (Int_2.mk (decide (x22734 < 0)) [(IntKind.u32.wrap x22738), (IntKind.u32.wrap (x22738.fdiv (2 ^ min (32 : Int).toNat (IntKind.u64).bits)))]) (.slice A22745 m22746 m22747) r22744 hp.imm _ q22750).mono ?_)
    rintro _ w22751 ⟨I22752, v22753, hv, hq, r22754⟩
    replace hv := hv.symm
    subst hv
    have hs := hq.st
    have hp := hp.join0 hq
    refine ev_storeA hp (i := 0) (off := 0) (vs := [(.bool x22749.Neg), v22753]) rfl rfl rfl rfl T24 rfl (Nat.le_of_ble_eq_true rfl) (ones_cons rfl (ones_cons r22754.one ones_nil)) ?_
    intro w22755 hp hs
    replace r22754 := r22754.step hs
    apply go
    obtain rfl := Option.some.inj h
    refine ⟨_, run_loadVarA T24 rfl (hp.at_ (i := 0) rfl), ?_⟩
    have hp := hp.sel [] (by decide)
    exact ⟨I22752, v22753, rfl, hp, r22754⟩

end Go.Proofs.YtepadjfmcbjkmaaDoor

namespace Go.Proofs.YtepadjfmcbjkmaaDoor
open Go Go.Proofs.YtepadjfmcbjkmaaDoor.Gw Go.RowKit
set_option linter.unusedVariables false
attribute [local irreducible] Ev EvQ EvS EvH
def ref01_Sign_S (f : Int_2 → Option Int) : Prop := ∀ (w0 : World) (I0 : Nat → Prop) (x22756 : Int_2) (v22757 : Value) (r22758 : RepS (dI .u32) w0 I0 v22757 x22756.Mag) (hI : ∀ g, I0 g → g < w0.heap.size) (r : Int), f x22756 = some r →
    Ret Tryd.prog 45 #[(.agg #[(.bool x22756.Neg), v22757])] w0 fun v w1 => v = (.int .i64 r) ∧ Ch [] w0 w1
theorem ref01_Sign_ok (n : Nat) : ref01_Sign_S (ref01_Sign n) := by
  intro w0 I0 x22756 v22757 r22758 hI r h
  unfold ref01_Sign at h
  refine enter Tryd.func45 rfl (Nat.le_of_ble_eq_true rfl) ?_
  have hp : Hp ⟨w0, I0, []⟩ I0 [] w0 := Hp.start hI
  apply go
  apply go
  refine ev_boxI hp rfl rfl ?_
  intro p22761 I22762 w22760 hp hs a22763
  replace r22758 := r22758.step hs
  apply go
  apply go
  apply go
  refine ev0 (rn_field rfl rfl FO24_1) ?_
  refine ev (rn_load rfl rfl (run_loadVar1 T22 (a22763.2 1 _ rfl))) ?_
  obtain ⟨x22764, q22765, h⟩ := bind_some h
  refine ev_call rfl rfl C64 (((ref01_trim_ok n) _ _  x22756.Mag v22757 r22758 hp.imm _ q22765).mono ?_)
  rintro _ w22766 ⟨I22767, v22768, e22769, hv, hq, o22770⟩
  replace hv := hv.symm
  subst hv
  have hs := hq.st
  have hp := hp.join0 hq
  replace a22763 := a22763.step hs
  replace r22758 := r22758.step hs
  refine ev0 (x_lenO rfl rfl Tryd.underlying22 o22770) ?_
  apply go
  refine sel_of (fun hc => ?_) (fun hc => ?_)
  ·
    have h := cond_t h hc
    apply go
    apply go
    apply go
    obtain rfl := Option.some.inj h
    exact ⟨rfl, hp.ch⟩
  ·
    have h := cond_f h hc
    apply go
    apply go
    apply go
    apply go
    refine ev0 (rn_field rfl rfl FO24_0) ?_
    refine ev (rn_load rfl rfl (run_loadVar1 T4 (a22763.2 0 _ rfl))) ?_
    apply go
    refine sel_of (fun hc => ?_) (fun hc => ?_)
    ·
      have h := cond_t h hc
      apply go
      apply go
      apply go
      obtain rfl := Option.some.inj h
      exact ⟨rfl, hp.ch⟩
    ·
      have h := cond_f h hc
      apply go
      apply go
      apply go
      apply go
      obtain rfl := Option.some.inj h
      exact ⟨rfl, hp.ch⟩

end Go.Proofs.YtepadjfmcbjkmaaDoor

namespace Go.Proofs.YtepadjfmcbjkmaaDoor
open Go Go.Proofs.YtepadjfmcbjkmaaDoor.Gw Go.RowKit
set_option linter.unusedVariables false
attribute [local irreducible] Ev EvQ EvS EvH
def ref01_Neg_S (f : Int_2 → Option Int_2) : Prop := ∀ (w0 : World) (I0 : Nat → Prop) (x22781 : Int_2) (v22782 : Value) (r22783 : RepS (dI .u32) w0 I0 v22782 x22781.Mag) (hI : ∀ g, I0 g → g < w0.heap.size) (r : Int_2), f x22781 = some r →
    Ret Tryd.prog 50 #[(.agg #[(.bool x22781.Neg), v22782])] w0 fun v w1 => ∃ (I1 : Nat → Prop) (u22784 : Value), v = (.agg #[(.bool r.Neg), u22784]) ∧ Hp ⟨w0, I0, []⟩ I1 [] w1 ∧ RepS (dI .u32) w1 I1 u22784 r.Mag
theorem ref01_Neg_ok (n : Nat) : ref01_Neg_S (ref01_Neg n) := by
  intro w0 I0 x22781 v22782 r22783 hI r h
  unfold ref01_Neg at h
  refine enter Tryd.func50 rfl (Nat.le_of_ble_eq_true rfl) ?_
  have hp : Hp ⟨w0, I0, []⟩ I0 [] w0 := Hp.start hI
  apply go
  apply go
  refine ev_boxI hp rfl rfl ?_
  intro p22787 I22788 w22786 hp hs a22789
  replace r22783 := r22783.step hs
  refine ev_alloc hp rfl T24 ?_
  intro g22790 w22791 hp hs
  replace a22789 := a22789.step hs
  replace r22783 := r22783.step hs
  apply go
  apply go
  refine ev0 (rn_field rfl rfl FO24_0) ?_
  refine ev (rn_load rfl rfl (run_loadVar1 T4 (a22789.2 0 _ rfl))) ?_
  refine ev0 (rn_field rfl rfl FO24_1) ?_
  refine ev (rn_load rfl rfl (run_loadVar1 T22 (a22789.2 1 _ rfl))) ?_
  obtain ⟨A22792, m22793, m22794, rfl⟩ := r22783.isSl
  refine ev0 (fun w => rn_build (cs := [(.bool (!x22781.Neg)), (.slice A22792 m22793 m22794)]) rfl rfl T24 PL24 rfl) ?_
  obtain ⟨x22796, q22797, h⟩ := bind_some h
  refine ev_call rfl rfl C59 (((ref01_Norm_ok n) _ _  (Int_2.mk (!x22781.Neg) x22781.Mag) (.slice A22792 m22793 m22794) r22783 hp.imm _ q22797).mono ?_)
  rintro _ w22798 ⟨I22799, v22800, hv, hq, r22801⟩
  replace hv := hv.symm
  subst hv
  have hs := hq.st
  have hp := hp.join0 hq
  refine ev_storeA hp (i := 0) (off := 0) (vs := [(.bool x22796.Neg), v22800]) rfl rfl rfl rfl T24 rfl (Nat.le_of_ble_eq_true rfl) (ones_cons rfl (ones_cons r22801.one ones_nil)) ?_
  intro w22802 hp hs
  replace r22801 := r22801.step hs
  apply go
  obtain rfl := Option.some.inj h
  refine ⟨_, run_loadVarA T24 rfl (hp.at_ (i := 0) rfl), ?_⟩
  have hp := hp.sel [] (by decide)
  exact ⟨I22799, v22800, rfl, hp, r22801⟩

end Go.Proofs.YtepadjfmcbjkmaaDoor

namespace Go.Proofs.YtepadjfmcbjkmaaDoor
open Go Go.Proofs.YtepadjfmcbjkmaaDoor.Gw Go.RowKit
set_option linter.unusedVariables false
attribute [local irreducible] Ev EvQ EvS EvH
def ref02_One_S (f : Option Int_2) : Prop := ∀ (w0 : World) (I0 : Nat → Prop)  (hI : ∀ g, I0 g → g < w0.heap.size) (r : Int_2), f  = some r →
    Ret Tryd.prog 56 #[] w0 fun v w1 => ∃ (I1 : Nat → Prop) (u22771 : Value), v = (.agg #[(.bool r.Neg), u22771]) ∧ Hp ⟨w0, I0, []⟩ I1 [] w1 ∧ RepS (dI .u32) w1 I1 u22771 r.Mag
theorem ref02_One_ok (n : Nat) : ref02_One_S (ref02_One n) := by
  intro w0 I0 hI r h
  unfold ref02_One at h
  refine enter Tryd.func56 rfl (Nat.le_of_ble_eq_true rfl) ?_
  have hp : Hp ⟨w0, I0, []⟩ I0 [] w0 := Hp.start hI
  apply go
  apply go
  refine ev_alloc hp rfl T24 ?_
  intro g22772 w22773 hp hs
  apply go
  apply go
  obtain ⟨x22774, q22775, h⟩ := bind_some h
  refine ev_call rfl rfl C40 (((ref01_Of_ok n) _ _  1 hp.imm _ q22775).mono ?_)
  rintro _ w22776 ⟨I22777, v22778, hv, hq, r22779⟩
  replace hv := hv.symm
  subst hv
  have hs := hq.st
  have hp := hp.join0 hq
  refine ev_storeA hp (i := 0) (off := 0) (vs := [(.bool x22774.Neg), v22778]) rfl rfl rfl rfl T24 rfl (Nat.le_of_ble_eq_true rfl) (ones_cons rfl (ones_cons r22779.one ones_nil)) ?_
  intro w22780 hp hs
  replace r22779 := r22779.step hs
  apply go
  obtain rfl := Option.some.inj h
  refine ⟨_, run_loadVarA T24 rfl (hp.at_ (i := 0) rfl), ?_⟩
  have hp := hp.sel [] (by decide)
  exact ⟨I22777, v22778, rfl, hp, r22779⟩

end Go.Proofs.YtepadjfmcbjkmaaDoor

namespace Go.Proofs.YtepadjfmcbjkmaaDoor
open Go Go.Proofs.YtepadjfmcbjkmaaDoor.Gw Go.RowKit
set_option linter.unusedVariables false
attribute [local irreducible] Ev EvQ EvS EvH
def ref01_add_S (f : (List Int) → (List Int) → Option (List Int)) : Prop := ∀ (w0 : World) (I0 : Nat → Prop) (x23974 : (List Int)) (v23975 : Value) (r23976 : RepS (dI .u32) w0 I0 v23975 x23974) (x23977 : (List Int)) (v23978 : Value) (r23979 : RepS (dI .u32) w0 I0 v23978 x23977) (hI : ∀ g, I0 g → g < w0.heap.size) (r : (List Int)), f x23974 x23977 = some r →
    Ret Tryd.prog 69 #[v23975, v23978] w0 fun v w1 => ∃ (I1 : Nat → Prop) (u23980 : Value), v = u23980 ∧ Hp ⟨w0, I0, []⟩ I1 [] w1 ∧ RepS (dI .u32) w1 I1 u23980 r
theorem ref01_add_ok (n : Nat) : ref01_add_S (ref01_add n) := by
  intro w0 I0 x23974 v23975 r23976 x23977 v23978 r23979 hI r h
  unfold ref01_add at h
  refine enter Tryd.func69 rfl (Nat.le_of_ble_eq_true rfl) ?_
  have hp : Hp ⟨w0, I0, []⟩ I0 [] w0 := Hp.start hI
  apply go
  apply go
  apply go
  apply go
  apply go
  apply go
  obtain ⟨y24137, q24138, h⟩ := bind_some h
  refine W.cut (γ := ((List Int) × Value × Ent × (Nat → Prop))) (fun g => [(5, (g.2.1))]) (fun g w' => y24137 = (g.1) ∧ Hp ⟨w0, I0, []⟩ (g.2.2.2) [(g.2.2.1)] w' ∧ OwnS (dI .u32) 42 w' (g.2.2.2) (g.2.1) (g.2.2.1) (g.1)) ?_ ?_
  ·
    apply go
    apply go
    apply go
    have hp := hp.none_
    have o24241 := OwnS.nil (dI .u32) 42 w0 I0
    refine W.loop q24138 (γ := (Value × Ent × (Nat → Prop))) (fun s g => [(0, v23975), (1, v23978), (5, (g.1)), (6, (.int .u64 (s.2.1))), (7, (.int .i64 (s.2.2)))]) (fun s g w' => Hp ⟨w0, I0, []⟩ (g.2.2) [(g.2.1)] w' ∧ RepS (dI .u32) w' (g.2.2) v23975 x23974 ∧ RepS (dI .u32) w' (g.2.2) v23978 x23977 ∧ OwnS (dI .u32) 42 w' (g.2.2) (g.1) (g.2.1) (s.1)) ((.slice none 0 0), none, I0) (.c rfl (.c rfl (.c rfl (.c rfl (.c rfl .n))))) ⟨hp, r23976, r23979, o24241⟩ ?_
    rintro ⟨x24183, x24187, x24188⟩ ⟨v24184, e24185, I24189⟩ w24240 y24242 ⟨hp, r23976, r23979, o24186⟩ q24243 q24244
    unfold ref01_add_L1 at q24243
    apply go
    obtain ⟨y24246, q24247, q24243⟩ := bind_some q24243
    refine W.cut (γ := Bool) (fun g => [(0, v23975), (1, v23978), (5, v24184), (6, (.int .u64 x24187)), (7, (.int .i64 x24188)), (21, (.bool (g)))]) (fun g w' => y24246 = (g) ∧ w24240 = w') ?_ ?_
    ·
      apply go
      refine ev0 (rn_len rfl rfl Tryd.underlying22 r23976) ?_
      refine sel_of (fun hc => ?_) (fun hc => ?_)
      ·
        have q24247 := cond_t q24247 hc
        obtain rfl := Option.some.inj q24247
        exact ⟨true, (.c rfl (.c rfl (.c rfl (.c rfl (.c rfl (.c rfl .n)))))), rfl, rfl⟩
      ·
        have q24247 := cond_f q24247 hc
        refine ev0 (rn_len rfl rfl Tryd.underlying22 r23979) ?_
        refine sel_of (fun hc => ?_) (fun hc => ?_)
        ·
          have q24247 := cond_t q24247 hc
          obtain rfl := Option.some.inj q24247
          exact ⟨true, (.c rfl (.c rfl (.c rfl (.c rfl (.c rfl (.c rfl .n)))))), rfl, rfl⟩
        ·
          have q24247 := cond_f q24247 hc
          obtain rfl := Option.some.inj q24247
          exact ⟨(decide (x24187 > 0)), (.c rfl (.c rfl (.c rfl (.c rfl (.c rfl (.c rfl .n)))))), rfl, rfl⟩
    ·
      rintro x24245 _ ⟨hy, rfl⟩
      replace hy := hy.symm
      subst hy
      apply go
      refine sel_of (fun hc => ?_) (fun hc => ?_)
      ·
        have q24243 := cond_t q24243 hc
        apply go
        apply go
        apply go
        obtain ⟨y24255, q24256, q24243⟩ := bind_some q24243
        refine W.cut (γ := Int) (fun g => [(0, v23975), (1, v23978), (5, v24184), (6, (.int .u64 (g))), (7, (.int .i64 x24188))]) (fun g w' => y24255 = (g) ∧ w24240 = w') ?_ ?_
        ·
          apply go
          apply go
          refine ev0 (rn_len rfl rfl Tryd.underlying22 r23976) ?_
          apply go
          refine sel_of (fun hc => ?_) (fun hc => ?_)
          ·
            have q24256 := cond_t q24256 hc
            apply go
            obtain ⟨x24257, q24258, q24256⟩ := bind_some q24256
            refine ev_index rfl rfl rfl Tryd.underlying22 T42 r23976 q24258 ?_
            intro p24259 c24260 d24261 a24262
            obtain rfl : c24260 = [(.int .u32 x24257)] := d24261
            refine ev (rn_load rfl rfl (run_loadVar1 T42 (a24262.2 0 _ rfl))) ?_
            refine ev0 (rn_conv rfl rfl U42 Tryd.underlying68) ?_
            obtain rfl := Option.some.inj q24256
            exact ⟨(IntKind.u64.wrap (x24187 + (IntKind.u64.wrap x24257))), (.c rfl (.c rfl (.c rfl (.c rfl (.c rfl .n))))), rfl, rfl⟩
          ·
            have q24256 := cond_f q24256 hc
            apply go
            obtain rfl := Option.some.inj q24256
            exact ⟨x24187, (.c rfl (.c rfl (.c rfl (.c rfl (.c rfl .n))))), rfl, rfl⟩
        ·
          rintro x24254 _ ⟨hy, rfl⟩
          replace hy := hy.symm
          subst hy
          obtain ⟨y24270, q24271, q24243⟩ := bind_some q24243
          refine W.cut (γ := Int) (fun g => [(0, v23975), (1, v23978), (5, v24184), (6, (.int .u64 (g))), (7, (.int .i64 x24188))]) (fun g w' => y24270 = (g) ∧ w24240 = w') ?_ ?_
          ·
            apply go
            apply go
            refine ev0 (rn_len rfl rfl Tryd.underlying22 r23979) ?_
            apply go
            refine sel_of (fun hc => ?_) (fun hc => ?_)
            ·
              have q24271 := cond_t q24271 hc
              apply go
              obtain ⟨x24272, q24273, q24271⟩ := bind_some q24271
              refine ev_index rfl rfl rfl Tryd.underlying22 T42 r23979 q24273 ?_
              intro p24274 c24275 d24276 a24277
              obtain rfl : c24275 = [(.int .u32 x24272)] := d24276
              refine ev (rn_load rfl rfl (run_loadVar1 T42 (a24277.2 0 _ rfl))) ?_
              refine ev0 (rn_conv rfl rfl U42 Tryd.underlying68) ?_
              obtain rfl := Option.some.inj q24271
              exact ⟨(IntKind.u64.wrap (x24254 + (IntKind.u64.wrap x24272))), (.c rfl (.c rfl (.c rfl (.c rfl (.c rfl .n))))), rfl, rfl⟩
            ·
              have q24271 := cond_f q24271 hc
              apply go
              obtain rfl := Option.some.inj q24271
              exact ⟨x24254, (.c rfl (.c rfl (.c rfl (.c rfl (.c rfl .n))))), rfl, rfl⟩
          ·
            rintro x24269 _ ⟨hy, rfl⟩
            replace hy := hy.symm
            subst hy
            apply go
            apply go
            refine ev0 (rn_conv rfl rfl U68 Tryd.underlying42) ?_
            refine ev_litN (d := (dI .u32)) (xs := [(IntKind.u32.wrap x24269)]) (cs := [(.int .u32 (IntKind.u32.wrap x24269))]) hp rfl rfl Tryd.underlying22 T42 (by decide) rfl rfl (Elems.cons (d := (dI .u32)) (xs := _) rfl (Elems.nil _ _ _ _)) ?_
            intro v24278 I24280 w24279 hp hs r24281
            replace r23976 := r23976.step hs
            replace r23979 := r23979.step hs
            replace o24186 := o24186.step hs
            obtain ⟨x24282, q24283, q24243⟩ := bind_some q24243
            refine ev_append hp (i := 0) rfl rfl rfl rfl Tryd.underlying22 T42 rfl rfl o24186 r24281 q24283 ?_
            rintro v24284 e24285 w24286 hp hs o24287
            replace r23976 := r23976.step hs
            replace r23979 := r23979.step hs
            apply go
            refine ⟨by decide, ?_⟩
            apply go
            exact ⟨_, (Option.some.inj q24243).symm, (v24284, e24285, I24280), (.c rfl (.c rfl (.c rfl (.c rfl (.c rfl .n))))), ⟨hp, r23976, r23979, o24287⟩⟩
      ·
        have q24243 := cond_f q24243 hc
        apply go
        have q24288 := congrArg some (q24244 _ (Option.some.inj q24243).symm)
        obtain rfl := Option.some.inj q24288
        exact ⟨(x24183, v24184, e24185, I24189), (.c rfl .n), rfl, hp, o24186⟩
  ·
    rintro ⟨x24131, v24132, e24133, I24135⟩ w24136 ⟨hy, hp, o24134⟩
    replace hy := hy.symm
    subst hy
    apply go
    apply go
    have r24289 := o24134.frz hp (i := 0) rfl
    obtain ⟨hp, hs⟩ := freeze_hp hp (i := 0) rfl
    have hp := hp.sel [] (by decide)
    obtain ⟨x24290, q24291, h⟩ := bind_some h
    refine ev_call rfl rfl C64 (((ref01_trim_ok n) _ _  x24131 v24132 r24289 hp.imm _ q24291).mono ?_)
    rintro _ w24292 ⟨I24293, v24294, e24295, hv, hq, o24296⟩
    replace hv := hv.symm
    subst hv
    have hs := hq.st
    have hp := hp.join0 hq
    apply go
    obtain rfl := Option.some.inj h
    have r24297 := o24296.frz hp (i := 0) rfl
    obtain ⟨hp, hs⟩ := freeze_hp hp (i := 0) rfl
    have hp := hp.sel [] (by decide)
    exact ⟨(Ad I24293 e24295), v24294, rfl, hp, r24297⟩

end Go.Proofs.YtepadjfmcbjkmaaDoor

namespace Go.Proofs.YtepadjfmcbjkmaaDoor
open Go Go.Proofs.YtepadjfmcbjkmaaDoor.Gw Go.RowKit
set_option linter.unusedVariables false
attribute [local irreducible] Ev EvQ EvS EvH
def ref01_cmp_S (f : (List Int) → (List Int) → Option Int) : Prop := ∀ (w0 : World) (I0 : Nat → Prop) (x23515 : (List Int)) (v23516 : Value) (r23517 : RepS (dI .u32) w0 I0 v23516 x23515) (x23518 : (List Int)) (v23519 : Value) (r23520 : RepS (dI .u32) w0 I0 v23519 x23518) (hI : ∀ g, I0 g → g < w0.heap.size) (r : Int), f x23515 x23518 = some r →
    Ret Tryd.prog 70 #[v23516, v23519] w0 fun v w1 => v = (.int .i64 r) ∧ Ch [] w0 w1
theorem ref01_cmp_ok (n : Nat) : ref01_cmp_S (ref01_cmp n) := by
  intro w0 I0 x23515 v23516 r23517 x23518 v23519 r23520 hI r h
  unfold ref01_cmp at h
  refine enter Tryd.func70 rfl (Nat.le_of_ble_eq_true rfl) ?_
  have hp : Hp ⟨w0, I0, []⟩ I0 [] w0 := Hp.start hI
  apply go
  apply go
  apply go
  apply go
  apply go
  refine ev0 (rn_len rfl rfl Tryd.underlying22 r23517) ?_
  refine ev0 (rn_len rfl rfl Tryd.underlying22 r23520) ?_
  apply go
  refine sel_of (fun hc => ?_) (fun hc => ?_)
  ·
    have h := cond_t h hc
    apply go
    apply go
    apply go
    refine ev0 (rn_len rfl rfl Tryd.underlying22 r23517) ?_
    refine ev0 (rn_len rfl rfl Tryd.underlying22 r23520) ?_
    apply go
    refine sel_of (fun hc => ?_) (fun hc => ?_)
    ·
      have h := cond_t h hc
      apply go
      apply go
      apply go
      obtain rfl := Option.some.inj h
      exact ⟨rfl, hp.ch⟩
    ·
      have h := cond_f h hc
      apply go
      apply go
      apply go
      apply go
      obtain rfl := Option.some.inj h
      exact ⟨rfl, hp.ch⟩
  ·
    have h := cond_f h hc
    apply go
    obtain ⟨y23609, q23610, h⟩ := bind_some h
    refine W.cut (γ := Unit) (fun _ => []) (fun _ w' => y23609 = .go () ∧ Hp ⟨w0, I0, []⟩ I0 [] w') ?_ ?_
    ·
      apply go
      apply go
      refine ev0 (rn_len rfl rfl Tryd.underlying22 r23517) ?_
      apply go
      refine W.loop q23610 (γ := Unit) (fun s _ => [(0, v23516), (1, v23519), (5, (.int .i64 (s)))]) (fun s _ w' => Hp ⟨w0, I0, []⟩ I0 [] w' ∧ RepS (dI .u32) w' I0 v23516 x23515 ∧ RepS (dI .u32) w' I0 v23519 x23518) () (.c rfl (.c rfl (.c rfl .n))) ⟨hp, r23517, r23520⟩ ?_
      rintro x23637 ⟨⟩ w23665 y23666 ⟨hp, r23517, r23520⟩ q23667 q23668
      unfold ref01_cmp_L1 at q23667
      apply go
      apply go
      apply go
      apply go
      refine sel_of (fun hc => ?_) (fun hc => ?_)
      ·
        have q23667 := cond_t q23667 hc
        apply go
        apply go
        apply go
        apply go
        apply go
        refine W.quiet (fun w' => Ch [] w23665 w') MX (by kernel_rfl) (Ch.drew [] w23665) ?_
        obtain ⟨x23669, q23670, q23667⟩ := bind_some q23667
        refine evq_index rfl rfl rfl Tryd.underlying22 T42 r23517 q23670 ?_
        intro p23671 c23672 d23673 a23674
        obtain rfl : c23672 = [(.int .u32 x23669)] := d23673
        refine evq (fun w' hw => rn_load rfl rfl (run_loadVar1 T42 ((a23674.step (hp.stp hw)).2 0 _ rfl))) ?_
        obtain ⟨x23675, q23676, q23667⟩ := bind_some q23667
        refine evq_index rfl rfl rfl Tryd.underlying22 T42 r23520 q23676 ?_
        intro p23677 c23678 d23679 a23680
        obtain rfl : c23678 = [(.int .u32 x23675)] := d23679
        refine evq (fun w' hw => rn_load rfl rfl (run_loadVar1 T42 ((a23680.step (hp.stp hw)).2 0 _ rfl))) ?_
        intro w23681 hc
        have hs := hp.stp hc
        replace hp := hp.ext hc
        replace r23517 := r23517.step hs
        replace r23520 := r23520.step hs
        apply go
        refine sel_of (fun hc => ?_) (fun hc => ?_)
        ·
          have q23667 := cond_t q23667 hc
          apply go
          apply go
          apply go
          have q23682 := congrArg some (q23668 _ (Option.some.inj q23667).symm)
          obtain rfl := Option.some.inj q23682
          obtain rfl := Option.some.inj h
          exact ⟨rfl, hp.ch⟩
        ·
          have q23667 := cond_f q23667 hc
          apply go
          apply go
          refine W.quiet (fun w' => Ch [] w23681 w') MX (by kernel_rfl) (Ch.drew [] w23681) ?_
          obtain ⟨x23683, q23684, q23667⟩ := bind_some q23667
          refine evq_index rfl rfl rfl Tryd.underlying22 T42 r23517 q23684 ?_
          intro p23685 c23686 d23687 a23688
          obtain rfl : c23686 = [(.int .u32 x23683)] := d23687
          refine evq (fun w' hw => rn_load rfl rfl (run_loadVar1 T42 ((a23688.step (hp.stp hw)).2 0 _ rfl))) ?_
          obtain ⟨x23689, q23690, q23667⟩ := bind_some q23667
          refine evq_index rfl rfl rfl Tryd.underlying22 T42 r23520 q23690 ?_
          intro p23691 c23692 d23693 a23694
          obtain rfl : c23692 = [(.int .u32 x23689)] := d23693
          refine evq (fun w' hw => rn_load rfl rfl (run_loadVar1 T42 ((a23694.step (hp.stp hw)).2 0 _ rfl))) ?_
          intro w23695 hc
          have hs := hp.stp hc
          replace hp := hp.ext hc
          replace r23517 := r23517.step hs
          replace r23520 := r23520.step hs
          apply go
          refine sel_of (fun hc => ?_) (fun hc => ?_)
          ·
            have q23667 := cond_t q23667 hc
            apply go
            apply go
            apply go
            have q23696 := congrArg some (q23668 _ (Option.some.inj q23667).symm)
            obtain rfl := Option.some.inj q23696
            obtain rfl := Option.some.inj h
            exact ⟨rfl, hp.ch⟩
          ·
            have q23667 := cond_f q23667 hc
            apply go
            apply go
            exact ⟨_, (Option.some.inj q23667).symm, (), (.c rfl (.c rfl (.c rfl .n))), ⟨hp, r23517, r23520⟩⟩
      ·
        have q23667 := cond_f q23667 hc
        apply go
        have q23697 := congrArg some (q23668 _ (Option.some.inj q23667).symm)
        obtain rfl := Option.some.inj q23697
        exact ⟨(), .n, rfl, hp⟩
    ·
      rintro ⟨⟩ w23608 ⟨hy, hp⟩
      replace hy := hy.symm
      subst hy
      apply go
      apply go
      apply go
      obtain rfl := Option.some.inj h
      exact ⟨rfl, hp.ch⟩

end Go.Proofs.YtepadjfmcbjkmaaDoor

namespace Go.Proofs.YtepadjfmcbjkmaaDoor
open Go Go.Proofs.YtepadjfmcbjkmaaDoor.Gw Go.RowKit
set_option linter.unusedVariables false
attribute [local irreducible] Ev EvQ EvS EvH
def ref01_sub_S (f : (List Int) → (List Int) → Option (List Int)) : Prop := ∀ (w0 : World) (I0 : Nat → Prop) (x23698 : (List Int)) (v23699 : Value) (r23700 : RepS (dI .u32) w0 I0 v23699 x23698) (x23701 : (List Int)) (v23702 : Value) (r23703 : RepS (dI .u32) w0 I0 v23702 x23701) (hI : ∀ g, I0 g → g < w0.heap.size) (r : (List Int)), f x23698 x23701 = some r →
    Ret Tryd.prog 71 #[v23699, v23702] w0 fun v w1 => ∃ (I1 : Nat → Prop) (u23704 : Value), v = u23704 ∧ Hp ⟨w0, I0, []⟩ I1 [] w1 ∧ RepS (dI .u32) w1 I1 u23704 r
theorem ref01_sub_ok (n : Nat) : ref01_sub_S (ref01_sub n) := by
  intro w0 I0 x23698 v23699 r23700 x23701 v23702 r23703 hI r h
  unfold ref01_sub at h
  refine enter Tryd.func71 rfl (Nat.le_of_ble_eq_true rfl) ?_
  have hp : Hp ⟨w0, I0, []⟩ I0 [] w0 := Hp.start hI
  apply go
  apply go
  apply go
  apply go
  apply go
  apply go
  obtain ⟨y23837, q23838, h⟩ := bind_some h
  refine W.cut (γ := ((List Int) × Value × Ent × (Nat → Prop))) (fun g => [(5, (g.2.1))]) (fun g w' => y23837 = (g.1) ∧ Hp ⟨w0, I0, []⟩ (g.2.2.2) [(g.2.2.1)] w' ∧ OwnS (dI .u32) 42 w' (g.2.2.2) (g.2.1) (g.2.2.1) (g.1)) ?_ ?_
  ·
    apply go
    apply go
    apply go
    have hp := hp.none_
    have o23925 := OwnS.nil (dI .u32) 42 w0 I0
    refine W.loop q23838 (γ := (Value × Ent × (Nat → Prop))) (fun s g => [(0, v23699), (1, v23702), (5, (g.1)), (6, (.int .i64 (s.2.1))), (7, (.int .i64 (s.2.2)))]) (fun s g w' => Hp ⟨w0, I0, []⟩ (g.2.2) [(g.2.1)] w' ∧ RepS (dI .u32) w' (g.2.2) v23699 x23698 ∧ RepS (dI .u32) w' (g.2.2) v23702 x23701 ∧ OwnS (dI .u32) 42 w' (g.2.2) (g.1) (g.2.1) (s.1)) ((.slice none 0 0), none, I0) (.c rfl (.c rfl (.c rfl (.c rfl (.c rfl .n))))) ⟨hp, r23700, r23703, o23925⟩ ?_
    rintro ⟨x23875, x23879, x23880⟩ ⟨v23876, e23877, I23881⟩ w23924 y23926 ⟨hp, r23700, r23703, o23878⟩ q23927 q23928
    unfold ref01_sub_L1 at q23927
    apply go
    apply go
    apply go
    refine ev0 (rn_len rfl rfl Tryd.underlying22 r23700) ?_
    apply go
    refine sel_of (fun hc => ?_) (fun hc => ?_)
    ·
      have q23927 := cond_t q23927 hc
      apply go
      apply go
      apply go
      apply go
      apply go
      obtain ⟨x23929, q23930, q23927⟩ := bind_some q23927
      refine ev_index rfl rfl rfl Tryd.underlying22 T42 r23700 q23930 ?_
      intro p23931 c23932 d23933 a23934
      obtain rfl : c23932 = [(.int .u32 x23929)] := d23933
      refine ev (rn_load rfl rfl (run_loadVar1 T42 (a23934.2 0 _ rfl))) ?_
      refine ev0 (rn_conv rfl rfl U42 Tryd.underlying2) ?_
      obtain ⟨y23942, q23943, q23927⟩ := bind_some q23927
      refine W.cut (γ := Int) (fun g => [(0, v23699), (1, v23702), (5, v23876), (7, (.int .i64 x23880)), (8, (.int .i64 (g)))]) (fun g w' => y23942 = (g) ∧ w23924 = w') ?_ ?_
      ·
        apply go
        apply go
        refine ev0 (rn_len rfl rfl Tryd.underlying22 r23703) ?_
        apply go
        refine sel_of (fun hc => ?_) (fun hc => ?_)
        ·
          have q23943 := cond_t q23943 hc
          apply go
          obtain ⟨x23944, q23945, q23943⟩ := bind_some q23943
          refine ev_index rfl rfl rfl Tryd.underlying22 T42 r23703 q23945 ?_
          intro p23946 c23947 d23948 a23949
          obtain rfl : c23947 = [(.int .u32 x23944)] := d23948
          refine ev (rn_load rfl rfl (run_loadVar1 T42 (a23949.2 0 _ rfl))) ?_
          refine ev0 (rn_conv rfl rfl U42 Tryd.underlying2) ?_
          obtain rfl := Option.some.inj q23943
          exact ⟨(IntKind.i64.wrap ((IntKind.i64.wrap ((IntKind.i64.wrap x23929) - x23879)) - (IntKind.i64.wrap x23944))), (.c rfl (.c rfl (.c rfl (.c rfl (.c rfl .n))))), rfl, rfl⟩
        ·
          have q23943 := cond_f q23943 hc
          apply go
          obtain rfl := Option.some.inj q23943
          exact ⟨(IntKind.i64.wrap ((IntKind.i64.wrap x23929) - x23879)), (.c rfl (.c rfl (.c rfl (.c rfl (.c rfl .n))))), rfl, rfl⟩
      ·
        rintro x23941 _ ⟨hy, rfl⟩
        replace hy := hy.symm
        subst hy
        apply go
        apply go
        obtain ⟨y23952, q23953, q23927⟩ := bind_some q23927
        refine W.cut (γ := (Int × Int)) (fun g => [(0, v23699), (1, v23702), (5, v23876), (6, (.int .i64 (g.1))), (7, (.int .i64 x23880)), (8, (.int .i64 (g.2)))]) (fun g w' => y23952 = ((g.1), (g.2)) ∧ w23924 = w') ?_ ?_
        ·
          apply go
          apply go
          apply go
          refine sel_of (fun hc => ?_) (fun hc => ?_)
          ·
            have q23953 := cond_t q23953 hc
            apply go
            apply go
            apply go
            obtain rfl := Option.some.inj q23953
            exact ⟨(1, (IntKind.i64.wrap (x23941 + 4294967296))), (.c rfl (.c rfl (.c rfl (.c rfl (.c rfl (.c rfl .n)))))), rfl, rfl⟩
          ·
            have q23953 := cond_f q23953 hc
            apply go
            obtain rfl := Option.some.inj q23953
            exact ⟨(0, x23941), (.c rfl (.c rfl (.c rfl (.c rfl (.c rfl (.c rfl .n)))))), rfl, rfl⟩
        ·
          rintro ⟨x23950, x23951⟩ _ ⟨hy, rfl⟩
          replace hy := hy.symm
          subst hy
          apply go
          refine ev0 (rn_conv rfl rfl U2 Tryd.underlying42) ?_
          refine ev_litN (d := (dI .u32)) (xs := [(IntKind.u32.wrap x23951)]) (cs := [(.int .u32 (IntKind.u32.wrap x23951))]) hp rfl rfl Tryd.underlying22 T42 (by decide) rfl rfl (Elems.cons (d := (dI .u32)) (xs := _) rfl (Elems.nil _ _ _ _)) ?_
          intro v23954 I23956 w23955 hp hs r23957
          replace r23700 := r23700.step hs
          replace r23703 := r23703.step hs
          replace o23878 := o23878.step hs
          obtain ⟨x23958, q23959, q23927⟩ := bind_some q23927
          refine ev_append hp (i := 0) rfl rfl rfl rfl Tryd.underlying22 T42 rfl rfl o23878 r23957 q23959 ?_
          rintro v23960 e23961 w23962 hp hs o23963
          replace r23700 := r23700.step hs
          replace r23703 := r23703.step hs
          apply go
          exact ⟨_, (Option.some.inj q23927).symm, (v23960, e23961, I23956), (.c rfl (.c rfl (.c rfl (.c rfl (.c rfl .n))))), ⟨hp, r23700, r23703, o23963⟩⟩
    ·
      have q23927 := cond_f q23927 hc
      apply go
      have q23964 := congrArg some (q23928 _ (Option.some.inj q23927).symm)
      obtain rfl := Option.some.inj q23964
      exact ⟨(x23875, v23876, e23877, I23881), (.c rfl .n), rfl, hp, o23878⟩
  ·
    rintro ⟨x23831, v23832, e23833, I23835⟩ w23836 ⟨hy, hp, o23834⟩
    replace hy := hy.symm
    subst hy
    apply go
    apply go
    have r23965 := o23834.frz hp (i := 0) rfl
    obtain ⟨hp, hs⟩ := freeze_hp hp (i := 0) rfl
    have hp := hp.sel [] (by decide)
    obtain ⟨x23966, q23967, h⟩ := bind_some h
    refine ev_call rfl rfl C64 (((ref01_trim_ok n) _ _  x23831 v23832 r23965 hp.imm _ q23967).mono ?_)
    rintro _ w23968 ⟨I23969, v23970, e23971, hv, hq, o23972⟩
    replace hv := hv.symm
    subst hv
    have hs := hq.st
    have hp := hp.join0 hq
    apply go
    obtain rfl := Option.some.inj h
    have r23973 := o23972.frz hp (i := 0) rfl
    obtain ⟨hp, hs⟩ := freeze_hp hp (i := 0) rfl
    have hp := hp.sel [] (by decide)
    exact ⟨(Ad I23969 e23971), v23970, rfl, hp, r23973⟩

end Go.Proofs.YtepadjfmcbjkmaaDoor

namespace Go.Proofs.YtepadjfmcbjkmaaDoor
open Go Go.Proofs.YtepadjfmcbjkmaaDoor.Gw Go.RowKit
set_option linter.unusedVariables false
attribute [local irreducible] Ev EvQ EvS EvH
def ref01_Abs_S (f : Int_2 → Option Int_2) : Prop := ∀ (w0 : World) (I0 : Nat → Prop) (x22803 : Int_2) (v22804 : Value) (r22805 : RepS (dI .u32) w0 I0 v22804 x22803.Mag) (hI : ∀ g, I0 g → g < w0.heap.size) (r : Int_2), f x22803 = some r →
    Ret Tryd.prog 77 #[(.agg #[(.bool x22803.Neg), v22804])] w0 fun v w1 => ∃ (I1 : Nat → Prop) (u22806 : Value), v = (.agg #[(.bool r.Neg), u22806]) ∧ Hp ⟨w0, I0, []⟩ I1 [] w1 ∧ RepS (dI .u32) w1 I1 u22806 r.Mag
theorem ref01_Abs_ok (n : Nat) : ref01_Abs_S (ref01_Abs n) := by
  intro w0 I0 x22803 v22804 r22805 hI r h
  unfold ref01_Abs at h
  refine enter Tryd.func77 rfl (Nat.le_of_ble_eq_true rfl) ?_
  have hp : Hp ⟨w0, I0, []⟩ I0 [] w0 := Hp.start hI
  apply go
  apply go
  refine ev_boxI hp rfl rfl ?_
  intro p22809 I22810 w22808 hp hs a22811
  replace r22805 := r22805.step hs
  refine ev_alloc hp rfl T24 ?_
  intro g22812 w22813 hp hs
  replace a22811 := a22811.step hs
  replace r22805 := r22805.step hs
  apply go
  apply go
  refine ev0 (rn_field rfl rfl FO24_1) ?_
  refine ev (rn_load rfl rfl (run_loadVar1 T22 (a22811.2 1 _ rfl))) ?_
  obtain ⟨A22814, m22815, m22816, rfl⟩ := r22805.isSl
  refine ev0 (fun w => rn_build (cs := [(.bool false), (.slice A22814 m22815 m22816)]) rfl rfl T24 PL24 rfl) ?_
  obtain ⟨x22818, q22819, h⟩ := bind_some h
  refine ev_call rfl rfl C59 (((ref01_Norm_ok n) _ _  (Int_2.mk false x22803.Mag) (.slice A22814 m22815 m22816) r22805 hp.imm _ q22819).mono ?_)
  rintro _ w22820 ⟨I22821, v22822, hv, hq, r22823⟩
  replace hv := hv.symm
  subst hv
  have hs := hq.st
  have hp := hp.join0 hq
  refine ev_storeA hp (i := 0) (off := 0) (vs := [(.bool x22818.Neg), v22822]) rfl rfl rfl rfl T24 rfl (Nat.le_of_ble_eq_true rfl) (ones_cons rfl (ones_cons r22823.one ones_nil)) ?_
  intro w22824 hp hs
  replace r22823 := r22823.step hs
  apply go
  obtain rfl := Option.some.inj h
  refine ⟨_, run_loadVarA T24 rfl (hp.at_ (i := 0) rfl), ?_⟩
  have hp := hp.sel [] (by decide)
  exact ⟨I22821, v22822, rfl, hp, r22823⟩

end Go.Proofs.YtepadjfmcbjkmaaDoor

namespace Go.Proofs.YtepadjfmcbjkmaaDoor
open Go Go.Proofs.YtepadjfmcbjkmaaDoor.Gw Go.RowKit
set_option linter.unusedVariables false
attribute [local irreducible] Ev EvQ EvS EvH
def ref01_half_S (f : (List Int) → Option (List Int)) : Prop := ∀ (w0 : World) (I0 : Nat → Prop) (x22825 : (List Int)) (v22826 : Value) (r22827 : RepS (dI .u32) w0 I0 v22826 x22825) (hI : ∀ g, I0 g → g < w0.heap.size) (r : (List Int)), f x22825 = some r →
    Ret Tryd.prog 78 #[v22826] w0 fun v w1 => ∃ (I1 : Nat → Prop) (u22828 : Value), v = u22828 ∧ Hp ⟨w0, I0, []⟩ I1 [] w1 ∧ RepS (dI .u32) w1 I1 u22828 r
theorem ref01_half_ok (n : Nat) : ref01_half_S (ref01_half n) := by
  intro w0 I0 x22825 v22826 r22827 hI r h
  unfold ref01_half at h
  refine enter Tryd.func78 rfl (Nat.le_of_ble_eq_true rfl) ?_
  have hp : Hp ⟨w0, I0, []⟩ I0 [] w0 := Hp.start hI
  apply go
  apply go
  apply go
  apply go
  refine ev_litON (d := (dI .u32)) (xs := ([] : List Int)) (cs := []) hp rfl rfl Tryd.underlying22 T42 (by decide) (by decide) rfl rfl (Elems.nil _ _ _ _) ?_
  intro v22829 e22831 w22830 hp hs o22832
  replace r22827 := r22827.step hs
  obtain ⟨x22833, q22834, h⟩ := bind_some h
  refine ev_append hp (i := 0) rfl rfl rfl rfl Tryd.underlying22 T42 rfl rfl o22832 r22827 q22834 ?_
  rintro v22835 e22836 w22837 hp hs o22838
  replace r22827 := r22827.step hs
  obtain ⟨y23174, q23175, h⟩ := bind_some h
  refine W.cut (γ := ((List Int) × Ent)) (fun g => [(3, v22835)]) (fun g w' => y23174 = (g.1) ∧ Hp ⟨w0, I0, []⟩ I0 [(g.2)] w' ∧ OwnS (dI .u32) 42 w' I0 v22835 (g.2) (g.1)) ?_ ?_
  ·
    apply go
    apply go
    apply go
    refine W.loop q23175 (γ := Ent) (fun s g => [(0, v22826), (3, v22835), (4, (.int .i64 (s.2)))]) (fun s g w' => Hp ⟨w0, I0, []⟩ I0 [(g)] w' ∧ RepS (dI .u32) w' I0 v22826 x22825 ∧ OwnS (dI .u32) 42 w' I0 v22835 (g) (s.1)) e22836 (.c rfl (.c rfl (.c rfl .n))) ⟨hp, r22827, o22838⟩ ?_
    rintro ⟨x23281, x23285⟩ e23283 w23396 y23397 ⟨hp, r22827, o23284⟩ q23398 q23399
    unfold ref01_half_L1 at q23398
    apply go
    apply go
    apply go
    refine ev0 (x_lenO rfl rfl Tryd.underlying22 o23284) ?_
    apply go
    refine sel_of (fun hc => ?_) (fun hc => ?_)
    ·
      have q23398 := cond_t q23398 hc
      apply go
      obtain ⟨y23454, q23455, q23398⟩ := bind_some q23398
      refine W.cut (γ := ((List Int) × Ent)) (fun g => [(0, v22826), (3, v22835), (4, (.int .i64 x23285))]) (fun g w' => y23454 = (g.1) ∧ Hp ⟨w0, I0, []⟩ I0 [(g.2)] w' ∧ RepS (dI .u32) w' I0 v22826 x22825 ∧ OwnS (dI .u32) 42 w' I0 v22835 (g.2) (g.1)) ?_ ?_
      ·
        apply go
        apply go
        apply go
        obtain ⟨x23456, q23457, q23455⟩ := bind_some q23455
        refine ev_indexO rfl rfl rfl Tryd.underlying22 T42 o23284 q23457 ?_
        intro g23458 c23459 h23462 d23460 l23461
        refine ev (rn_load rfl rfl (run_loadVar1 T42 (hp.cellE (i := 0) rfl h23462 d23460 (j := 0) rfl))) ?_
        refine ⟨by decide, ?_⟩
        obtain ⟨x23464, q23465, q23455⟩ := bind_some q23455
        refine ev_indexO rfl rfl rfl Tryd.underlying22 T42 o23284 q23465 ?_
        intro g23466 c23467 h23470 d23468 l23469
        refine ev_storeE hp (i := 0) rfl h23470 rfl rfl rfl T42 o23284 q23465 (x0 := (x23456.fdiv (2 ^ min (1 : Int).toNat (IntKind.u32).bits))) rfl ?_
        intro e23473 w23472 hp hs o23474
        replace r22827 := r22827.step hs
        apply go
        apply go
        refine ev0 (rn_len rfl rfl Tryd.underlying22 r22827) ?_
        apply go
        refine sel_of (fun hc => ?_) (fun hc => ?_)
        ·
          have q23455 := cond_t q23455 hc
          have hs := hp.stp (Ch.drew [] w23472)
          have hp := hp.drew
          replace r22827 := r22827.step hs
          replace o23474 := o23474.step hs
          refine W.tail 15 MX (by kernel_rfl) ?_
          obtain ⟨x23478, q23479, q23455⟩ := bind_some q23455
          refine evs_indexO rfl rfl rfl Tryd.underlying22 T42 o23474 q23479 ?_
          intro g23480 c23481 h23484 d23482 l23483
          refine evs (rn_load rfl rfl (run_loadVar1 T42 (hp.cellE (i := 0) rfl h23484 d23482 (j := 0) rfl))) ?_
          obtain ⟨x23486, q23487, q23455⟩ := bind_some q23455
          refine evs_index rfl rfl rfl Tryd.underlying22 T42 r22827 q23487 ?_
          intro p23488 c23489 d23490 a23491
          obtain rfl : c23489 = [(.int .u32 x23486)] := d23490
          refine evs (rn_load rfl rfl (run_loadVar1 T42 (a23491.2 0 _ rfl))) ?_
          refine ⟨by decide, ?_⟩
          refine ⟨by decide, ?_⟩
          obtain ⟨x23492, q23493, q23455⟩ := bind_some q23455
          refine evs_indexO rfl rfl rfl Tryd.underlying22 T42 o23474 q23493 ?_
          intro g23494 c23495 h23498 d23496 l23497
          refine ev_storeE hp (i := 0) rfl h23498 rfl rfl rfl T42 o23474 q23493 (x0 := (IntKind.u32.wrap (x23478 + (IntKind.u32.wrap ((x23486.tmod 2) * 2 ^ min (31 : Int).toNat (IntKind.u32).bits))))) rfl ?_
          intro e23501 w23500 hp hs o23502
          replace r22827 := r22827.step hs
          obtain rfl := Option.some.inj q23455
          exact ⟨((upd (upd x23281 x23285 (x23456.fdiv (2 ^ min (1 : Int).toNat (IntKind.u32).bits))) x23285 (IntKind.u32.wrap (x23478 + (IntKind.u32.wrap ((x23486.tmod 2) * 2 ^ min (31 : Int).toNat (IntKind.u32).bits))))), e23501), (.c rfl (.c rfl (.c rfl .n))), rfl, hp, r22827, o23502⟩
        ·
          have q23455 := cond_f q23455 hc
          apply go
          obtain rfl := Option.some.inj q23455
          exact ⟨((upd x23281 x23285 (x23456.fdiv (2 ^ min (1 : Int).toNat (IntKind.u32).bits))), e23473), (.c rfl (.c rfl (.c rfl .n))), rfl, hp, r22827, o23474⟩
      ·
        rintro ⟨x23449, e23451⟩ w23453 ⟨hy, hp, r22827, o23452⟩
        replace hy := hy.symm
        subst hy
        apply go
        exact ⟨_, (Option.some.inj q23398).symm, e23451, (.c rfl (.c rfl (.c rfl .n))), ⟨hp, r22827, o23452⟩⟩
    ·
      have q23398 := cond_f q23398 hc
      apply go
      have q23505 := congrArg some (q23399 _ (Option.some.inj q23398).symm)
      obtain rfl := Option.some.inj q23505
      exact ⟨(x23281, e23283), (.c rfl .n), rfl, hp, o23284⟩
  ·
    rintro ⟨x23169, e23171⟩ w23173 ⟨hy, hp, o23172⟩
    replace hy := hy.symm
    subst hy
    apply go
    apply go
    have r23506 := o23172.frz hp (i := 0) rfl
    obtain ⟨hp, hs⟩ := freeze_hp hp (i := 0) rfl
    have hp := hp.sel [] (by decide)
    obtain ⟨x23507, q23508, h⟩ := bind_some h
    refine ev_call rfl rfl C64 (((ref01_trim_ok n) _ _  x23169 v22835 r23506 hp.imm _ q23508).mono ?_)
    rintro _ w23509 ⟨I23510, v23511, e23512, hv, hq, o23513⟩
    replace hv := hv.symm
    subst hv
    have hs := hq.st
    have hp := hp.join0 hq
    apply go
    obtain rfl := Option.some.inj h
    have r23514 := o23513.frz hp (i := 0) rfl
    obtain ⟨hp, hs⟩ := freeze_hp hp (i := 0) rfl
    have hp := hp.sel [] (by decide)
    exact ⟨(Ad I23510 e23512), v23511, rfl, hp, r23514⟩

end Go.Proofs.YtepadjfmcbjkmaaDoor

namespace Go.Proofs.YtepadjfmcbjkmaaDoor
open Go Go.Proofs.YtepadjfmcbjkmaaDoor.Gw Go.RowKit
set_option linter.unusedVariables false
attribute [local irreducible] Ev EvQ EvS EvH
def ref01_Gcd_S (f : Int_2 → Int_2 → Option Int_2) : Prop := ∀ (w0 : World) (I0 : Nat → Prop) (x24298 : Int_2) (v24299 : Value) (r24300 : RepS (dI .u32) w0 I0 v24299 x24298.Mag) (x24301 : Int_2) (v24302 : Value) (r24303 : RepS (dI .u32) w0 I0 v24302 x24301.Mag) (hI : ∀ g, I0 g → g < w0.heap.size) (r : Int_2), f x24298 x24301 = some r →
    Ret Tryd.prog 57 #[(.agg #[(.bool x24298.Neg), v24299]), (.agg #[(.bool x24301.Neg), v24302])] w0 fun v w1 => ∃ (I1 : Nat → Prop) (u24304 : Value), v = (.agg #[(.bool r.Neg), u24304]) ∧ Hp ⟨w0, I0, []⟩ I1 [] w1 ∧ RepS (dI .u32) w1 I1 u24304 r.Mag
theorem ref01_Gcd_ok (n : Nat) : ref01_Gcd_S (ref01_Gcd n) := by
  intro w0 I0 x24298 v24299 r24300 x24301 v24302 r24303 hI r h
  unfold ref01_Gcd at h
  refine enter Tryd.func57 rfl (Nat.le_of_ble_eq_true rfl) ?_
  have hp : Hp ⟨w0, I0, []⟩ I0 [] w0 := Hp.start hI
  apply go
  apply go
  refine ev_boxI hp rfl rfl ?_
  intro p24307 I24308 w24306 hp hs a24309
  replace r24303 := r24303.step hs
  replace r24300 := r24300.step hs
  refine ev_boxI hp rfl rfl ?_
  intro p24312 I24313 w24311 hp hs a24314
  replace a24309 := a24309.step hs
  replace r24300 := r24300.step hs
  replace r24303 := r24303.step hs
  refine ev_alloc hp rfl T24 ?_
  intro g24315 w24316 hp hs
  replace a24309 := a24309.step hs
  replace r24300 := r24300.step hs
  replace a24314 := a24314.step hs
  replace r24303 := r24303.step hs
  apply go
  apply go
  refine ev0 (rn_field rfl rfl FO24_1) ?_
  refine ev (rn_load rfl rfl (run_loadVar1 T22 (a24309.2 1 _ rfl))) ?_
  obtain ⟨x24317, q24318, h⟩ := bind_some h
  refine ev_call rfl rfl C64 (((ref01_trim_ok n) _ _  x24298.Mag v24299 r24300 hp.imm _ q24318).mono ?_)
  rintro _ w24319 ⟨I24320, v24321, e24322, hv, hq, o24323⟩
  replace hv := hv.symm
  subst hv
  have hs := hq.st
  have hp := hp.join0 hq
  replace a24309 := a24309.step hs
  replace r24300 := r24300.step hs
  replace a24314 := a24314.step hs
  replace r24303 := r24303.step hs
  apply go
  apply go
  refine ev0 (rn_field rfl rfl FO24_1) ?_
  refine ev (rn_load rfl rfl (run_loadVar1 T22 (a24314.2 1 _ rfl))) ?_
  obtain ⟨x24324, q24325, h⟩ := bind_some h
  refine ev_call rfl rfl C64 (((ref01_trim_ok n) _ _  x24301.Mag v24302 r24303 hp.imm _ q24325).mono ?_)
  rintro _ w24326 ⟨I24327, v24328, e24329, hv, hq, o24330⟩
  replace hv := hv.symm
  subst hv
  have hs := hq.st
  have hp := hp.join0 hq
  replace a24309 := a24309.step hs
  replace r24300 := r24300.step hs
  replace a24314 := a24314.step hs
  replace r24303 := r24303.step hs
  replace o24323 := o24323.step hs
  apply go
  apply go
  apply go
  refine ev0 (x_lenO rfl rfl Tryd.underlying22 o24323) ?_
  apply go
  refine sel_of (fun hc => ?_) (fun hc => ?_)
  ·
    have h := cond_t h hc
    apply go
    apply go
    refine ev (rn_load rfl rfl (run_loadVarA T24 rfl a24314)) ?_
    obtain ⟨x24331, q24332, h⟩ := bind_some h
    refine ev_call rfl rfl C77 (((ref01_Abs_ok n) _ _  (Int_2.mk x24301.Neg x24301.Mag) v24302 r24303 hp.imm _ q24332).mono ?_)
    rintro _ w24333 ⟨I24334, v24335, hv, hq, r24336⟩
    replace hv := hv.symm
    subst hv
    have hs := hq.st
    have hp := hp.join0 hq
    refine ev_storeA hp (i := 2) (off := 0) (vs := [(.bool x24331.Neg), v24335]) rfl rfl rfl rfl T24 rfl (Nat.le_of_ble_eq_true rfl) (ones_cons rfl (ones_cons r24336.one ones_nil)) ?_
    intro w24337 hp hs
    replace r24336 := r24336.step hs
    apply go
    obtain rfl := Option.some.inj h
    refine ⟨_, run_loadVarA T24 rfl (hp.at_ (i := 2) rfl), ?_⟩
    have hp := hp.sel [] (by decide)
    exact ⟨I24334, v24335, rfl, hp, r24336⟩
  ·
    have h := cond_f h hc
    apply go
    apply go
    apply go
    apply go
    refine ev0 (x_lenO rfl rfl Tryd.underlying22 o24330) ?_
    apply go
    refine sel_of (fun hc => ?_) (fun hc => ?_)
    ·
      have h := cond_t h hc
      apply go
      apply go
      refine ev (rn_load rfl rfl (run_loadVarA T24 rfl a24309)) ?_
      obtain ⟨x24338, q24339, h⟩ := bind_some h
      refine ev_call rfl rfl C77 (((ref01_Abs_ok n) _ _  (Int_2.mk x24298.Neg x24298.Mag) v24299 r24300 hp.imm _ q24339).mono ?_)
      rintro _ w24340 ⟨I24341, v24342, hv, hq, r24343⟩
      replace hv := hv.symm
      subst hv
      have hs := hq.st
      have hp := hp.join0 hq
      refine ev_storeA hp (i := 2) (off := 0) (vs := [(.bool x24338.Neg), v24342]) rfl rfl rfl rfl T24 rfl (Nat.le_of_ble_eq_true rfl) (ones_cons rfl (ones_cons r24343.one ones_nil)) ?_
      intro w24344 hp hs
      replace r24343 := r24343.step hs
      apply go
      obtain rfl := Option.some.inj h
      refine ⟨_, run_loadVarA T24 rfl (hp.at_ (i := 2) rfl), ?_⟩
      have hp := hp.sel [] (by decide)
      exact ⟨I24341, v24342, rfl, hp, r24343⟩
    ·
      have h := cond_f h hc
      apply go
      apply go
      apply go
      obtain ⟨y24504, q24505, h⟩ := bind_some h
      refine W.cut (γ := ((List Int) × (List Int) × Int × Value × Value × (Nat → Prop))) (fun g => [(4, (.pointer (some ⟨g24315, 0, none⟩))), (5, (g.2.2.2.1)), (6, (g.2.2.2.2.1)), (7, (.int .i64 (g.2.2.1)))]) (fun g w' => y24504 = ((g.1), (g.2.1), (g.2.2.1)) ∧ Hp ⟨w0, I0, []⟩ (g.2.2.2.2.2) [some (g24315, [(.bool false), (.slice none 0 0)], 24)] w' ∧ RepS (dI .u32) w' (g.2.2.2.2.2) (g.2.2.2.1) (g.1) ∧ RepS (dI .u32) w' (g.2.2.2.2.2) (g.2.2.2.2.1) (g.2.1)) ?_ ?_
      ·
        apply go
        have r24611 := o24323.frz hp (i := 1) rfl
        obtain ⟨hp, hs⟩ := freeze_hp hp (i := 1) rfl
        replace o24330 := o24330.step hs
        have hp := hp.sel [0, 2] (by decide)
        have r24612 := o24330.frz hp (i := 0) rfl
        obtain ⟨hp, hs⟩ := freeze_hp hp (i := 0) rfl
        replace r24611 := r24611.step hs
        have hp := hp.sel [1] (by decide)
        refine W.loop q24505 (γ := (Value × Value × (Nat → Prop))) (fun s g => [(4, (.pointer (some ⟨g24315, 0, none⟩))), (5, (g.1)), (6, (g.2.1)), (7, (.int .i64 (s.2.2)))]) (fun s g w' => Hp ⟨w0, I0, []⟩ (g.2.2) [some (g24315, [(.bool false), (.slice none 0 0)], 24)] w' ∧ RepS (dI .u32) w' (g.2.2) (g.1) (s.1) ∧ RepS (dI .u32) w' (g.2.2) (g.2.1) (s.2.1)) (v24321, v24328, (Ad (Ad I24327 e24322) e24329)) (.c rfl (.c rfl (.c rfl (.c rfl .n)))) ⟨hp, r24611, r24612⟩ ?_
        rintro ⟨x24555, x24558, x24561⟩ ⟨v24556, v24559, I24562⟩ w24610 y24613 ⟨hp, r24557, r24560⟩ q24614 q24615
        unfold ref01_Gcd_L1 at q24614
        apply go
        obtain ⟨y24629, q24630, q24614⟩ := bind_some q24614
        refine W.cut (γ := Bool) (fun g => [(4, (.pointer (some ⟨g24315, 0, none⟩))), (5, v24556), (6, v24559), (7, (.int .i64 x24561)), (36, (.bool (g)))]) (fun g w' => y24629 = (g) ∧ w24610 = w') ?_ ?_
        ·
          apply go
          obtain ⟨x24631, q24632, q24630⟩ := bind_some q24630
          refine ev_index rfl rfl rfl Tryd.underlying22 T42 r24557 q24632 ?_
          intro p24633 c24634 d24635 a24636
          obtain rfl : c24634 = [(.int .u32 x24631)] := d24635
          refine ev (rn_load rfl rfl (run_loadVar1 T42 (a24636.2 0 _ rfl))) ?_
          refine ⟨by decide, ?_⟩
          refine sel_of (fun hc => ?_) (fun hc => ?_)
          ·
            have q24630 := cond_t q24630 hc
            obtain ⟨x24637, q24638, q24630⟩ := bind_some q24630
            refine ev_index rfl rfl rfl Tryd.underlying22 T42 r24560 q24638 ?_
            intro p24639 c24640 d24641 a24642
            obtain rfl : c24640 = [(.int .u32 x24637)] := d24641
            refine ev (rn_load rfl rfl (run_loadVar1 T42 (a24642.2 0 _ rfl))) ?_
            refine ⟨by decide, ?_⟩
            obtain rfl := Option.some.inj q24630
            exact ⟨((x24637.tmod 2) == 0), (.c rfl (.c rfl (.c rfl (.c rfl (.c rfl .n))))), rfl, rfl⟩
          ·
            have q24630 := cond_f q24630 hc
            obtain rfl := Option.some.inj q24630
            exact ⟨false, (.c rfl (.c rfl (.c rfl (.c rfl (.c rfl .n))))), rfl, rfl⟩
        ·
          rintro x24628 _ ⟨hy, rfl⟩
          replace hy := hy.symm
          subst hy
          apply go
          refine sel_of (fun hc => ?_) (fun hc => ?_)
          ·
            have q24614 := cond_t q24614 hc
            apply go
            apply go
            apply go
            apply go
            obtain ⟨x24643, q24644, q24614⟩ := bind_some q24614
            refine ev_call rfl rfl C78 (((ref01_half_ok n) _ _  x24555 v24556 r24557 hp.imm _ q24644).mono ?_)
            rintro _ w24645 ⟨I24646, v24647, hv, hq, r24648⟩
            replace hv := hv.symm
            subst hv
            have hs := hq.st
            have hp := hp.join0 hq
            replace r24560 := r24560.step hs
            apply go
            apply go
            obtain ⟨x24649, q24650, q24614⟩ := bind_some q24614
            refine ev_call rfl rfl C78 (((ref01_half_ok n) _ _  x24558 v24559 r24560 hp.imm _ q24650).mono ?_)
            rintro _ w24651 ⟨I24652, v24653, hv, hq, r24654⟩
            replace hv := hv.symm
            subst hv
            have hs := hq.st
            have hp := hp.join0 hq
            replace r24648 := r24648.step hs
            apply go
            exact ⟨_, (Option.some.inj q24614).symm, (v24647, v24653, I24652), (.c rfl (.c rfl (.c rfl (.c rfl .n)))), ⟨hp, r24648, r24654⟩⟩
          ·
            have q24614 := cond_f q24614 hc
            apply go
            have q24655 := congrArg some (q24615 _ (Option.some.inj q24614).symm)
            obtain rfl := Option.some.inj q24655
            exact ⟨(x24555, x24558, x24561, v24556, v24559, I24562), (.c rfl (.c rfl (.c rfl (.c rfl .n)))), rfl, hp, r24557, r24560⟩
      ·
        rintro ⟨x24495, x24498, x24501, v24496, v24499, I24502⟩ w24503 ⟨hy, hp, r24497, r24500⟩
        replace hy := hy.symm
        subst hy
        obtain ⟨y24806, q24807, h⟩ := bind_some h
        refine W.cut (γ := ((List Int) × Value × (Nat → Prop))) (fun g => [(4, (.pointer (some ⟨g24315, 0, none⟩))), (5, (g.2.1)), (7, (.int .i64 x24501))]) (fun g w' => y24806 = (g.1) ∧ Hp ⟨w0, I0, []⟩ (g.2.2) [some (g24315, [(.bool false), (.slice none 0 0)], 24)] w' ∧ RepS (dI .u32) w' (g.2.2) (g.2.1) (g.1)) ?_ ?_
        ·
          apply go
          refine W.loop q24807 (γ := (Value × Value × (Nat → Prop))) (fun s g => [(4, (.pointer (some ⟨g24315, 0, none⟩))), (5, (g.1)), (6, (g.2.1)), (7, (.int .i64 x24501))]) (fun s g w' => Hp ⟨w0, I0, []⟩ (g.2.2) [some (g24315, [(.bool false), (.slice none 0 0)], 24)] w' ∧ RepS (dI .u32) w' (g.2.2) (g.1) (s.1) ∧ RepS (dI .u32) w' (g.2.2) (g.2.1) (s.2)) (v24496, v24499, I24502) (.c rfl (.c rfl (.c rfl (.c rfl .n)))) ⟨hp, r24497, r24500⟩ ?_
          rintro ⟨x24850, x24853⟩ ⟨v24851, v24854, I24856⟩ w24906 y24907 ⟨hp, r24852, r24855⟩ q24908 q24909
          unfold ref01_Gcd_L3 at q24908
          apply go
          apply go
          apply go
          obtain ⟨x24910, q24911, q24908⟩ := bind_some q24908
          refine ev_call rfl rfl C70 (((ref01_cmp_ok n) _ _  x24850 v24851 r24852 x24853 v24854 r24855 hp.imm _ q24911).mono ?_)
          rintro _ w24912 ⟨rfl, hc⟩
          have hs := hp.stp hc
          replace hp := hp.ext hc
          replace r24852 := r24852.step hs
          replace r24855 := r24855.step hs
          apply go
          refine sel_of (fun hc => ?_) (fun hc => ?_)
          ·
            have q24908 := cond_t q24908 hc
            apply go
            apply go
            apply go
            apply go
            apply go
            obtain ⟨x24913, q24914, q24908⟩ := bind_some q24908
            refine ev_index rfl rfl rfl Tryd.underlying22 T42 r24852 q24914 ?_
            intro p24915 c24916 d24917 a24918
            obtain rfl : c24916 = [(.int .u32 x24913)] := d24917
            refine ev (rn_load rfl rfl (run_loadVar1 T42 (a24918.2 0 _ rfl))) ?_
            refine ⟨by decide, ?_⟩
            apply go
            refine sel_of (fun hc => ?_) (fun hc => ?_)
            ·
              have q24908 := cond_t q24908 hc
              apply go
              obtain ⟨x24919, q24920, q24908⟩ := bind_some q24908
              refine ev_call rfl rfl C78 (((ref01_half_ok n) _ _  x24850 v24851 r24852 hp.imm _ q24920).mono ?_)
              rintro _ w24921 ⟨I24922, v24923, hv, hq, r24924⟩
              replace hv := hv.symm
              subst hv
              have hs := hq.st
              have hp := hp.join0 hq
              replace r24855 := r24855.step hs
              exact ⟨_, (Option.some.inj q24908).symm, (v24923, v24854, I24922), (.c rfl (.c rfl (.c rfl (.c rfl .n)))), ⟨hp, r24924, r24855⟩⟩
            ·
              have q24908 := cond_f q24908 hc
              apply go
              apply go
              obtain ⟨x24925, q24926, q24908⟩ := bind_some q24908
              refine ev_index rfl rfl rfl Tryd.underlying22 T42 r24855 q24926 ?_
              intro p24927 c24928 d24929 a24930
              obtain rfl : c24928 = [(.int .u32 x24925)] := d24929
              refine ev (rn_load rfl rfl (run_loadVar1 T42 (a24930.2 0 _ rfl))) ?_
              refine ⟨by decide, ?_⟩
              apply go
              refine sel_of (fun hc => ?_) (fun hc => ?_)
              ·
                have q24908 := cond_t q24908 hc
                apply go
                obtain ⟨x24931, q24932, q24908⟩ := bind_some q24908
                refine ev_call rfl rfl C78 (((ref01_half_ok n) _ _  x24853 v24854 r24855 hp.imm _ q24932).mono ?_)
                rintro _ w24933 ⟨I24934, v24935, hv, hq, r24936⟩
                replace hv := hv.symm
                subst hv
                have hs := hq.st
                have hp := hp.join0 hq
                replace r24852 := r24852.step hs
                exact ⟨_, (Option.some.inj q24908).symm, (v24851, v24935, I24934), (.c rfl (.c rfl (.c rfl (.c rfl .n)))), ⟨hp, r24852, r24936⟩⟩
              ·
                have q24908 := cond_f q24908 hc
                apply go
                apply go
                obtain ⟨x24937, q24938, q24908⟩ := bind_some q24908
                refine ev_call rfl rfl C70 (((ref01_cmp_ok n) _ _  x24850 v24851 r24852 x24853 v24854 r24855 hp.imm _ q24938).mono ?_)
                rintro _ w24939 ⟨rfl, hc⟩
                have hs := hp.stp hc
                replace hp := hp.ext hc
                replace r24852 := r24852.step hs
                replace r24855 := r24855.step hs
                apply go
                refine sel_of (fun hc => ?_) (fun hc => ?_)
                ·
                  have q24908 := cond_t q24908 hc
                  apply go
                  obtain ⟨x24940, q24941, q24908⟩ := bind_some q24908
                  refine ev_call rfl rfl C71 (((ref01_sub_ok n) _ _  x24850 v24851 r24852 x24853 v24854 r24855 hp.imm _ q24941).mono ?_)
                  rintro _ w24942 ⟨I24943, v24944, hv, hq, r24945⟩
                  replace hv := hv.symm
                  subst hv
                  have hs := hq.st
                  have hp := hp.join0 hq
                  replace r24855 := r24855.step hs
                  exact ⟨_, (Option.some.inj q24908).symm, (v24944, v24854, I24943), (.c rfl (.c rfl (.c rfl (.c rfl .n)))), ⟨hp, r24945, r24855⟩⟩
                ·
                  have q24908 := cond_f q24908 hc
                  apply go
                  obtain ⟨x24946, q24947, q24908⟩ := bind_some q24908
                  refine ev_call rfl rfl C71 (((ref01_sub_ok n) _ _  x24853 v24854 r24855 x24850 v24851 r24852 hp.imm _ q24947).mono ?_)
                  rintro _ w24948 ⟨I24949, v24950, hv, hq, r24951⟩
                  replace hv := hv.symm
                  subst hv
                  have hs := hq.st
                  have hp := hp.join0 hq
                  replace r24852 := r24852.step hs
                  exact ⟨_, (Option.some.inj q24908).symm, (v24851, v24950, I24949), (.c rfl (.c rfl (.c rfl (.c rfl .n)))), ⟨hp, r24852, r24951⟩⟩
          ·
            have q24908 := cond_f q24908 hc
            apply go
            have q24952 := congrArg some (q24909 _ (Option.some.inj q24908).symm)
            obtain rfl := Option.some.inj q24952
            exact ⟨(x24850, v24851, I24856), (.c rfl (.c rfl (.c rfl .n))), rfl, hp, r24852⟩
        ·
          rintro ⟨x24801, v24802, I24804⟩ w24805 ⟨hy, hp, r24803⟩
          replace hy := hy.symm
          subst hy
          obtain ⟨y24991, q24992, h⟩ := bind_some h
          refine W.cut (γ := ((List Int) × Value × (Nat → Prop))) (fun g => [(4, (.pointer (some ⟨g24315, 0, none⟩))), (5, (g.2.1))]) (fun g w' => y24991 = (g.1) ∧ Hp ⟨w0, I0, []⟩ (g.2.2) [some (g24315, [(.bool false), (.slice none 0 0)], 24)] w' ∧ RepS (dI .u32) w' (g.2.2) (g.2.1) (g.1)) ?_ ?_
          ·
            apply go
            apply go
            apply go
            refine W.loop q24992 (γ := (Value × (Nat → Prop))) (fun s g => [(4, (.pointer (some ⟨g24315, 0, none⟩))), (5, (g.1)), (7, (.int .i64 x24501)), (8, (.int .i64 (s.2)))]) (fun s g w' => Hp ⟨w0, I0, []⟩ (g.2) [some (g24315, [(.bool false), (.slice none 0 0)], 24)] w' ∧ RepS (dI .u32) w' (g.2) (g.1) (s.1)) (v24802, I24804) (.c rfl (.c rfl (.c rfl (.c rfl .n)))) ⟨hp, r24803⟩ ?_
            rintro ⟨x24999, x25002⟩ ⟨v25000, I25003⟩ w25015 y25016 ⟨hp, r25001⟩ q25017 q25018
            unfold ref01_Gcd_L5 at q25017
            apply go
            apply go
            apply go
            apply go
            refine sel_of (fun hc => ?_) (fun hc => ?_)
            ·
              have q25017 := cond_t q25017 hc
              apply go
              apply go
              apply go
              apply go
              obtain ⟨x25019, q25020, q25017⟩ := bind_some q25017
              refine ev_call rfl rfl C69 (((ref01_add_ok n) _ _  x24999 v25000 r25001 x24999 v25000 r25001 hp.imm _ q25020).mono ?_)
              rintro _ w25021 ⟨I25022, v25023, hv, hq, r25024⟩
              replace hv := hv.symm
              subst hv
              have hs := hq.st
              have hp := hp.join0 hq
              apply go
              exact ⟨_, (Option.some.inj q25017).symm, (v25023, I25022), (.c rfl (.c rfl (.c rfl (.c rfl .n)))), ⟨hp, r25024⟩⟩
            ·
              have q25017 := cond_f q25017 hc
              apply go
              have q25025 := congrArg some (q25018 _ (Option.some.inj q25017).symm)
              obtain rfl := Option.some.inj q25025
              exact ⟨(x24999, v25000, I25003), (.c rfl (.c rfl .n)), rfl, hp, r25001⟩
          ·
            rintro ⟨x24986, v24987, I24989⟩ w24990 ⟨hy, hp, r24988⟩
            replace hy := hy.symm
            subst hy
            apply go
            apply go
            obtain ⟨A25026, m25027, m25028, rfl⟩ := r24988.isSl
            refine ev0 (fun w => rn_build (cs := [(.bool false), (.slice A25026 m25027 m25028)]) rfl rfl T24 PL24 rfl) ?_
            refine ev_storeA hp (i := 0) (off := 0) (vs := [(.bool false), (.slice A25026 m25027 m25028)]) rfl rfl rfl rfl T24 rfl (Nat.le_of_ble_eq_true rfl) (ones_cons rfl (ones_cons r24988.one ones_nil)) ?_
            intro w25030 hp hs
            replace r24988 := r24988.step hs
            apply go
            obtain rfl := Option.some.inj h
            refine ⟨_, run_loadVarA T24 rfl (hp.at_ (i := 0) rfl), ?_⟩
            have hp := hp.sel [] (by decide)
            exact ⟨I24989, (.slice A25026 m25027 m25028), rfl, hp, r24988⟩

end Go.Proofs.YtepadjfmcbjkmaaDoor

namespace Go.Proofs.YtepadjfmcbjkmaaDoor
open Go Go.Proofs.YtepadjfmcbjkmaaDoor.Gw Go.RowKit
set_option linter.unusedVariables false
attribute [local irreducible] Ev EvQ EvS EvH
def ref01_Add_S (f : Int_2 → Int_2 → Option Int_2) : Prop := ∀ (w0 : World) (I0 : Nat → Prop) (x26028 : Int_2) (v26029 : Value) (r26030 : RepS (dI .u32) w0 I0 v26029 x26028.Mag) (x26031 : Int_2) (v26032 : Value) (r26033 : RepS (dI .u32) w0 I0 v26032 x26031.Mag) (hI : ∀ g, I0 g → g < w0.heap.size) (r : Int_2), f x26028 x26031 = some r →
    Ret Tryd.prog 48 #[(.agg #[(.bool x26028.Neg), v26029]), (.agg #[(.bool x26031.Neg), v26032])] w0 fun v w1 => ∃ (I1 : Nat → Prop) (u26034 : Value), v = (.agg #[(.bool r.Neg), u26034]) ∧ Hp ⟨w0, I0, []⟩ I1 [] w1 ∧ RepS (dI .u32) w1 I1 u26034 r.Mag
theorem ref01_Add_ok (n : Nat) : ref01_Add_S (ref01_Add n) := by
  intro w0 I0 x26028 v26029 r26030 x26031 v26032 r26033 hI r h
  unfold ref01_Add at h
  refine enter Tryd.func48 rfl (Nat.le_of_ble_eq_true rfl) ?_
  have hp : Hp ⟨w0, I0, []⟩ I0 [] w0 := Hp.start hI
  apply go
  apply go
  refine ev_box hp rfl rfl ?_
  intro g26035 w26036 hp hs
  replace r26033 := r26033.step hs
  replace r26030 := r26030.step hs
  refine ev_box hp rfl rfl ?_
  intro g26037 w26038 hp hs
  replace r26033 := r26033.step hs
  replace r26030 := r26030.step hs
  refine ev_alloc hp rfl T24 ?_
  intro g26039 w26040 hp hs
  replace r26033 := r26033.step hs
  replace r26030 := r26030.step hs
  apply go
  apply go
  refine ev (rn_load rfl rfl (run_loadVarA T24 rfl (hp.at_ (i := 2) rfl))) ?_
  obtain ⟨x26041, q26042, h⟩ := bind_some h
  refine ev_call rfl rfl C59 (((ref01_Norm_ok n) _ _  (Int_2.mk x26028.Neg x26028.Mag) v26029 r26030 hp.imm _ q26042).mono ?_)
  rintro _ w26043 ⟨I26044, v26045, hv, hq, r26046⟩
  replace hv := hv.symm
  subst hv
  have hs := hq.st
  have hp := hp.join0 hq
  replace r26033 := r26033.step hs
  replace r26030 := r26030.step hs
  refine ev_storeA hp (i := 2) (off := 0) (vs := [(.bool x26041.Neg), v26045]) rfl rfl rfl rfl T24 rfl (Nat.le_of_ble_eq_true rfl) (ones_cons rfl (ones_cons r26046.one ones_nil)) ?_
  intro w26047 hp hs
  replace r26033 := r26033.step hs
  replace r26046 := r26046.step hs
  apply go
  apply go
  refine ev (rn_load rfl rfl (run_loadVarA T24 rfl (hp.at_ (i := 1) rfl))) ?_
  obtain ⟨x26048, q26049, h⟩ := bind_some h
  refine ev_call rfl rfl C59 (((ref01_Norm_ok n) _ _  (Int_2.mk x26031.Neg x26031.Mag) v26032 r26033 hp.imm _ q26049).mono ?_)
  rintro _ w26050 ⟨I26051, v26052, hv, hq, r26053⟩
  replace hv := hv.symm
  subst hv
  have hs := hq.st
  have hp := hp.join0 hq
  replace r26033 := r26033.step hs
  replace r26046 := r26046.step hs
  refine ev_storeA hp (i := 1) (off := 0) (vs := [(.bool x26048.Neg), v26052]) rfl rfl rfl rfl T24 rfl (Nat.le_of_ble_eq_true rfl) (ones_cons rfl (ones_cons r26053.one ones_nil)) ?_
  intro w26054 hp hs
  replace r26053 := r26053.step hs
  replace r26046 := r26046.step hs
  apply go
  apply go
  apply go
  refine ev0 (rn_field rfl rfl FO24_0) ?_
  refine ev (rn_load rfl rfl (run_loadVar1 T4 (hp.cell (i := 2) (off := 0) rfl rfl))) ?_
  refine ev0 (rn_field rfl rfl FO24_0) ?_
  refine ev (rn_load rfl rfl (run_loadVar1 T4 (hp.cell (i := 1) (off := 0) rfl rfl))) ?_
  refine ev0 (rn_eqB rfl rfl rfl Tryd.underlying4) ?_
  apply go
  refine sel_of (fun hc => ?_) (fun hc => ?_)
  ·
    have h := cond_t h hc
    apply go
    have hs := hp.stp (Ch.drew [] w26054)
    have hp := hp.drew
    replace r26053 := r26053.step hs
    replace r26046 := r26046.step hs
    refine W.held [(0, true), (1, true), (2, true), (3, true), (4, true), (5, true), (6, false), (7, true), (8, false), (9, false)] (fun x => Stp I26051 w26054.drew I26051 x ∧ OwnK [(g26035, [(.bool x26041.Neg), v26045], 24), (g26037, [(.bool x26048.Neg), v26052], 24)] x) MX (by kernel_rfl) ⟨Stp.refl _ _, (OwnK.cons (hp.own 2 _ _ _ rfl).1 (OwnK.cons (hp.own 1 _ _ _ rfl).1 OwnK.nil))⟩ ?_
    have hz := Stp.refl I26051 w26054.drew
    refine evh0 (rn_field rfl rfl FO24_0) ?_
    refine evh (fun w' hw => rn_load rfl rfl (run_loadVar1 T4 (hw.2.cell (i := 0) (off := 0) rfl rfl))) ?_
    refine evh0 (rn_field rfl rfl FO24_1) ?_
    refine evh (fun w' hw => rn_load rfl rfl (run_loadVar1 T22 (hw.2.cell (i := 0) (off := 1) rfl rfl))) ?_
    refine evh0 (rn_field rfl rfl FO24_1) ?_
    refine evh (fun w' hw => rn_load rfl rfl (run_loadVar1 T22 (hw.2.cell (i := 1) (off := 1) rfl rfl))) ?_
    obtain ⟨x26072, q26073, h⟩ := bind_some h
    refine ev_call rfl rfl C69 (((ref01_add_ok n) _ _  x26041.Mag v26045 r26046 x26048.Mag v26052 r26053 hp.imm _ q26073).mono ?_)
    rintro _ w26074 ⟨I26075, v26076, hv, hq, r26077⟩
    replace hv := hv.symm
    subst hv
    have hs := hq.st
    have hp := hp.join0 hq
    replace hz := hz.trans hs
    replace r26053 := r26053.step hs
    replace r26046 := r26046.step hs
    refine ⟨fun x => Stp I26075 w26074 I26075 x ∧ OwnK [(g26035, [(.bool x26041.Neg), v26045], 24), (g26037, [(.bool x26048.Neg), v26052], 24)] x, ⟨Stp.refl _ _, (OwnK.cons (hp.own 2 _ _ _ rfl).1 (OwnK.cons (hp.own 1 _ _ _ rfl).1 OwnK.nil))⟩, fun x hx => ⟨hz.held hx.1, hx.2⟩, ?_⟩
    have hz := Stp.refl I26075 w26074
    obtain ⟨A26078, m26079, m26080, rfl⟩ := r26077.isSl
    refine evh0 (fun w => rn_build (cs := [(.bool x26041.Neg), (.slice A26078 m26079 m26080)]) rfl rfl T24 PL24 rfl) ?_
    obtain ⟨x26082, q26083, h⟩ := bind_some h
    refine ev_call rfl rfl C59 (((ref01_Norm_ok n) _ _  (Int_2.mk x26041.Neg x26072) (.slice A26078 m26079 m26080) r26077 hp.imm _ q26083).mono ?_)
    rintro _ w26084 ⟨I26085, v26086, hv, hq, r26087⟩
    replace hv := hv.symm
    subst hv
    have hs := hq.st
    have hp := hp.join0 hq
    replace hz := hz.trans hs
    replace r26053 := r26053.step hs
    replace r26046 := r26046.step hs
    refine ⟨fun x => Stp I26085 w26084 I26085 x ∧ OwnK [(g26035, [(.bool x26041.Neg), v26045], 24), (g26037, [(.bool x26048.Neg), v26052], 24)] x, ⟨Stp.refl _ _, (OwnK.cons (hp.own 2 _ _ _ rfl).1 (OwnK.cons (hp.own 1 _ _ _ rfl).1 OwnK.nil))⟩, fun x hx => ⟨hz.held hx.1, hx.2⟩, ?_⟩
    have hz := Stp.refl I26085 w26084
    refine ev_storeA hp (i := 0) (off := 0) (vs := [(.bool x26082.Neg), v26086]) rfl rfl rfl rfl T24 rfl (Nat.le_of_ble_eq_true rfl) (ones_cons rfl (ones_cons r26087.one ones_nil)) ?_
    intro w26088 hp hs
    replace hz := hz.trans hs
    replace r26087 := r26087.step hs
    replace r26053 := r26053.step hs
    replace r26046 := r26046.step hs
    refine ⟨fun x => Stp I26085 w26088 I26085 x ∧ OwnK [(g26035, [(.bool x26041.Neg), v26045], 24), (g26037, [(.bool x26048.Neg), v26052], 24)] x, ⟨Stp.refl _ _, (OwnK.cons (hp.own 2 _ _ _ rfl).1 (OwnK.cons (hp.own 1 _ _ _ rfl).1 OwnK.nil))⟩, fun x hx => ⟨hz.held hx.1, hx.2⟩, ?_⟩
    have hz := Stp.refl I26085 w26088
    apply go
    obtain rfl := Option.some.inj h
    refine ⟨_, run_loadVarA T24 rfl (hp.at_ (i := 0) rfl), ?_⟩
    have hp := hp.sel [] (by decide)
    exact ⟨I26085, v26086, rfl, hp, r26087⟩
  ·
    have h := cond_f h hc
    apply go
    apply go
    apply go
    apply go
    refine ev0 (rn_field rfl rfl FO24_1) ?_
    refine ev (rn_load rfl rfl (run_loadVar1 T22 (hp.cell (i := 2) (off := 1) rfl rfl))) ?_
    refine ev0 (rn_field rfl rfl FO24_1) ?_
    refine ev (rn_load rfl rfl (run_loadVar1 T22 (hp.cell (i := 1) (off := 1) rfl rfl))) ?_
    obtain ⟨x26089, q26090, h⟩ := bind_some h
    refine ev_call rfl rfl C70 (((ref01_cmp_ok n) _ _  x26041.Mag v26045 r26046 x26048.Mag v26052 r26053 hp.imm _ q26090).mono ?_)
    rintro _ w26091 ⟨rfl, hc⟩
    have hs := hp.stp hc
    replace hp := hp.ext hc
    replace r26053 := r26053.step hs
    replace r26046 := r26046.step hs
    apply go
    refine sel_of (fun hc => ?_) (fun hc => ?_)
    ·
      have h := cond_t h hc
      apply go
      have hs := hp.stp (Ch.drew [] w26091)
      have hp := hp.drew
      replace r26053 := r26053.step hs
      replace r26046 := r26046.step hs
      refine W.held [(0, true), (1, true), (2, true), (3, true), (4, true), (5, true), (6, false), (7, true), (8, false), (9, false)] (fun x => Stp I26051 w26091.drew I26051 x ∧ OwnK [(g26037, [(.bool x26048.Neg), v26052], 24), (g26035, [(.bool x26041.Neg), v26045], 24)] x) MX (by kernel_rfl) ⟨Stp.refl _ _, (OwnK.cons (hp.own 1 _ _ _ rfl).1 (OwnK.cons (hp.own 2 _ _ _ rfl).1 OwnK.nil))⟩ ?_
      have hz := Stp.refl I26051 w26091.drew
      refine evh0 (rn_field rfl rfl FO24_0) ?_
      refine evh (fun w' hw => rn_load rfl rfl (run_loadVar1 T4 (hw.2.cell (i := 0) (off := 0) rfl rfl))) ?_
      refine evh0 (rn_field rfl rfl FO24_1) ?_
      refine evh (fun w' hw => rn_load rfl rfl (run_loadVar1 T22 (hw.2.cell (i := 0) (off := 1) rfl rfl))) ?_
      refine evh0 (rn_field rfl rfl FO24_1) ?_
      refine evh (fun w' hw => rn_load rfl rfl (run_loadVar1 T22 (hw.2.cell (i := 1) (off := 1) rfl rfl))) ?_
      obtain ⟨x26109, q26110, h⟩ := bind_some h
      refine ev_call rfl rfl C71 (((ref01_sub_ok n) _ _  x26048.Mag v26052 r26053 x26041.Mag v26045 r26046 hp.imm _ q26110).mono ?_)
      rintro _ w26111 ⟨I26112, v26113, hv, hq, r26114⟩
      replace hv := hv.symm
      subst hv
      have hs := hq.st
      have hp := hp.join0 hq
      replace hz := hz.trans hs
      replace r26053 := r26053.step hs
      replace r26046 := r26046.step hs
      refine ⟨fun x => Stp I26112 w26111 I26112 x ∧ OwnK [(g26037, [(.bool x26048.Neg), v26052], 24), (g26035, [(.bool x26041.Neg), v26045], 24)] x, ⟨Stp.refl _ _, (OwnK.cons (hp.own 1 _ _ _ rfl).1 (OwnK.cons (hp.own 2 _ _ _ rfl).1 OwnK.nil))⟩, fun x hx => ⟨hz.held hx.1, hx.2⟩, ?_⟩
      have hz := Stp.refl I26112 w26111
      obtain ⟨A26115, m26116, m26117, rfl⟩ := r26114.isSl
      refine evh0 (fun w => rn_build (cs := [(.bool x26048.Neg), (.slice A26115 m26116 m26117)]) rfl rfl T24 PL24 rfl) ?_
      obtain ⟨x26119, q26120, h⟩ := bind_some h
      refine ev_call rfl rfl C59 (((ref01_Norm_ok n) _ _  (Int_2.mk x26048.Neg x26109) (.slice A26115 m26116 m26117) r26114 hp.imm _ q26120).mono ?_)
      rintro _ w26121 ⟨I26122, v26123, hv, hq, r26124⟩
      replace hv := hv.symm
      subst hv
      have hs := hq.st
      have hp := hp.join0 hq
      replace hz := hz.trans hs
      replace r26053 := r26053.step hs
      replace r26046 := r26046.step hs
      refine ⟨fun x => Stp I26122 w26121 I26122 x ∧ OwnK [(g26037, [(.bool x26048.Neg), v26052], 24), (g26035, [(.bool x26041.Neg), v26045], 24)] x, ⟨Stp.refl _ _, (OwnK.cons (hp.own 1 _ _ _ rfl).1 (OwnK.cons (hp.own 2 _ _ _ rfl).1 OwnK.nil))⟩, fun x hx => ⟨hz.held hx.1, hx.2⟩, ?_⟩
      have hz := Stp.refl I26122 w26121
      refine ev_storeA hp (i := 0) (off := 0) (vs := [(.bool x26119.Neg), v26123]) rfl rfl rfl rfl T24 rfl (Nat.le_of_ble_eq_true rfl) (ones_cons rfl (ones_cons r26124.one ones_nil)) ?_
      intro w26125 hp hs
      replace hz := hz.trans hs
      replace r26124 := r26124.step hs
      replace r26053 := r26053.step hs
      replace r26046 := r26046.step hs
      refine ⟨fun x => Stp I26122 w26125 I26122 x ∧ OwnK [(g26037, [(.bool x26048.Neg), v26052], 24), (g26035, [(.bool x26041.Neg), v26045], 24)] x, ⟨Stp.refl _ _, (OwnK.cons (hp.own 1 _ _ _ rfl).1 (OwnK.cons (hp.own 2 _ _ _ rfl).1 OwnK.nil))⟩, fun x hx => ⟨hz.held hx.1, hx.2⟩, ?_⟩
      have hz := Stp.refl I26122 w26125
      apply go
      obtain rfl := Option.some.inj h
      refine ⟨_, run_loadVarA T24 rfl (hp.at_ (i := 0) rfl), ?_⟩
      have hp := hp.sel [] (by decide)
      exact ⟨I26122, v26123, rfl, hp, r26124⟩
    ·
      have h := cond_f h hc
      apply go
      apply go
      have hs := hp.stp (Ch.drew [] w26091)
      have hp := hp.drew
      replace r26053 := r26053.step hs
      replace r26046 := r26046.step hs
      refine W.held [(0, true), (1, true), (2, true), (3, true), (4, true), (5, true), (6, false), (7, true), (8, false), (9, false)] (fun x => Stp I26051 w26091.drew I26051 x ∧ OwnK [(g26035, [(.bool x26041.Neg), v26045], 24), (g26037, [(.bool x26048.Neg), v26052], 24)] x) MX (by kernel_rfl) ⟨Stp.refl _ _, (OwnK.cons (hp.own 2 _ _ _ rfl).1 (OwnK.cons (hp.own 1 _ _ _ rfl).1 OwnK.nil))⟩ ?_
      have hz := Stp.refl I26051 w26091.drew
      refine evh0 (rn_field rfl rfl FO24_0) ?_
      refine evh (fun w' hw => rn_load rfl rfl (run_loadVar1 T4 (hw.2.cell (i := 0) (off := 0) rfl rfl))) ?_
      refine evh0 (rn_field rfl rfl FO24_1) ?_
      refine evh (fun w' hw => rn_load rfl rfl (run_loadVar1 T22 (hw.2.cell (i := 0) (off := 1) rfl rfl))) ?_
      refine evh0 (rn_field rfl rfl FO24_1) ?_
      refine evh (fun w' hw => rn_load rfl rfl (run_loadVar1 T22 (hw.2.cell (i := 1) (off := 1) rfl rfl))) ?_
      obtain ⟨x26143, q26144, h⟩ := bind_some h
      refine ev_call rfl rfl C71 (((ref01_sub_ok n) _ _  x26041.Mag v26045 r26046 x26048.Mag v26052 r26053 hp.imm _ q26144).mono ?_)
      rintro _ w26145 ⟨I26146, v26147, hv, hq, r26148⟩
      replace hv := hv.symm
      subst hv
      have hs := hq.st
      have hp := hp.join0 hq
      replace hz := hz.trans hs
      replace r26053 := r26053.step hs
      replace r26046 := r26046.step hs
      refine ⟨fun x => Stp I26146 w26145 I26146 x ∧ OwnK [(g26035, [(.bool x26041.Neg), v26045], 24), (g26037, [(.bool x26048.Neg), v26052], 24)] x, ⟨Stp.refl _ _, (OwnK.cons (hp.own 2 _ _ _ rfl).1 (OwnK.cons (hp.own 1 _ _ _ rfl).1 OwnK.nil))⟩, fun x hx => ⟨hz.held hx.1, hx.2⟩, ?_⟩
      have hz := Stp.refl I26146 w26145
      obtain ⟨A26149, m26150, m26151, rfl⟩ := r26148.isSl
      refine evh0 (fun w => rn_build (cs := [(.bool x26041.Neg), (.slice A26149 m26150 m26151)]) rfl rfl T24 PL24 rfl) ?_
      obtain ⟨x26153, q26154, h⟩ := bind_some h
      refine ev_call rfl rfl C59 (((ref01_Norm_ok n) _ _  (Int_2.mk x26041.Neg x26143) (.slice A26149 m26150 m26151) r26148 hp.imm _ q26154).mono ?_)
      rintro _ w26155 ⟨I26156, v26157, hv, hq, r26158⟩
      replace hv := hv.symm
      subst hv
      have hs := hq.st
      have hp := hp.join0 hq
      replace hz := hz.trans hs
      replace r26053 := r26053.step hs
      replace r26046 := r26046.step hs
      refine ⟨fun x => Stp I26156 w26155 I26156 x ∧ OwnK [(g26035, [(.bool x26041.Neg), v26045], 24), (g26037, [(.bool x26048.Neg), v26052], 24)] x, ⟨Stp.refl _ _, (OwnK.cons (hp.own 2 _ _ _ rfl).1 (OwnK.cons (hp.own 1 _ _ _ rfl).1 OwnK.nil))⟩, fun x hx => ⟨hz.held hx.1, hx.2⟩, ?_⟩
      have hz := Stp.refl I26156 w26155
      refine ev_storeA hp (i := 0) (off := 0) (vs := [(.bool x26153.Neg), v26157]) rfl rfl rfl rfl T24 rfl (Nat.le_of_ble_eq_true rfl) (ones_cons rfl (ones_cons r26158.one ones_nil)) ?_
      intro w26159 hp hs
      replace hz := hz.trans hs
      replace r26158 := r26158.step hs
      replace r26053 := r26053.step hs
      replace r26046 := r26046.step hs
      refine ⟨fun x => Stp I26156 w26159 I26156 x ∧ OwnK [(g26035, [(.bool x26041.Neg), v26045], 24), (g26037, [(.bool x26048.Neg), v26052], 24)] x, ⟨Stp.refl _ _, (OwnK.cons (hp.own 2 _ _ _ rfl).1 (OwnK.cons (hp.own 1 _ _ _ rfl).1 OwnK.nil))⟩, fun x hx => ⟨hz.held hx.1, hx.2⟩, ?_⟩
      have hz := Stp.refl I26156 w26159
      apply go
      obtain rfl := Option.some.inj h
      refine ⟨_, run_loadVarA T24 rfl (hp.at_ (i := 0) rfl), ?_⟩
      have hp := hp.sel [] (by decide)
      exact ⟨I26156, v26157, rfl, hp, r26158⟩

end Go.Proofs.YtepadjfmcbjkmaaDoor

namespace Go.Proofs.YtepadjfmcbjkmaaDoor
open Go Go.Proofs.YtepadjfmcbjkmaaDoor.Gw Go.RowKit
set_option linter.unusedVariables false
attribute [local irreducible] Ev EvQ EvS EvH
def ref01_bit_S (f : (List Int) → Int → Option Int) : Prop := ∀ (w0 : World) (I0 : Nat → Prop) (x25031 : (List Int)) (v25032 : Value) (r25033 : RepS (dI .u32) w0 I0 v25032 x25031) (x25034 : Int) (hI : ∀ g, I0 g → g < w0.heap.size) (r : Int), f x25031 x25034 = some r →
    Ret Tryd.prog 104 #[v25032, (.int .i64 x25034)] w0 fun v w1 => v = (.int .u32 r) ∧ Ch [] w0 w1
theorem ref01_bit_ok (n : Nat) : ref01_bit_S (ref01_bit n) := by
  intro w0 I0 x25031 v25032 r25033 x25034 hI r h
  unfold ref01_bit at h
  refine enter Tryd.func104 rfl (Nat.le_of_ble_eq_true rfl) ?_
  have hp : Hp ⟨w0, I0, []⟩ I0 [] w0 := Hp.start hI
  apply go
  apply go
  apply go
  apply go
  apply go
  refine ⟨by decide, ?_⟩
  refine ev0 (rn_len rfl rfl Tryd.underlying22 r25033) ?_
  apply go
  refine sel_of (fun hc => ?_) (fun hc => ?_)
  ·
    have h := cond_t h hc
    apply go
    apply go
    apply go
    obtain rfl := Option.some.inj h
    exact ⟨rfl, hp.ch⟩
  ·
    have h := cond_f h hc
    apply go
    apply go
    apply go
    refine ⟨by decide, ?_⟩
    obtain ⟨x25035, q25036, h⟩ := bind_some h
    refine ev_index rfl rfl rfl Tryd.underlying22 T42 r25033 q25036 ?_
    intro p25037 c25038 d25039 a25040
    obtain rfl : c25038 = [(.int .u32 x25035)] := d25039
    refine ev (rn_load rfl rfl (run_loadVar1 T42 (a25040.2 0 _ rfl))) ?_
    refine ⟨by decide, ?_⟩
    refine ev0 (rn_conv rfl rfl U3 Tryd.underlying70) ?_
    obtain ⟨q25041, _, h⟩ := need_some h
    refine ⟨q25041, ?_⟩
    refine ⟨by decide, ?_⟩
    apply go
    obtain rfl := Option.some.inj h
    exact ⟨rfl, hp.ch⟩

end Go.Proofs.YtepadjfmcbjkmaaDoor

namespace Go.Proofs.YtepadjfmcbjkmaaDoor
open Go Go.Proofs.YtepadjfmcbjkmaaDoor.Gw Go.RowKit
set_option linter.unusedVariables false
attribute [local irreducible] Ev EvQ EvS EvH
def ref01_divide_S (f : (List Int) → (List Int) → Option ((List Int) × (List Int))) : Prop := ∀ (w0 : World) (I0 : Nat → Prop) (x25042 : (List Int)) (v25043 : Value) (r25044 : RepS (dI .u32) w0 I0 v25043 x25042) (x25045 : (List Int)) (v25046 : Value) (r25047 : RepS (dI .u32) w0 I0 v25046 x25045) (hI : ∀ g, I0 g → g < w0.heap.size) (r : ((List Int) × (List Int))), f x25042 x25045 = some r →
    Ret Tryd.prog 92 #[v25043, v25046] w0 fun v w1 => ∃ (I1 : Nat → Prop) (u25048 : Value) (u25049 : Value), v = (.tuple #[u25048, u25049]) ∧ Hp ⟨w0, I0, []⟩ I1 [] w1 ∧ RepS (dI .u32) w1 I1 u25048 r.1 ∧ RepS (dI .u32) w1 I1 u25049 r.2
theorem ref01_divide_ok (n : Nat) : ref01_divide_S (ref01_divide n) := by
  intro w0 I0 x25042 v25043 r25044 x25045 v25046 r25047 hI r h
  unfold ref01_divide at h
  refine enter Tryd.func92 rfl (Nat.le_of_ble_eq_true rfl) ?_
  have hp : Hp ⟨w0, I0, []⟩ I0 [] w0 := Hp.start hI
  apply go
  apply go
  apply go
  apply go
  refine ev0 (rn_len rfl rfl Tryd.underlying22 r25044) ?_
  obtain ⟨x25050, q25051, h⟩ := bind_some h
  refine ev_make (d := (dI .u32)) (x0 := 0) hp rfl rfl rfl Tryd.underlying22 T42 (fun _ _ => rfl) (Nat.le_of_ble_eq_true rfl) q25051 ?_
  intro v25052 e25053 w25054 hp hs o25055
  replace r25044 := r25044.step hs
  replace r25047 := r25047.step hs
  apply go
  apply go
  obtain ⟨y25541, q25542, h⟩ := bind_some h
  refine W.cut (γ := ((List Int) × (List Int) × Ent × Value × (Nat → Prop))) (fun g => [(6, v25052), (7, (g.2.2.2.1))]) (fun g w' => y25541 = ((g.1), (g.2.1)) ∧ Hp ⟨w0, I0, []⟩ (g.2.2.2.2) [(g.2.2.1)] w' ∧ OwnS (dI .u32) 42 w' (g.2.2.2.2) v25052 (g.2.2.1) (g.1) ∧ RepS (dI .u32) w' (g.2.2.2.2) (g.2.2.2.1) (g.2.1)) ?_ ?_
  ·
    apply go
    apply go
    refine ev0 (rn_len rfl rfl Tryd.underlying22 r25044) ?_
    apply go
    refine W.loop q25542 (γ := (Ent × Value × (Nat → Prop))) (fun s g => [(0, v25043), (1, v25046), (6, v25052), (7, (g.2.1)), (8, (.int .i64 (s.2.2)))]) (fun s g w' => Hp ⟨w0, I0, []⟩ (g.2.2) [(g.1)] w' ∧ RepS (dI .u32) w' (g.2.2) v25043 x25042 ∧ RepS (dI .u32) w' (g.2.2) v25046 x25045 ∧ OwnS (dI .u32) 42 w' (g.2.2) v25052 (g.1) (s.1) ∧ RepS (dI .u32) w' (g.2.2) (g.2.1) (s.2.1)) (e25053, (.slice none 0 0), I0) (.c rfl (.c rfl (.c rfl (.c rfl (.c rfl .n))))) ⟨hp, r25044, r25047, o25055, RepS.nil _ _ _⟩ ?_
    rintro ⟨x25694, x25698, x25701⟩ ⟨e25696, v25699, I25702⟩ w25863 y25864 ⟨hp, r25044, r25047, o25697, r25700⟩ q25865 q25866
    unfold ref01_divide_L1 at q25865
    apply go
    apply go
    apply go
    apply go
    refine sel_of (fun hc => ?_) (fun hc => ?_)
    ·
      have q25865 := cond_t q25865 hc
      apply go
      obtain ⟨y25946, q25947, q25865⟩ := bind_some q25865
      refine W.cut (γ := ((List Int) × (List Int) × Ent × Value × (Nat → Prop))) (fun g => [(0, v25043), (1, v25046), (6, v25052), (7, (g.2.2.2.1)), (8, (.int .i64 x25701))]) (fun g w' => y25946 = ((g.1), (g.2.1)) ∧ Hp ⟨w0, I0, []⟩ (g.2.2.2.2) [(g.2.2.1)] w' ∧ RepS (dI .u32) w' (g.2.2.2.2) v25043 x25042 ∧ RepS (dI .u32) w' (g.2.2.2.2) v25046 x25045 ∧ OwnS (dI .u32) 42 w' (g.2.2.2.2) v25052 (g.2.2.1) (g.1) ∧ RepS (dI .u32) w' (g.2.2.2.2) (g.2.2.2.1) (g.2.1)) ?_ ?_
      ·
        apply go
        apply go
        apply go
        obtain ⟨x25948, q25949, q25947⟩ := bind_some q25947
        refine ev_call rfl rfl C69 (((ref01_add_ok n) _ _  x25698 v25699 r25700 x25698 v25699 r25700 hp.imm _ q25949).mono ?_)
        rintro _ w25950 ⟨I25951, v25952, hv, hq, r25953⟩
        replace hv := hv.symm
        subst hv
        have hs := hq.st
        have hp := hp.join0 hq
        replace r25044 := r25044.step hs
        replace r25047 := r25047.step hs
        replace o25697 := o25697.step hs
        obtain ⟨y25972, q25973, q25947⟩ := bind_some q25947
        refine W.cut (γ := ((List Int) × Value × (Nat → Prop))) (fun g => [(0, v25043), (1, v25046), (6, v25052), (7, (g.2.1)), (8, (.int .i64 x25701))]) (fun g w' => y25972 = (g.1) ∧ Hp ⟨w0, I0, []⟩ (g.2.2) [e25696] w' ∧ RepS (dI .u32) w' (g.2.2) v25043 x25042 ∧ RepS (dI .u32) w' (g.2.2) v25046 x25045 ∧ OwnS (dI .u32) 42 w' (g.2.2) v25052 e25696 x25694 ∧ RepS (dI .u32) w' (g.2.2) (g.2.1) (g.1)) ?_ ?_
        ·
          apply go
          apply go
          obtain ⟨x25974, q25975, q25973⟩ := bind_some q25973
          refine ev_call rfl rfl C104 (((ref01_bit_ok n) _ _  x25042 v25043 r25044 x25701 hp.imm _ q25975).mono ?_)
          rintro _ w25976 ⟨rfl, hc⟩
          have hs := hp.stp hc
          replace hp := hp.ext hc
          replace r25044 := r25044.step hs
          replace r25047 := r25047.step hs
          replace o25697 := o25697.step hs
          replace r25953 := r25953.step hs
          apply go
          refine sel_of (fun hc => ?_) (fun hc => ?_)
          ·
            have q25973 := cond_t q25973 hc
            apply go
            refine ev_litN (d := (dI .u32)) (xs := [1]) (cs := [(.int .u32 1)]) hp rfl rfl Tryd.underlying22 T42 (by decide) rfl rfl (Elems.cons (d := (dI .u32)) (xs := _) rfl (Elems.nil _ _ _ _)) ?_
            intro v25977 I25979 w25978 hp hs r25980
            replace r25044 := r25044.step hs
            replace r25047 := r25047.step hs
            replace o25697 := o25697.step hs
            replace r25953 := r25953.step hs
            obtain ⟨x25981, q25982, q25973⟩ := bind_some q25973
            refine ev_call rfl rfl C69 (((ref01_add_ok n) _ _  x25948 v25952 r25953 [1] v25977 r25980 hp.imm _ q25982).mono ?_)
            rintro _ w25983 ⟨I25984, v25985, hv, hq, r25986⟩
            replace hv := hv.symm
            subst hv
            have hs := hq.st
            have hp := hp.join0 hq
            replace r25044 := r25044.step hs
            replace r25047 := r25047.step hs
            replace o25697 := o25697.step hs
            obtain rfl := Option.some.inj q25973
            exact ⟨(x25981, v25985, I25984), (.c rfl (.c rfl (.c rfl (.c rfl (.c rfl .n))))), rfl, hp, r25044, r25047, o25697, r25986⟩
          ·
            have q25973 := cond_f q25973 hc
            apply go
            obtain rfl := Option.some.inj q25973
            exact ⟨(x25948, v25952, I25951), (.c rfl (.c rfl (.c rfl (.c rfl (.c rfl .n))))), rfl, hp, r25044, r25047, o25697, r25953⟩
        ·
          rintro ⟨x25967, v25968, I25970⟩ w25971 ⟨hy, hp, r25044, r25047, o25697, r25969⟩
          replace hy := hy.symm
          subst hy
          apply go
          apply go
          obtain ⟨x25987, q25988, q25947⟩ := bind_some q25947
          refine ev_call rfl rfl C70 (((ref01_cmp_ok n) _ _  x25967 v25968 r25969 x25045 v25046 r25047 hp.imm _ q25988).mono ?_)
          rintro _ w25989 ⟨rfl, hc⟩
          have hs := hp.stp hc
          replace hp := hp.ext hc
          replace r25044 := r25044.step hs
          replace r25047 := r25047.step hs
          replace o25697 := o25697.step hs
          replace r25969 := r25969.step hs
          apply go
          refine sel_of (fun hc => ?_) (fun hc => ?_)
          ·
            have q25947 := cond_t q25947 hc
            apply go
            apply go
            obtain ⟨x25990, q25991, q25947⟩ := bind_some q25947
            refine ev_call rfl rfl C71 (((ref01_sub_ok n) _ _  x25967 v25968 r25969 x25045 v25046 r25047 hp.imm _ q25991).mono ?_)
            rintro _ w25992 ⟨I25993, v25994, hv, hq, r25995⟩
            replace hv := hv.symm
            subst hv
            have hs := hq.st
            have hp := hp.join0 hq
            replace r25044 := r25044.step hs
            replace r25047 := r25047.step hs
            replace o25697 := o25697.step hs
            apply go
            refine ⟨by decide, ?_⟩
            refine ⟨by decide, ?_⟩
            obtain ⟨x25996, q25997, q25947⟩ := bind_some q25947
            refine ev_indexO rfl rfl rfl Tryd.underlying22 T42 o25697 q25997 ?_
            intro g25998 c25999 h26002 d26000 l26001
            refine ev (rn_load rfl rfl (run_loadVar1 T42 (hp.cellE (i := 0) rfl h26002 d26000 (j := 0) rfl))) ?_
            refine ⟨by decide, ?_⟩
            refine ev0 (rn_conv rfl rfl U3 Tryd.underlying70) ?_
            obtain ⟨q26004, _, q25947⟩ := need_some q25947
            refine ⟨q26004, ?_⟩
            obtain ⟨x26005, q26006, q25947⟩ := bind_some q25947
            refine ev_indexO rfl rfl rfl Tryd.underlying22 T42 o25697 q26006 ?_
            intro g26007 c26008 h26011 d26009 l26010
            refine ev_storeE hp (i := 0) rfl h26011 rfl rfl rfl T42 o25697 q26006 (x0 := (IntKind.u32.wrap (x25996 + (IntKind.u32.wrap ((1 : Int) * 2 ^ min (IntKind.u64.wrap (x25701.tmod 32)).toNat (IntKind.u32).bits))))) rfl ?_
            intro e26014 w26013 hp hs o26015
            replace r25044 := r25044.step hs
            replace r25047 := r25047.step hs
            replace r25995 := r25995.step hs
            obtain rfl := Option.some.inj q25947
            exact ⟨((upd x25694 (IntKind.i64.wrap (x25701.tdiv 32)) (IntKind.u32.wrap (x25996 + (IntKind.u32.wrap ((1 : Int) * 2 ^ min (IntKind.u64.wrap (x25701.tmod 32)).toNat (IntKind.u32).bits))))), x25990, e26014, v25994, I25993), (.c rfl (.c rfl (.c rfl (.c rfl (.c rfl .n))))), rfl, hp, r25044, r25047, o26015, r25995⟩
          ·
            have q25947 := cond_f q25947 hc
            apply go
            obtain rfl := Option.some.inj q25947
            exact ⟨(x25694, x25967, e25696, v25968, I25970), (.c rfl (.c rfl (.c rfl (.c rfl (.c rfl .n))))), rfl, hp, r25044, r25047, o25697, r25969⟩
      ·
        rintro ⟨x25937, x25941, e25939, v25942, I25944⟩ w25945 ⟨hy, hp, r25044, r25047, o25940, r25943⟩
        replace hy := hy.symm
        subst hy
        apply go
        exact ⟨_, (Option.some.inj q25865).symm, (e25939, v25942, I25944), (.c rfl (.c rfl (.c rfl (.c rfl (.c rfl .n))))), ⟨hp, r25044, r25047, o25940, r25943⟩⟩
    ·
      have q25865 := cond_f q25865 hc
      apply go
      have q26018 := congrArg some (q25866 _ (Option.some.inj q25865).symm)
      obtain rfl := Option.some.inj q26018
      exact ⟨(x25694, x25698, e25696, v25699, I25702), (.c rfl (.c rfl .n)), rfl, hp, o25697, r25700⟩
  ·
    rintro ⟨x25532, x25536, e25534, v25537, I25539⟩ w25540 ⟨hy, hp, o25535, r25538⟩
    replace hy := hy.symm
    subst hy
    apply go
    apply go
    have r26019 := o25535.frz hp (i := 0) rfl
    obtain ⟨hp, hs⟩ := freeze_hp hp (i := 0) rfl
    replace r25538 := r25538.step hs
    have hp := hp.sel [] (by decide)
    obtain ⟨x26020, q26021, h⟩ := bind_some h
    refine ev_call rfl rfl C64 (((ref01_trim_ok n) _ _  x25532 v25052 r26019 hp.imm _ q26021).mono ?_)
    rintro _ w26022 ⟨I26023, v26024, e26025, hv, hq, o26026⟩
    replace hv := hv.symm
    subst hv
    have hs := hq.st
    have hp := hp.join0 hq
    replace r25538 := r25538.step hs
    apply go
    obtain rfl := Option.some.inj h
    have r26027 := o26026.frz hp (i := 0) rfl
    obtain ⟨hp, hs⟩ := freeze_hp hp (i := 0) rfl
    replace r25538 := r25538.step hs
    have hp := hp.sel [] (by decide)
    exact ⟨(Ad I26023 e26025), v26024, v25537, rfl, hp, r26027, r25538⟩

end Go.Proofs.YtepadjfmcbjkmaaDoor

namespace Go.Proofs.YtepadjfmcbjkmaaDoor
open Go Go.Proofs.YtepadjfmcbjkmaaDoor.Gw Go.RowKit
set_option linter.unusedVariables false
attribute [local irreducible] Ev EvQ EvS EvH
def ref01_Sub_S (f : Int_2 → Int_2 → Option Int_2) : Prop := ∀ (w0 : World) (I0 : Nat → Prop) (x26160 : Int_2) (v26161 : Value) (r26162 : RepS (dI .u32) w0 I0 v26161 x26160.Mag) (x26163 : Int_2) (v26164 : Value) (r26165 : RepS (dI .u32) w0 I0 v26164 x26163.Mag) (hI : ∀ g, I0 g → g < w0.heap.size) (r : Int_2), f x26160 x26163 = some r →
    Ret Tryd.prog 93 #[(.agg #[(.bool x26160.Neg), v26161]), (.agg #[(.bool x26163.Neg), v26164])] w0 fun v w1 => ∃ (I1 : Nat → Prop) (u26166 : Value), v = (.agg #[(.bool r.Neg), u26166]) ∧ Hp ⟨w0, I0, []⟩ I1 [] w1 ∧ RepS (dI .u32) w1 I1 u26166 r.Mag
theorem ref01_Sub_ok (n : Nat) : ref01_Sub_S (ref01_Sub n) := by
  intro w0 I0 x26160 v26161 r26162 x26163 v26164 r26165 hI r h
  unfold ref01_Sub at h
  refine enter Tryd.func93 rfl (Nat.le_of_ble_eq_true rfl) ?_
  have hp : Hp ⟨w0, I0, []⟩ I0 [] w0 := Hp.start hI
  apply go
  apply go
  refine ev_boxI hp rfl rfl ?_
  intro p26169 I26170 w26168 hp hs a26171
  replace r26165 := r26165.step hs
  replace r26162 := r26162.step hs
  refine ev_boxI hp rfl rfl ?_
  intro p26174 I26175 w26173 hp hs a26176
  replace a26171 := a26171.step hs
  replace r26162 := r26162.step hs
  replace r26165 := r26165.step hs
  refine ev_alloc hp rfl T24 ?_
  intro g26177 w26178 hp hs
  replace a26171 := a26171.step hs
  replace r26162 := r26162.step hs
  replace a26176 := a26176.step hs
  replace r26165 := r26165.step hs
  apply go
  have hs := hp.stp (Ch.drew [] w26178)
  have hp := hp.drew
  replace a26171 := a26171.step hs
  replace r26162 := r26162.step hs
  replace a26176 := a26176.step hs
  replace r26165 := r26165.step hs
  refine W.held [(0, true), (1, true), (2, false), (3, false), (4, false)] (Stp I26175 w26178.drew I26175) MX (by kernel_rfl) (Stp.refl _ _) ?_
  have hz := Stp.refl I26175 w26178.drew
  refine evh (fun w' hw => rn_load rfl rfl (run_loadVarA T24 rfl (a26171.step hw))) ?_
  refine evh (fun w' hw => rn_load rfl rfl (run_loadVarA T24 rfl (a26176.step hw))) ?_
  obtain ⟨x26192, q26193, h⟩ := bind_some h
  refine ev_call rfl rfl C50 (((ref01_Neg_ok n) _ _  (Int_2.mk x26163.Neg x26163.Mag) v26164 r26165 hp.imm _ q26193).mono ?_)
  rintro _ w26194 ⟨I26195, v26196, hv, hq, r26197⟩
  replace hv := hv.symm
  subst hv
  have hs := hq.st
  have hp := hp.join0 hq
  replace hz := hz.trans hs
  replace r26162 := r26162.step hs
  refine ⟨Stp I26195 w26194 I26195, Stp.refl _ _, fun x hx => hz.held hx, ?_⟩
  have hz := Stp.refl I26195 w26194
  obtain ⟨x26198, q26199, h⟩ := bind_some h
  refine ev_call rfl rfl C48 (((ref01_Add_ok n) _ _  (Int_2.mk x26160.Neg x26160.Mag) v26161 r26162 x26192 v26196 r26197 hp.imm _ q26199).mono ?_)
  rintro _ w26200 ⟨I26201, v26202, hv, hq, r26203⟩
  replace hv := hv.symm
  subst hv
  have hs := hq.st
  have hp := hp.join0 hq
  replace hz := hz.trans hs
  refine ⟨Stp I26201 w26200 I26201, Stp.refl _ _, fun x hx => hz.held hx, ?_⟩
  have hz := Stp.refl I26201 w26200
  refine ev_storeA hp (i := 0) (off := 0) (vs := [(.bool x26198.Neg), v26202]) rfl rfl rfl rfl T24 rfl (Nat.le_of_ble_eq_true rfl) (ones_cons rfl (ones_cons r26203.one ones_nil)) ?_
  intro w26204 hp hs
  replace hz := hz.trans hs
  replace r26203 := r26203.step hs
  refine ⟨Stp I26201 w26204 I26201, Stp.refl _ _, fun x hx => hz.held hx, ?_⟩
  have hz := Stp.refl I26201 w26204
  apply go
  obtain rfl := Option.some.inj h
  refine ⟨_, run_loadVarA T24 rfl (hp.at_ (i := 0) rfl), ?_⟩
  have hp := hp.sel [] (by decide)
  exact ⟨I26201, v26202, rfl, hp, r26203⟩

end Go.Proofs.YtepadjfmcbjkmaaDoor

namespace Go.Proofs.YtepadjfmcbjkmaaDoor
open Go Go.Proofs.YtepadjfmcbjkmaaDoor.Gw Go.RowKit
set_option linter.unusedVariables false
attribute [local irreducible] Ev EvQ EvS EvH
def ref01_DivMod_S (f : Int_2 → Int_2 → Option (Int_2 × Int_2 × Int)) : Prop := ∀ (w0 : World) (I0 : Nat → Prop) (x26205 : Int_2) (v26206 : Value) (r26207 : RepS (dI .u32) w0 I0 v26206 x26205.Mag) (x26208 : Int_2) (v26209 : Value) (r26210 : RepS (dI .u32) w0 I0 v26209 x26208.Mag) (hI : ∀ g, I0 g → g < w0.heap.size) (r : (Int_2 × Int_2 × Int)), f x26205 x26208 = some r →
    Ret Tryd.prog 79 #[(.agg #[(.bool x26205.Neg), v26206]), (.agg #[(.bool x26208.Neg), v26209])] w0 fun v w1 => ∃ (I1 : Nat → Prop) (u26211 : Value) (u26212 : Value), v = (.tuple #[(.agg #[(.bool r.1.Neg), u26211]), (.agg #[(.bool r.2.1.Neg), u26212]), (.int .i64 r.2.2)]) ∧ Hp ⟨w0, I0, []⟩ I1 [] w1 ∧ RepS (dI .u32) w1 I1 u26211 r.1.Mag ∧ RepS (dI .u32) w1 I1 u26212 r.2.1.Mag
theorem ref01_DivMod_ok (n : Nat) : ref01_DivMod_S (ref01_DivMod n) := by
  intro w0 I0 x26205 v26206 r26207 x26208 v26209 r26210 hI r h
  unfold ref01_DivMod at h
  refine enter Tryd.func79 rfl (Nat.le_of_ble_eq_true rfl) ?_
  have hp : Hp ⟨w0, I0, []⟩ I0 [] w0 := Hp.start hI
  apply go
  apply go
  refine ev_boxI hp rfl rfl ?_
  intro p26215 I26216 w26214 hp hs a26217
  replace r26210 := r26210.step hs
  replace r26207 := r26207.step hs
  refine ev_boxI hp rfl rfl ?_
  intro p26220 I26221 w26219 hp hs a26222
  replace a26217 := a26217.step hs
  replace r26207 := r26207.step hs
  replace r26210 := r26210.step hs
  refine ev_alloc hp rfl T24 ?_
  intro g26223 w26224 hp hs
  replace a26217 := a26217.step hs
  replace r26207 := r26207.step hs
  replace a26222 := a26222.step hs
  replace r26210 := r26210.step hs
  refine ev_alloc hp rfl T24 ?_
  intro g26225 w26226 hp hs
  replace a26217 := a26217.step hs
  replace r26207 := r26207.step hs
  replace a26222 := a26222.step hs
  replace r26210 := r26210.step hs
  apply go
  apply go
  apply go
  refine ev (rn_load rfl rfl (run_loadVarA T24 rfl a26222)) ?_
  obtain ⟨x26227, q26228, h⟩ := bind_some h
  refine ev_call rfl rfl C45 (((ref01_Sign_ok n) _ _  (Int_2.mk x26208.Neg x26208.Mag) v26209 r26210 hp.imm _ q26228).mono ?_)
  rintro _ w26229 ⟨rfl, hc⟩
  have hs := hp.stp hc
  replace hp := hp.ext hc
  replace a26217 := a26217.step hs
  replace r26207 := r26207.step hs
  replace a26222 := a26222.step hs
  replace r26210 := r26210.step hs
  apply go
  refine sel_of (fun hc => ?_) (fun hc => ?_)
  ·
    have h := cond_t h hc
    apply go
    apply go
    refine ev0 (fun w => rn_build (cs := [(.bool false), (.slice none 0 0)]) rfl rfl T24 PL24 rfl) ?_
    refine ev0 (fun w => rn_build (cs := [(.bool false), (.slice none 0 0)]) rfl rfl T24 PL24 rfl) ?_
    refine ev_storeA hp (i := 1) (off := 0) (vs := [(.bool false), (.slice none 0 0)]) rfl rfl rfl rfl T24 rfl (Nat.le_of_ble_eq_true rfl) (ones_of rfl) ?_
    intro w26230 hp hs
    refine ev_storeA hp (i := 0) (off := 0) (vs := [(.bool false), (.slice none 0 0)]) rfl rfl rfl rfl T24 rfl (Nat.le_of_ble_eq_true rfl) (ones_of rfl) ?_
    intro w26231 hp hs
    apply go
    obtain rfl := Option.some.inj h
    refine ⟨_, run_loadVarA T24 rfl (hp.at_ (i := 1) rfl), ?_⟩
    refine ⟨_, run_loadVarA T24 rfl (hp.at_ (i := 0) rfl), ?_⟩
    have hp := hp.sel [] (by decide)
    exact ⟨I26221, .slice none 0 0, .slice none 0 0, rfl, hp, RepS.nil _ _ _, RepS.nil _ _ _⟩
  ·
    have h := cond_f h hc
    apply go
    apply go
    have hs := hp.stp (Ch.drew [] w26229)
    have hp := hp.drew
    replace a26217 := a26217.step hs
    replace r26207 := r26207.step hs
    replace a26222 := a26222.step hs
    replace r26210 := r26210.step hs
    refine W.held [(0, true), (1, true), (3, true), (4, true), (2, false), (5, false), (6, false), (7, true), (8, true), (9, true), (10, true), (11, true)] (Stp I26221 w26229.drew I26221) MX (by kernel_rfl) (Stp.refl _ _) ?_
    have hz := Stp.refl I26221 w26229.drew
    refine evh0 (rn_field rfl rfl FO24_1) ?_
    refine evh (fun w' hw => rn_load rfl rfl (run_loadVar1 T22 ((a26217.step hw).2 1 _ rfl))) ?_
    refine evh0 (rn_field rfl rfl FO24_1) ?_
    refine evh (fun w' hw => rn_load rfl rfl (run_loadVar1 T22 ((a26222.step hw).2 1 _ rfl))) ?_
    obtain ⟨x26257, q26258, h⟩ := bind_some h
    refine ev_call rfl rfl C64 (((ref01_trim_ok n) _ _  x26205.Mag v26206 r26207 hp.imm _ q26258).mono ?_)
    rintro _ w26259 ⟨I26260, v26261, e26262, hv, hq, o26263⟩
    replace hv := hv.symm
    subst hv
    have hs := hq.st
    have hp := hp.join0 hq
    replace hz := hz.trans hs
    replace a26217 := a26217.step hs
    replace r26207 := r26207.step hs
    replace a26222 := a26222.step hs
    replace r26210 := r26210.step hs
    refine ⟨Stp I26260 w26259 I26260, Stp.refl _ _, fun x hx => hz.held hx, ?_⟩
    have hz := Stp.refl I26260 w26259
    obtain ⟨x26264, q26265, h⟩ := bind_some h
    refine ev_call rfl rfl C64 (((ref01_trim_ok n) _ _  x26208.Mag v26209 r26210 hp.imm _ q26265).mono ?_)
    rintro _ w26266 ⟨I26267, v26268, e26269, hv, hq, o26270⟩
    replace hv := hv.symm
    subst hv
    have hs := hq.st
    have hp := hp.join0 hq
    replace hz := hz.trans hs
    replace a26217 := a26217.step hs
    replace r26207 := r26207.step hs
    replace a26222 := a26222.step hs
    replace r26210 := r26210.step hs
    replace o26263 := o26263.step hs
    refine ⟨Stp I26267 w26266 I26267, Stp.refl _ _, fun x hx => hz.held hx, ?_⟩
    have hz := Stp.refl I26267 w26266
    have r26271 := o26263.frz hp (i := 1) rfl
    obtain ⟨hp, hs⟩ := freeze_hp hp (i := 1) rfl
    replace hz := hz.trans hs
    replace a26217 := a26217.step hs
    replace r26207 := r26207.step hs
    replace a26222 := a26222.step hs
    replace r26210 := r26210.step hs
    replace o26270 := o26270.step hs
    have hp := hp.sel [0, 2, 3] (by decide)
    have r26272 := o26270.frz hp (i := 0) rfl
    obtain ⟨hp, hs⟩ := freeze_hp hp (i := 0) rfl
    replace hz := hz.trans hs
    replace a26217 := a26217.step hs
    replace r26207 := r26207.step hs
    replace a26222 := a26222.step hs
    replace r26210 := r26210.step hs
    replace r26271 := r26271.step hs
    have hp := hp.sel [1, 2] (by decide)
    obtain ⟨⟨x26273, x26274⟩, q26275, h⟩ := bind_some h
    refine ev_call rfl rfl C92 (((ref01_divide_ok n) _ _  x26257 v26261 r26271 x26264 v26268 r26272 hp.imm _ q26275).mono ?_)
    rintro _ w26276 ⟨I26277, v26278, v26280, hv, hq, r26279, r26281⟩
    replace hv := hv.symm
    subst hv
    have hs := hq.st
    have hp := hp.join0 hq
    replace hz := hz.trans hs
    replace a26217 := a26217.step hs
    replace r26207 := r26207.step hs
    replace a26222 := a26222.step hs
    replace r26210 := r26210.step hs
    refine ⟨Stp I26277 w26276 I26277, Stp.refl _ _, fun x hx => hz.held hx, ?_⟩
    have hz := Stp.refl I26277 w26276
    apply go
    apply go
    refine ev0 (rn_field rfl rfl FO24_0) ?_
    refine ev (rn_load rfl rfl (run_loadVar1 T4 (a26217.2 0 _ rfl))) ?_
    refine ev0 (rn_field rfl rfl FO24_0) ?_
    refine ev (rn_load rfl rfl (run_loadVar1 T4 (a26222.2 0 _ rfl))) ?_
    refine ev0 (rn_neB rfl rfl rfl Tryd.underlying4) ?_
    obtain ⟨A26282, m26283, m26284, rfl⟩ := r26279.isSl
    refine ev0 (fun w => rn_build (cs := [(.bool (!(x26205.Neg == x26208.Neg))), (.slice A26282 m26283 m26284)]) rfl rfl T24 PL24 rfl) ?_
    obtain ⟨x26286, q26287, h⟩ := bind_some h
    refine ev_call rfl rfl C59 (((ref01_Norm_ok n) _ _  (Int_2.mk (!(x26205.Neg == x26208.Neg)) x26273) (.slice A26282 m26283 m26284) r26279 hp.imm _ q26287).mono ?_)
    rintro _ w26288 ⟨I26289, v26290, hv, hq, r26291⟩
    replace hv := hv.symm
    subst hv
    have hs := hq.st
    have hp := hp.join0 hq
    replace a26217 := a26217.step hs
    replace r26207 := r26207.step hs
    replace a26222 := a26222.step hs
    replace r26210 := r26210.step hs
    replace r26281 := r26281.step hs
    refine ev_alloc hp rfl T24 ?_
    intro g26292 w26293 hp hs
    replace a26217 := a26217.step hs
    replace r26207 := r26207.step hs
    replace a26222 := a26222.step hs
    replace r26210 := r26210.step hs
    replace r26281 := r26281.step hs
    replace r26291 := r26291.step hs
    refine ev_storeA hp (i := 0) (off := 0) (vs := [(.bool x26286.Neg), v26290]) rfl rfl rfl rfl T24 rfl (Nat.le_of_ble_eq_true rfl) (ones_cons rfl (ones_cons r26291.one ones_nil)) ?_
    intro w26294 hp hs
    replace a26217 := a26217.step hs
    replace r26207 := r26207.step hs
    replace a26222 := a26222.step hs
    replace r26210 := r26210.step hs
    replace r26281 := r26281.step hs
    replace r26291 := r26291.step hs
    apply go
    apply go
    refine ev0 (rn_field rfl rfl FO24_0) ?_
    refine ev (rn_load rfl rfl (run_loadVar1 T4 (a26217.2 0 _ rfl))) ?_
    obtain ⟨A26295, m26296, m26297, rfl⟩ := r26281.isSl
    refine ev0 (fun w => rn_build (cs := [(.bool x26205.Neg), (.slice A26295 m26296 m26297)]) rfl rfl T24 PL24 rfl) ?_
    obtain ⟨x26299, q26300, h⟩ := bind_some h
    refine ev_call rfl rfl C59 (((ref01_Norm_ok n) _ _  (Int_2.mk x26205.Neg x26274) (.slice A26295 m26296 m26297) r26281 hp.imm _ q26300).mono ?_)
    rintro _ w26301 ⟨I26302, v26303, hv, hq, r26304⟩
    replace hv := hv.symm
    subst hv
    have hs := hq.st
    have hp := hp.join0 hq
    replace a26222 := a26222.step hs
    replace r26210 := r26210.step hs
    replace r26291 := r26291.step hs
    refine ev_alloc hp rfl T24 ?_
    intro g26305 w26306 hp hs
    replace a26222 := a26222.step hs
    replace r26210 := r26210.step hs
    replace r26304 := r26304.step hs
    replace r26291 := r26291.step hs
    refine ev_storeA hp (i := 0) (off := 0) (vs := [(.bool x26299.Neg), v26303]) rfl rfl rfl rfl T24 rfl (Nat.le_of_ble_eq_true rfl) (ones_cons rfl (ones_cons r26304.one ones_nil)) ?_
    intro w26307 hp hs
    replace a26222 := a26222.step hs
    replace r26210 := r26210.step hs
    replace r26304 := r26304.step hs
    replace r26291 := r26291.step hs
    obtain ⟨y26396, q26397, h⟩ := bind_some h
    refine W.cut (γ := (Bool × (List Int) × Bool × (List Int) × Value × Value × (Nat → Prop))) (fun g => [(4, (.pointer (some ⟨g26223, 0, none⟩))), (5, (.pointer (some ⟨g26225, 0, none⟩))), (9, (.pointer (some ⟨g26292, 0, none⟩))), (10, (.pointer (some ⟨g26305, 0, none⟩)))]) (fun g w' => y26396 = ((g.1), (g.2.1), (g.2.2.1), (g.2.2.2.1)) ∧ Hp ⟨w0, I0, []⟩ (g.2.2.2.2.2.2) [some (g26223, [(.bool false), (.slice none 0 0)], 24), some (g26225, [(.bool false), (.slice none 0 0)], 24), some (g26292, [(.bool (g.1)), (g.2.2.2.2.1)], 24), some (g26305, [(.bool (g.2.2.1)), (g.2.2.2.2.2.1)], 24)] w' ∧ RepS (dI .u32) w' (g.2.2.2.2.2.2) (g.2.2.2.2.1) (g.2.1) ∧ RepS (dI .u32) w' (g.2.2.2.2.2.2) (g.2.2.2.2.2.1) (g.2.2.2.1)) ?_ ?_
    ·
      apply go
      apply go
      refine ev0 (rn_field rfl rfl FO24_0) ?_
      refine ev (rn_load rfl rfl (run_loadVar1 T4 (hp.cell (i := 0) (off := 0) rfl rfl))) ?_
      apply go
      refine sel_of (fun hc => ?_) (fun hc => ?_)
      ·
        have q26397 := cond_t q26397 hc
        apply go
        have hs := hp.stp (Ch.drew [] w26307)
        have hp := hp.drew
        replace a26222 := a26222.step hs
        replace r26210 := r26210.step hs
        replace r26304 := r26304.step hs
        replace r26291 := r26291.step hs
        refine W.heldG (.q 0 (.q 1 (.l 2 (.l 3 (.l 4 .done .no) .no) .no))) (SK (Stp I26302 w26307.drew I26302) [(g26305, [(.bool x26299.Neg), v26303], 24)] [[4]]) MX (by kernel_rfl) ⟨Stp.refl _ _, (kp_cons (fun _ => (hp.own 0 _ _ _ rfl).1) kp_nil)⟩ ?_
        have hz := Stp.refl I26302 w26307.drew
        refine ⟨SK.same (by kernel_rfl), ?_⟩
        refine evh (fun w' hw => rn_load rfl rfl (run_loadVarA T24 rfl ((S0.keep (p := 0) hw rfl rfl (by kernel_rfl)).at_ (i := 0) rfl))) ?_
        refine ⟨SK.same (by kernel_rfl), ?_⟩
        refine evh (fun w' hw => rn_load rfl rfl (run_loadVarA T24 rfl (a26222.step (S0.si hw)))) ?_
        refine ⟨?_, trivial⟩
        obtain ⟨x26411, q26412, q26397⟩ := bind_some q26397
        refine ev_call rfl rfl C77 (((ref01_Abs_ok n) _ _  (Int_2.mk x26208.Neg x26208.Mag) v26209 r26210 hp.imm _ q26412).mono ?_)
        rintro _ w26413 ⟨I26414, v26415, hv, hq, r26416⟩
        replace hv := hv.symm
        subst hv
        have hs := hq.st
        have hp := hp.join0 hq
        replace hz := hz.trans hs
        replace a26222 := a26222.step hs
        replace r26210 := r26210.step hs
        replace r26304 := r26304.step hs
        replace r26291 := r26291.step hs
        refine ⟨SK (Stp I26414 w26413 I26414) [(g26305, [(.bool x26299.Neg), v26303], 24)] [[4]], ⟨Stp.refl _ _, (kp_cons (fun _ => (hp.own 0 _ _ _ rfl).1) kp_nil)⟩, fun L x h => ⟨hz.held h.1, h.2⟩, ?_⟩
        have hz := Stp.refl I26414 w26413
        refine ⟨?_, trivial⟩
        obtain ⟨x26417, q26418, q26397⟩ := bind_some q26397
        refine ev_call rfl rfl C48 (((ref01_Add_ok n) _ _  (Int_2.mk x26299.Neg x26299.Mag) v26303 r26304 x26411 v26415 r26416 hp.imm _ q26418).mono ?_)
        rintro _ w26419 ⟨I26420, v26421, hv, hq, r26422⟩
        replace hv := hv.symm
        subst hv
        have hs := hq.st
        have hp := hp.join0 hq
        replace hz := hz.trans hs
        replace a26222 := a26222.step hs
        replace r26210 := r26210.step hs
        replace r26304 := r26304.step hs
        replace r26291 := r26291.step hs
        refine ⟨SK (Stp I26420 w26419 I26420) [(g26305, [(.bool x26299.Neg), v26303], 24)] [[4]], ⟨Stp.refl _ _, (kp_cons (fun _ => (hp.own 0 _ _ _ rfl).1) kp_nil)⟩, fun L x h => ⟨hz.held h.1, h.2⟩, ?_⟩
        have hz := Stp.refl I26420 w26419
        refine ⟨?_, trivial⟩
        refine ev_storeA hp (i := 0) (off := 0) (vs := [(.bool x26417.Neg), v26421]) rfl rfl rfl rfl T24 rfl (Nat.le_of_ble_eq_true rfl) (ones_cons rfl (ones_cons r26422.one ones_nil)) ?_
        intro w26423 hp hs
        replace hz := hz.trans hs
        replace a26222 := a26222.step hs
        replace r26210 := r26210.step hs
        replace r26422 := r26422.step hs
        replace r26291 := r26291.step hs
        refine ⟨SK (Stp I26420 w26423 I26420) [(g26305, [(.bool x26299.Neg), v26303], 24)] [[4]], ⟨Stp.refl _ _, (kp_cons (kp_off (by kernel_rfl)) kp_nil)⟩, fun L x h => ⟨hz.held h.1, h.2⟩, ?_⟩
        have hz := Stp.refl I26420 w26423
        apply go
        apply go
        refine ev0 (rn_field rfl rfl FO24_0) ?_
        refine ev (rn_load rfl rfl (run_loadVar1 T4 (a26222.2 0 _ rfl))) ?_
        apply go
        refine sel_of (fun hc => ?_) (fun hc => ?_)
        ·
          have q26397 := cond_t q26397 hc
          have hs := hp.stp (Ch.drew [] w26423)
          have hp := hp.drew
          replace r26422 := r26422.step hs
          replace r26291 := r26291.step hs
          refine W.heldG (.q 0 (.l 1 (.l 2 (.l 3 .done .no) .no) .no)) (SK (Stp I26420 w26423.drew I26420) [(g26292, [(.bool x26286.Neg), v26290], 24)] [[3]]) MX (by kernel_rfl) ⟨Stp.refl _ _, (kp_cons (fun _ => (hp.own 1 _ _ _ rfl).1) kp_nil)⟩ ?_
          have hz := Stp.refl I26420 w26423.drew
          refine ⟨SK.same (by kernel_rfl), ?_⟩
          refine evh (fun w' hw => rn_load rfl rfl (run_loadVarA T24 rfl ((S0.keep (p := 0) hw rfl rfl (by kernel_rfl)).at_ (i := 0) rfl))) ?_
          refine ⟨?_, trivial⟩
          obtain ⟨x26437, q26438, q26397⟩ := bind_some q26397
          refine ev_call rfl rfl C40 (((ref01_Of_ok n) _ _  1 hp.imm _ q26438).mono ?_)
          rintro _ w26439 ⟨I26440, v26441, hv, hq, r26442⟩
          replace hv := hv.symm
          subst hv
          have hs := hq.st
          have hp := hp.join0 hq
          replace hz := hz.trans hs
          replace r26291 := r26291.step hs
          replace r26422 := r26422.step hs
          refine ⟨SK (Stp I26440 w26439 I26440) [(g26292, [(.bool x26286.Neg), v26290], 24)] [[3]], ⟨Stp.refl _ _, (kp_cons (fun _ => (hp.own 1 _ _ _ rfl).1) kp_nil)⟩, fun L x h => ⟨hz.held h.1, h.2⟩, ?_⟩
          have hz := Stp.refl I26440 w26439
          refine ⟨?_, trivial⟩
          obtain ⟨x26443, q26444, q26397⟩ := bind_some q26397
          refine ev_call rfl rfl C48 (((ref01_Add_ok n) _ _  (Int_2.mk x26286.Neg x26286.Mag) v26290 r26291 x26437 v26441 r26442 hp.imm _ q26444).mono ?_)
          rintro _ w26445 ⟨I26446, v26447, hv, hq, r26448⟩
          replace hv := hv.symm
          subst hv
          have hs := hq.st
          have hp := hp.join0 hq
          replace hz := hz.trans hs
          replace r26422 := r26422.step hs
          replace r26291 := r26291.step hs
          refine ⟨SK (Stp I26446 w26445 I26446) [(g26292, [(.bool x26286.Neg), v26290], 24)] [[3]], ⟨Stp.refl _ _, (kp_cons (fun _ => (hp.own 1 _ _ _ rfl).1) kp_nil)⟩, fun L x h => ⟨hz.held h.1, h.2⟩, ?_⟩
          have hz := Stp.refl I26446 w26445
          refine ⟨?_, trivial⟩
          refine ev_storeA hp (i := 1) (off := 0) (vs := [(.bool x26443.Neg), v26447]) rfl rfl rfl rfl T24 rfl (Nat.le_of_ble_eq_true rfl) (ones_cons rfl (ones_cons r26448.one ones_nil)) ?_
          intro w26449 hp hs
          replace hz := hz.trans hs
          replace r26422 := r26422.step hs
          replace r26448 := r26448.step hs
          refine ⟨SK (Stp I26446 w26449 I26446) [(g26292, [(.bool x26286.Neg), v26290], 24)] [[3]], ⟨Stp.refl _ _, (kp_cons (kp_off (by kernel_rfl)) kp_nil)⟩, fun L x h => ⟨hz.held h.1, h.2⟩, ?_⟩
          have hz := Stp.refl I26446 w26449
          obtain rfl := Option.some.inj q26397
          have hp := hp.perm [3, 2, 1, 0] (by decide)
          exact ⟨(x26443.Neg, x26443.Mag, x26417.Neg, x26417.Mag, v26447, v26421, I26446), (.c rfl (.c rfl (.c rfl (.c rfl .n)))), rfl, hp, r26448, r26422⟩
        ·
          have q26397 := cond_f q26397 hc
          have hs := hp.stp (Ch.drew [] w26423)
          have hp := hp.drew
          replace r26422 := r26422.step hs
          replace r26291 := r26291.step hs
          refine W.heldG (.q 0 (.l 1 (.l 2 (.l 3 .done .no) .no) .no)) (SK (Stp I26420 w26423.drew I26420) [(g26292, [(.bool x26286.Neg), v26290], 24)] [[3]]) MX (by kernel_rfl) ⟨Stp.refl _ _, (kp_cons (fun _ => (hp.own 1 _ _ _ rfl).1) kp_nil)⟩ ?_
          have hz := Stp.refl I26420 w26423.drew
          refine ⟨SK.same (by kernel_rfl), ?_⟩
          refine evh (fun w' hw => rn_load rfl rfl (run_loadVarA T24 rfl ((S0.keep (p := 0) hw rfl rfl (by kernel_rfl)).at_ (i := 0) rfl))) ?_
          refine ⟨?_, trivial⟩
          obtain ⟨x26463, q26464, q26397⟩ := bind_some q26397
          refine ev_call rfl rfl C40 (((ref01_Of_ok n) _ _  1 hp.imm _ q26464).mono ?_)
          rintro _ w26465 ⟨I26466, v26467, hv, hq, r26468⟩
          replace hv := hv.symm
          subst hv
          have hs := hq.st
          have hp := hp.join0 hq
          replace hz := hz.trans hs
          replace r26291 := r26291.step hs
          replace r26422 := r26422.step hs
          refine ⟨SK (Stp I26466 w26465 I26466) [(g26292, [(.bool x26286.Neg), v26290], 24)] [[3]], ⟨Stp.refl _ _, (kp_cons (fun _ => (hp.own 1 _ _ _ rfl).1) kp_nil)⟩, fun L x h => ⟨hz.held h.1, h.2⟩, ?_⟩
          have hz := Stp.refl I26466 w26465
          refine ⟨?_, trivial⟩
          obtain ⟨x26469, q26470, q26397⟩ := bind_some q26397
          refine ev_call rfl rfl C93 (((ref01_Sub_ok n) _ _  (Int_2.mk x26286.Neg x26286.Mag) v26290 r26291 x26463 v26467 r26468 hp.imm _ q26470).mono ?_)
          rintro _ w26471 ⟨I26472, v26473, hv, hq, r26474⟩
          replace hv := hv.symm
          subst hv
          have hs := hq.st
          have hp := hp.join0 hq
          replace hz := hz.trans hs
          replace r26422 := r26422.step hs
          replace r26291 := r26291.step hs
          refine ⟨SK (Stp I26472 w26471 I26472) [(g26292, [(.bool x26286.Neg), v26290], 24)] [[3]], ⟨Stp.refl _ _, (kp_cons (fun _ => (hp.own 1 _ _ _ rfl).1) kp_nil)⟩, fun L x h => ⟨hz.held h.1, h.2⟩, ?_⟩
          have hz := Stp.refl I26472 w26471
          refine ⟨?_, trivial⟩
          refine ev_storeA hp (i := 1) (off := 0) (vs := [(.bool x26469.Neg), v26473]) rfl rfl rfl rfl T24 rfl (Nat.le_of_ble_eq_true rfl) (ones_cons rfl (ones_cons r26474.one ones_nil)) ?_
          intro w26475 hp hs
          replace hz := hz.trans hs
          replace r26422 := r26422.step hs
          replace r26474 := r26474.step hs
          refine ⟨SK (Stp I26472 w26475 I26472) [(g26292, [(.bool x26286.Neg), v26290], 24)] [[3]], ⟨Stp.refl _ _, (kp_cons (kp_off (by kernel_rfl)) kp_nil)⟩, fun L x h => ⟨hz.held h.1, h.2⟩, ?_⟩
          have hz := Stp.refl I26472 w26475
          obtain rfl := Option.some.inj q26397
          have hp := hp.perm [3, 2, 1, 0] (by decide)
          exact ⟨(x26469.Neg, x26469.Mag, x26417.Neg, x26417.Mag, v26473, v26421, I26472), (.c rfl (.c rfl (.c rfl (.c rfl .n)))), rfl, hp, r26474, r26422⟩
      ·
        have q26397 := cond_f q26397 hc
        apply go
        obtain rfl := Option.some.inj q26397
        have hp := hp.perm [3, 2, 1, 0] (by decide)
        exact ⟨(x26286.Neg, x26286.Mag, x26299.Neg, x26299.Mag, v26290, v26303, I26302), (.c rfl (.c rfl (.c rfl (.c rfl .n)))), rfl, hp, r26291, r26304⟩
    ·
      rintro ⟨x26386, x26387, x26390, x26391, v26388, v26392, I26394⟩ w26395 ⟨hy, hp, r26389, r26393⟩
      replace hy := hy.symm
      subst hy
      apply go
      have hs := hp.stp (Ch.drew [] w26395)
      have hp := hp.drew
      replace r26389 := r26389.step hs
      replace r26393 := r26393.step hs
      refine W.held [(0, true), (1, true), (2, false), (3, false), (4, true)] (fun x => Stp I26394 w26395.drew I26394 x ∧ OwnK [(g26292, [(.bool x26386), v26388], 24), (g26305, [(.bool x26390), v26392], 24)] x) MX (by kernel_rfl) ⟨Stp.refl _ _, (OwnK.cons (hp.own 2 _ _ _ rfl).1 (OwnK.cons (hp.own 3 _ _ _ rfl).1 OwnK.nil))⟩ ?_
      have hz := Stp.refl I26394 w26395.drew
      refine evh (fun w' hw => rn_load rfl rfl (run_loadVarA T24 rfl (hw.2.at_ (i := 0) rfl))) ?_
      refine evh (fun w' hw => rn_load rfl rfl (run_loadVarA T24 rfl (hw.2.at_ (i := 1) rfl))) ?_
      refine ev_storeA hp (i := 0) (off := 0) (vs := [(.bool x26386), v26388]) rfl rfl rfl rfl T24 rfl (Nat.le_of_ble_eq_true rfl) (ones_cons rfl (ones_cons r26389.one ones_nil)) ?_
      intro w26478 hp hs
      replace hz := hz.trans hs
      replace r26393 := r26393.step hs
      replace r26389 := r26389.step hs
      refine ⟨fun x => Stp I26394 w26478 I26394 x ∧ OwnK [(g26292, [(.bool x26386), v26388], 24), (g26305, [(.bool x26390), v26392], 24)] x, ⟨Stp.refl _ _, (OwnK.cons (hp.own 2 _ _ _ rfl).1 (OwnK.cons (hp.own 3 _ _ _ rfl).1 OwnK.nil))⟩, fun x hx => ⟨hz.held hx.1, hx.2⟩, ?_⟩
      have hz := Stp.refl I26394 w26478
      refine ev_storeA hp (i := 1) (off := 0) (vs := [(.bool x26390), v26392]) rfl rfl rfl rfl T24 rfl (Nat.le_of_ble_eq_true rfl) (ones_cons rfl (ones_cons r26393.one ones_nil)) ?_
      intro w26479 hp hs
      replace hz := hz.trans hs
      replace r26389 := r26389.step hs
      replace r26393 := r26393.step hs
      refine ⟨fun x => Stp I26394 w26479 I26394 x ∧ OwnK [(g26292, [(.bool x26386), v26388], 24), (g26305, [(.bool x26390), v26392], 24)] x, ⟨Stp.refl _ _, (OwnK.cons (hp.own 2 _ _ _ rfl).1 (OwnK.cons (hp.own 3 _ _ _ rfl).1 OwnK.nil))⟩, fun x hx => ⟨hz.held hx.1, hx.2⟩, ?_⟩
      have hz := Stp.refl I26394 w26479
      apply go
      obtain rfl := Option.some.inj h
      refine ⟨_, run_loadVarA T24 rfl (hp.at_ (i := 0) rfl), ?_⟩
      refine ⟨_, run_loadVarA T24 rfl (hp.at_ (i := 1) rfl), ?_⟩
      have hp := hp.sel [] (by decide)
      exact ⟨I26394, v26388, v26392, rfl, hp, r26389, r26393⟩

end Go.Proofs.YtepadjfmcbjkmaaDoor

namespace Go.Proofs.YtepadjfmcbjkmaaDoor
open Go Go.Proofs.YtepadjfmcbjkmaaDoor.Gw Go.RowKit
set_option linter.unusedVariables false
attribute [local irreducible] Ev EvQ EvS EvH
def ref02_part_S (f : Int_2 → Int_2 → Option Int_2) : Prop := ∀ (w0 : World) (I0 : Nat → Prop) (x26480 : Int_2) (v26481 : Value) (r26482 : RepS (dI .u32) w0 I0 v26481 x26480.Mag) (x26483 : Int_2) (v26484 : Value) (r26485 : RepS (dI .u32) w0 I0 v26484 x26483.Mag) (hI : ∀ g, I0 g → g < w0.heap.size) (r : Int_2), f x26480 x26483 = some r →
    Ret Tryd.prog 58 #[(.agg #[(.bool x26480.Neg), v26481]), (.agg #[(.bool x26483.Neg), v26484])] w0 fun v w1 => ∃ (I1 : Nat → Prop) (u26486 : Value), v = (.agg #[(.bool r.Neg), u26486]) ∧ Hp ⟨w0, I0, []⟩ I1 [] w1 ∧ RepS (dI .u32) w1 I1 u26486 r.Mag
theorem ref02_part_ok (n : Nat) : ref02_part_S (ref02_part n) := by
  intro w0 I0 x26480 v26481 r26482 x26483 v26484 r26485 hI r h
  unfold ref02_part at h
  refine enter Tryd.func58 rfl (Nat.le_of_ble_eq_true rfl) ?_
  have hp : Hp ⟨w0, I0, []⟩ I0 [] w0 := Hp.start hI
  apply go
  apply go
  refine ev_boxI hp rfl rfl ?_
  intro p26489 I26490 w26488 hp hs a26491
  replace r26485 := r26485.step hs
  replace r26482 := r26482.step hs
  refine ev_boxI hp rfl rfl ?_
  intro p26494 I26495 w26493 hp hs a26496
  replace a26491 := a26491.step hs
  replace r26482 := r26482.step hs
  replace r26485 := r26485.step hs
  refine ev_alloc hp rfl T24 ?_
  intro g26497 w26498 hp hs
  replace a26491 := a26491.step hs
  replace r26482 := r26482.step hs
  replace a26496 := a26496.step hs
  replace r26485 := r26485.step hs
  apply go
  apply go
  refine ev (rn_load rfl rfl (run_loadVarA T24 rfl a26491)) ?_
  refine ev (rn_load rfl rfl (run_loadVarA T24 rfl a26496)) ?_
  obtain ⟨⟨x26499, x26500, x26501⟩, q26502, h⟩ := bind_some h
  refine ev_call rfl rfl C79 (((ref01_DivMod_ok n) _ _  (Int_2.mk x26480.Neg x26480.Mag) v26481 r26482 (Int_2.mk x26483.Neg x26483.Mag) v26484 r26485 hp.imm _ q26502).mono ?_)
  rintro _ w26503 ⟨I26504, v26505, v26507, hv, hq, r26506, r26508⟩
  replace hv := hv.symm
  subst hv
  have hs := hq.st
  have hp := hp.join0 hq
  refine ev_alloc hp rfl T24 ?_
  intro g26509 w26510 hp hs
  replace r26506 := r26506.step hs
  replace r26508 := r26508.step hs
  refine ev_alloc hp rfl T24 ?_
  intro g26511 w26512 hp hs
  replace r26506 := r26506.step hs
  replace r26508 := r26508.step hs
  refine ev_storeA hp (i := 1) (off := 0) (vs := [(.bool x26499.Neg), v26505]) rfl rfl rfl rfl T24 rfl (Nat.le_of_ble_eq_true rfl) (ones_cons rfl (ones_cons r26506.one ones_nil)) ?_
  intro w26513 hp hs
  replace r26508 := r26508.step hs
  replace r26506 := r26506.step hs
  refine ev_storeA hp (i := 0) (off := 0) (vs := [(.bool x26500.Neg), v26507]) rfl rfl rfl rfl T24 rfl (Nat.le_of_ble_eq_true rfl) (ones_cons rfl (ones_cons r26508.one ones_nil)) ?_
  intro w26514 hp hs
  replace r26508 := r26508.step hs
  replace r26506 := r26506.step hs
  apply go
  apply go
  refine ev (rn_load rfl rfl (run_loadVarA T24 rfl (hp.at_ (i := 1) rfl))) ?_
  refine ev_storeA hp (i := 2) (off := 0) (vs := [(.bool x26499.Neg), v26505]) rfl rfl rfl rfl T24 rfl (Nat.le_of_ble_eq_true rfl) (ones_cons rfl (ones_cons r26506.one ones_nil)) ?_
  intro w26515 hp hs
  replace r26508 := r26508.step hs
  replace r26506 := r26506.step hs
  apply go
  obtain rfl := Option.some.inj h
  refine ⟨_, run_loadVarA T24 rfl (hp.at_ (i := 2) rfl), ?_⟩
  have hp := hp.sel [] (by decide)
  exact ⟨I26504, v26505, rfl, hp, r26506⟩

end Go.Proofs.YtepadjfmcbjkmaaDoor

namespace Go.Proofs.YtepadjfmcbjkmaaDoor
open Go Go.Proofs.YtepadjfmcbjkmaaDoor.Gw Go.RowKit
set_option linter.unusedVariables false
attribute [local irreducible] Ev EvQ EvS EvH
def ref02_New_S (f : Int_2 → Int_2 → Option Rational) : Prop := ∀ (w0 : World) (I0 : Nat → Prop) (x26516 : Int_2) (v26517 : Value) (r26518 : RepS (dI .u32) w0 I0 v26517 x26516.Mag) (x26519 : Int_2) (v26520 : Value) (r26521 : RepS (dI .u32) w0 I0 v26520 x26519.Mag) (hI : ∀ g, I0 g → g < w0.heap.size) (r : Rational), f x26516 x26519 = some r →
    Ret Tryd.prog 39 #[(.agg #[(.bool x26516.Neg), v26517]), (.agg #[(.bool x26519.Neg), v26520])] w0 fun v w1 => ∃ (I1 : Nat → Prop) (u26522 : Value) (u26523 : Value), v = (.agg #[(.bool r.Num.Neg), u26522, (.bool r.Den.Neg), u26523]) ∧ Hp ⟨w0, I0, []⟩ I1 [] w1 ∧ RepS (dI .u32) w1 I1 u26522 r.Num.Mag ∧ RepS (dI .u32) w1 I1 u26523 r.Den.Mag
theorem ref02_New_ok (n : Nat) : ref02_New_S (ref02_New n) := by
  intro w0 I0 x26516 v26517 r26518 x26519 v26520 r26521 hI r h
  unfold ref02_New at h
  refine enter Tryd.func39 rfl (Nat.le_of_ble_eq_true rfl) ?_
  have hp : Hp ⟨w0, I0, []⟩ I0 [] w0 := Hp.start hI
  apply go
  apply go
  refine ev_box hp rfl rfl ?_
  intro g26524 w26525 hp hs
  replace r26521 := r26521.step hs
  replace r26518 := r26518.step hs
  refine ev_box hp rfl rfl ?_
  intro g26526 w26527 hp hs
  replace r26521 := r26521.step hs
  replace r26518 := r26518.step hs
  refine ev_alloc hp rfl T26 ?_
  intro g26528 w26529 hp hs
  replace r26521 := r26521.step hs
  replace r26518 := r26518.step hs
  apply go
  obtain ⟨y26538, q26539, h⟩ := bind_some h
  refine W.cut (γ := Bool) (fun g => [(2, (.pointer (some ⟨g26524, 0, none⟩))), (3, (.pointer (some ⟨g26526, 0, none⟩))), (4, (.pointer (some ⟨g26528, 0, none⟩))), (13, (.bool (g)))]) (fun g w' => y26538 = (g) ∧ Hp ⟨w0, I0, []⟩ I0 [some (g26524, [(.bool x26516.Neg), v26517], 24), some (g26526, [(.bool x26519.Neg), v26520], 24), some (g26528, [(.bool false), (.slice none 0 0), (.bool false), (.slice none 0 0)], 26)] w' ∧ RepS (dI .u32) w' I0 v26517 x26516.Mag ∧ RepS (dI .u32) w' I0 v26520 x26519.Mag) ?_ ?_
  ·
    apply go
    refine ev (rn_load rfl rfl (run_loadVarA T24 rfl (hp.at_ (i := 2) rfl))) ?_
    obtain ⟨x26540, q26541, q26539⟩ := bind_some q26539
    refine ev_call rfl rfl C45 (((ref01_Sign_ok n) _ _  (Int_2.mk x26516.Neg x26516.Mag) v26517 r26518 hp.imm _ q26541).mono ?_)
    rintro _ w26542 ⟨rfl, hc⟩
    have hs := hp.stp hc
    replace hp := hp.ext hc
    replace r26521 := r26521.step hs
    replace r26518 := r26518.step hs
    refine sel_of (fun hc => ?_) (fun hc => ?_)
    ·
      have q26539 := cond_t q26539 hc
      obtain rfl := Option.some.inj q26539
      have hp := hp.perm [2, 1, 0] (by decide)
      exact ⟨true, (.c rfl (.c rfl (.c rfl (.c rfl .n)))), rfl, hp, r26518, r26521⟩
    ·
      have q26539 := cond_f q26539 hc
      refine ev (rn_load rfl rfl (run_loadVarA T24 rfl (hp.at_ (i := 1) rfl))) ?_
      obtain ⟨x26543, q26544, q26539⟩ := bind_some q26539
      refine ev_call rfl rfl C45 (((ref01_Sign_ok n) _ _  (Int_2.mk x26519.Neg x26519.Mag) v26520 r26521 hp.imm _ q26544).mono ?_)
      rintro _ w26545 ⟨rfl, hc⟩
      have hs := hp.stp hc
      replace hp := hp.ext hc
      replace r26521 := r26521.step hs
      replace r26518 := r26518.step hs
      obtain rfl := Option.some.inj q26539
      have hp := hp.perm [2, 1, 0] (by decide)
      exact ⟨(x26543 == 0), (.c rfl (.c rfl (.c rfl (.c rfl .n)))), rfl, hp, r26518, r26521⟩
  ·
    rintro x26536 w26537 ⟨hy, hp, r26518, r26521⟩
    replace hy := hy.symm
    subst hy
    apply go
    refine sel_of (fun hc => ?_) (fun hc => ?_)
    ·
      have h := cond_t h hc
      apply go
      apply go
      obtain ⟨x26546, q26547, h⟩ := bind_some h
      refine ev_call rfl rfl C40 (((ref01_Of_ok n) _ _  0 hp.imm _ q26547).mono ?_)
      rintro _ w26548 ⟨I26549, v26550, hv, hq, r26551⟩
      replace hv := hv.symm
      subst hv
      have hs := hq.st
      have hp := hp.join0 hq
      replace r26518 := r26518.step hs
      replace r26521 := r26521.step hs
      obtain ⟨x26552, q26553, h⟩ := bind_some h
      refine ev_call rfl rfl C56 (((ref02_One_ok n) _ _   hp.imm _ q26553).mono ?_)
      rintro _ w26554 ⟨I26555, v26556, hv, hq, r26557⟩
      replace hv := hv.symm
      subst hv
      have hs := hq.st
      have hp := hp.join0 hq
      replace r26551 := r26551.step hs
      replace r26518 := r26518.step hs
      replace r26521 := r26521.step hs
      obtain ⟨A26558, m26559, m26560, rfl⟩ := r26551.isSl
      obtain ⟨A26562, m26563, m26564, rfl⟩ := r26557.isSl
      refine ev0 (fun w => rn_build (cs := [(.bool x26546.Neg), (.slice A26558 m26559 m26560), (.bool x26552.Neg), (.slice A26562 m26563 m26564)]) rfl rfl T26 PL26 rfl) ?_
      refine ev_storeA hp (i := 2) (off := 0) (vs := [(.bool x26546.Neg), (.slice A26558 m26559 m26560), (.bool x26552.Neg), (.slice A26562 m26563 m26564)]) rfl rfl rfl rfl T26 rfl (Nat.le_of_ble_eq_true rfl) (ones_cons rfl (ones_cons r26551.one (ones_cons rfl (ones_cons r26557.one ones_nil)))) ?_
      intro w26566 hp hs
      replace r26518 := r26518.step hs
      replace r26521 := r26521.step hs
      replace r26551 := r26551.step hs
      replace r26557 := r26557.step hs
      apply go
      obtain rfl := Option.some.inj h
      refine ⟨_, run_loadVarA T26 rfl (hp.at_ (i := 2) rfl), ?_⟩
      have hp := hp.sel [] (by decide)
      exact ⟨I26555, (.slice A26558 m26559 m26560), (.slice A26562 m26563 m26564), rfl, hp, r26551, r26557⟩
    ·
      have h := cond_f h hc
      apply go
      obtain ⟨y26594, q26595, h⟩ := bind_some h
      refine W.cut (γ := (Bool × (List Int) × Bool × (List Int) × Value × Value × (Nat → Prop))) (fun g => [(2, (.pointer (some ⟨g26524, 0, none⟩))), (3, (.pointer (some ⟨g26526, 0, none⟩))), (4, (.pointer (some ⟨g26528, 0, none⟩)))]) (fun g w' => y26594 = ((g.1), (g.2.1), (g.2.2.1), (g.2.2.2.1)) ∧ Hp ⟨w0, I0, []⟩ (g.2.2.2.2.2.2) [some (g26524, [(.bool (g.1)), (g.2.2.2.2.1)], 24), some (g26526, [(.bool (g.2.2.1)), (g.2.2.2.2.2.1)], 24), some (g26528, [(.bool false), (.slice none 0 0), (.bool false), (.slice none 0 0)], 26)] w' ∧ RepS (dI .u32) w' (g.2.2.2.2.2.2) (g.2.2.2.2.1) (g.2.1) ∧ RepS (dI .u32) w' (g.2.2.2.2.2.2) (g.2.2.2.2.2.1) (g.2.2.2.1)) ?_ ?_
      ·
        apply go
        apply go
        refine ev (rn_load rfl rfl (run_loadVarA T24 rfl (hp.at_ (i := 1) rfl))) ?_
        obtain ⟨x26596, q26597, q26595⟩ := bind_some q26595
        refine ev_call rfl rfl C45 (((ref01_Sign_ok n) _ _  (Int_2.mk x26519.Neg x26519.Mag) v26520 r26521 hp.imm _ q26597).mono ?_)
        rintro _ w26598 ⟨rfl, hc⟩
        have hs := hp.stp hc
        replace hp := hp.ext hc
        replace r26518 := r26518.step hs
        replace r26521 := r26521.step hs
        apply go
        refine sel_of (fun hc => ?_) (fun hc => ?_)
        ·
          have q26595 := cond_t q26595 hc
          apply go
          apply go
          refine ev (rn_load rfl rfl (run_loadVarA T24 rfl (hp.at_ (i := 0) rfl))) ?_
          obtain ⟨x26599, q26600, q26595⟩ := bind_some q26595
          refine ev_call rfl rfl C50 (((ref01_Neg_ok n) _ _  (Int_2.mk x26516.Neg x26516.Mag) v26517 r26518 hp.imm _ q26600).mono ?_)
          rintro _ w26601 ⟨I26602, v26603, hv, hq, r26604⟩
          replace hv := hv.symm
          subst hv
          have hs := hq.st
          have hp := hp.join0 hq
          replace r26518 := r26518.step hs
          replace r26521 := r26521.step hs
          refine ev_storeA hp (i := 0) (off := 0) (vs := [(.bool x26599.Neg), v26603]) rfl rfl rfl rfl T24 rfl (Nat.le_of_ble_eq_true rfl) (ones_cons rfl (ones_cons r26604.one ones_nil)) ?_
          intro w26605 hp hs
          replace r26604 := r26604.step hs
          replace r26521 := r26521.step hs
          apply go
          refine ev (rn_load rfl rfl (run_loadVarA T24 rfl (hp.at_ (i := 1) rfl))) ?_
          obtain ⟨x26606, q26607, q26595⟩ := bind_some q26595
          refine ev_call rfl rfl C50 (((ref01_Neg_ok n) _ _  (Int_2.mk x26519.Neg x26519.Mag) v26520 r26521 hp.imm _ q26607).mono ?_)
          rintro _ w26608 ⟨I26609, v26610, hv, hq, r26611⟩
          replace hv := hv.symm
          subst hv
          have hs := hq.st
          have hp := hp.join0 hq
          replace r26604 := r26604.step hs
          replace r26521 := r26521.step hs
          refine ev_storeA hp (i := 1) (off := 0) (vs := [(.bool x26606.Neg), v26610]) rfl rfl rfl rfl T24 rfl (Nat.le_of_ble_eq_true rfl) (ones_cons rfl (ones_cons r26611.one ones_nil)) ?_
          intro w26612 hp hs
          replace r26604 := r26604.step hs
          replace r26611 := r26611.step hs
          obtain rfl := Option.some.inj q26595
          exact ⟨(x26599.Neg, x26599.Mag, x26606.Neg, x26606.Mag, v26603, v26610, I26609), (.c rfl (.c rfl (.c rfl .n))), rfl, hp, r26604, r26611⟩
        ·
          have q26595 := cond_f q26595 hc
          apply go
          obtain rfl := Option.some.inj q26595
          exact ⟨(x26516.Neg, x26516.Mag, x26519.Neg, x26519.Mag, v26517, v26520, I0), (.c rfl (.c rfl (.c rfl .n))), rfl, hp, r26518, r26521⟩
      ·
        rintro ⟨x26584, x26585, x26588, x26589, v26586, v26590, I26592⟩ w26593 ⟨hy, hp, r26587, r26591⟩
        replace hy := hy.symm
        subst hy
        apply go
        apply go
        refine ev (rn_load rfl rfl (run_loadVarA T24 rfl (hp.at_ (i := 0) rfl))) ?_
        refine ev (rn_load rfl rfl (run_loadVarA T24 rfl (hp.at_ (i := 1) rfl))) ?_
        obtain ⟨x26613, q26614, h⟩ := bind_some h
        refine ev_call rfl rfl C57 (((ref01_Gcd_ok n) _ _  (Int_2.mk x26584 x26585) v26586 r26587 (Int_2.mk x26588 x26589) v26590 r26591 hp.imm _ q26614).mono ?_)
        rintro _ w26615 ⟨I26616, v26617, hv, hq, r26618⟩
        replace hv := hv.symm
        subst hv
        have hs := hq.st
        have hp := hp.join0 hq
        replace r26587 := r26587.step hs
        replace r26591 := r26591.step hs
        refine ev_alloc hp rfl T24 ?_
        intro g26619 w26620 hp hs
        replace r26618 := r26618.step hs
        replace r26587 := r26587.step hs
        replace r26591 := r26591.step hs
        refine ev_storeA hp (i := 0) (off := 0) (vs := [(.bool x26613.Neg), v26617]) rfl rfl rfl rfl T24 rfl (Nat.le_of_ble_eq_true rfl) (ones_cons rfl (ones_cons r26618.one ones_nil)) ?_
        intro w26621 hp hs
        replace r26618 := r26618.step hs
        replace r26587 := r26587.step hs
        replace r26591 := r26591.step hs
        apply go
        have hs := hp.stp (Ch.drew [] w26621)
        have hp := hp.drew
        replace r26618 := r26618.step hs
        replace r26587 := r26587.step hs
        replace r26591 := r26591.step hs
        refine W.held [(0, true), (1, true), (3, true), (4, true), (2, false), (5, false), (6, true), (7, false)] (fun x => Stp I26616 w26621.drew I26616 x ∧ OwnK [(g26524, [(.bool x26584), v26586], 24), (g26619, [(.bool x26613.Neg), v26617], 24), (g26526, [(.bool x26588), v26590], 24)] x) MX (by kernel_rfl) ⟨Stp.refl _ _, (OwnK.cons (hp.own 1 _ _ _ rfl).1 (OwnK.cons (hp.own 0 _ _ _ rfl).1 (OwnK.cons (hp.own 2 _ _ _ rfl).1 OwnK.nil)))⟩ ?_
        have hz := Stp.refl I26616 w26621.drew
        refine evh (fun w' hw => rn_load rfl rfl (run_loadVarA T24 rfl (hw.2.at_ (i := 0) rfl))) ?_
        refine evh (fun w' hw => rn_load rfl rfl (run_loadVarA T24 rfl (hw.2.at_ (i := 1) rfl))) ?_
        refine evh (fun w' hw => rn_load rfl rfl (run_loadVarA T24 rfl (hw.2.at_ (i := 2) rfl))) ?_
        refine evh (fun w' hw => rn_load rfl rfl (run_loadVarA T24 rfl (hw.2.at_ (i := 1) rfl))) ?_
        obtain ⟨x26643, q26644, h⟩ := bind_some h
        refine ev_call rfl rfl C58 (((ref02_part_ok n) _ _  (Int_2.mk x26584 x26585) v26586 r26587 (Int_2.mk x26613.Neg x26613.Mag) v26617 r26618 hp.imm _ q26644).mono ?_)
        rintro _ w26645 ⟨I26646, v26647, hv, hq, r26648⟩
        replace hv := hv.symm
        subst hv
        have hs := hq.st
        have hp := hp.join0 hq
        replace hz := hz.trans hs
        replace r26591 := r26591.step hs
        replace r26618 := r26618.step hs
        replace r26587 := r26587.step hs
        refine ⟨fun x => Stp I26646 w26645 I26646 x ∧ OwnK [(g26524, [(.bool x26584), v26586], 24), (g26619, [(.bool x26613.Neg), v26617], 24), (g26526, [(.bool x26588), v26590], 24)] x, ⟨Stp.refl _ _, (OwnK.cons (hp.own 1 _ _ _ rfl).1 (OwnK.cons (hp.own 0 _ _ _ rfl).1 (OwnK.cons (hp.own 2 _ _ _ rfl).1 OwnK.nil)))⟩, fun x hx => ⟨hz.held hx.1, hx.2⟩, ?_⟩
        have hz := Stp.refl I26646 w26645
        obtain ⟨x26649, q26650, h⟩ := bind_some h
        refine ev_call rfl rfl C58 (((ref02_part_ok n) _ _  (Int_2.mk x26588 x26589) v26590 r26591 (Int_2.mk x26613.Neg x26613.Mag) v26617 r26618 hp.imm _ q26650).mono ?_)
        rintro _ w26651 ⟨I26652, v26653, hv, hq, r26654⟩
        replace hv := hv.symm
        subst hv
        have hs := hq.st
        have hp := hp.join0 hq
        replace hz := hz.trans hs
        replace r26648 := r26648.step hs
        replace r26618 := r26618.step hs
        replace r26587 := r26587.step hs
        replace r26591 := r26591.step hs
        refine ⟨fun x => Stp I26652 w26651 I26652 x ∧ OwnK [(g26524, [(.bool x26584), v26586], 24), (g26619, [(.bool x26613.Neg), v26617], 24), (g26526, [(.bool x26588), v26590], 24)] x, ⟨Stp.refl _ _, (OwnK.cons (hp.own 1 _ _ _ rfl).1 (OwnK.cons (hp.own 0 _ _ _ rfl).1 (OwnK.cons (hp.own 2 _ _ _ rfl).1 OwnK.nil)))⟩, fun x hx => ⟨hz.held hx.1, hx.2⟩, ?_⟩
        have hz := Stp.refl I26652 w26651
        obtain ⟨A26655, m26656, m26657, rfl⟩ := r26648.isSl
        obtain ⟨A26659, m26660, m26661, rfl⟩ := r26654.isSl
        refine evh0 (fun w => rn_build (cs := [(.bool x26643.Neg), (.slice A26655 m26656 m26657), (.bool x26649.Neg), (.slice A26659 m26660 m26661)]) rfl rfl T26 PL26 rfl) ?_
        refine ev_storeA hp (i := 3) (off := 0) (vs := [(.bool x26643.Neg), (.slice A26655 m26656 m26657), (.bool x26649.Neg), (.slice A26659 m26660 m26661)]) rfl rfl rfl rfl T26 rfl (Nat.le_of_ble_eq_true rfl) (ones_cons rfl (ones_cons r26648.one (ones_cons rfl (ones_cons r26654.one ones_nil)))) ?_
        intro w26663 hp hs
        replace hz := hz.trans hs
        replace r26618 := r26618.step hs
        replace r26587 := r26587.step hs
        replace r26591 := r26591.step hs
        replace r26648 := r26648.step hs
        replace r26654 := r26654.step hs
        refine ⟨fun x => Stp I26652 w26663 I26652 x ∧ OwnK [(g26524, [(.bool x26584), v26586], 24), (g26619, [(.bool x26613.Neg), v26617], 24), (g26526, [(.bool x26588), v26590], 24)] x, ⟨Stp.refl _ _, (OwnK.cons (hp.own 1 _ _ _ rfl).1 (OwnK.cons (hp.own 0 _ _ _ rfl).1 (OwnK.cons (hp.own 2 _ _ _ rfl).1 OwnK.nil)))⟩, fun x hx => ⟨hz.held hx.1, hx.2⟩, ?_⟩
        have hz := Stp.refl I26652 w26663
        apply go
        obtain rfl := Option.some.inj h
        refine ⟨_, run_loadVarA T26 rfl (hp.at_ (i := 3) rfl), ?_⟩
        have hp := hp.sel [] (by decide)
        exact ⟨I26652, (.slice A26655 m26656 m26657), (.slice A26659 m26660 m26661), rfl, hp, r26648, r26654⟩

end Go.Proofs.YtepadjfmcbjkmaaDoor

namespace Go.Proofs.YtepadjfmcbjkmaaDoor
open Go Go.Proofs.YtepadjfmcbjkmaaDoor.Gw Go.RowKit
set_option linter.unusedVariables false
attribute [local irreducible] Ev EvQ EvS EvH
def ref02_Norm_S (f : Rational → Option Rational) : Prop := ∀ (w0 : World) (I0 : Nat → Prop) (x26843 : Rational) (v26844 : Value) (r26845 : RepS (dI .u32) w0 I0 v26844 x26843.Num.Mag) (v26846 : Value) (r26847 : RepS (dI .u32) w0 I0 v26846 x26843.Den.Mag) (hI : ∀ g, I0 g → g < w0.heap.size) (r : Rational), f x26843 = some r →
    Ret Tryd.prog 15 #[(.agg #[(.bool x26843.Num.Neg), v26844, (.bool x26843.Den.Neg), v26846])] w0 fun v w1 => ∃ (I1 : Nat → Prop) (u26848 : Value) (u26849 : Value), v = (.agg #[(.bool r.Num.Neg), u26848, (.bool r.Den.Neg), u26849]) ∧ Hp ⟨w0, I0, []⟩ I1 [] w1 ∧ RepS (dI .u32) w1 I1 u26848 r.Num.Mag ∧ RepS (dI .u32) w1 I1 u26849 r.Den.Mag
theorem ref02_Norm_ok (n : Nat) : ref02_Norm_S (ref02_Norm n) := by
  intro w0 I0 x26843 v26844 r26845 v26846 r26847 hI r h
  unfold ref02_Norm at h
  refine enter Tryd.func15 rfl (Nat.le_of_ble_eq_true rfl) ?_
  have hp : Hp ⟨w0, I0, []⟩ I0 [] w0 := Hp.start hI
  apply go
  apply go
  refine ev_boxI hp rfl rfl ?_
  intro p26852 I26853 w26851 hp hs a26854
  replace r26845 := r26845.step hs
  replace r26847 := r26847.step hs
  refine ev_alloc hp rfl T26 ?_
  intro g26855 w26856 hp hs
  replace a26854 := a26854.step hs
  replace r26845 := r26845.step hs
  replace r26847 := r26847.step hs
  apply go
  apply go
  refine ev0 (rn_field rfl rfl FO26_0) ?_
  refine ev (rn_load rfl rfl (run_loadVarA T24 rfl ((a26854.drop 0).take 2))) ?_
  refine ev0 (rn_field rfl rfl FO26_1) ?_
  refine ev (rn_load rfl rfl (run_loadVarA T24 rfl ((a26854.drop 2).take 2))) ?_
  obtain ⟨x26857, q26858, h⟩ := bind_some h
  refine ev_call rfl rfl C39 (((ref02_New_ok n) _ _  (Int_2.mk x26843.Num.Neg x26843.Num.Mag) v26844 r26845 (Int_2.mk x26843.Den.Neg x26843.Den.Mag) v26846 r26847 hp.imm _ q26858).mono ?_)
  rintro _ w26859 ⟨I26860, v26861, v26863, hv, hq, r26862, r26864⟩
  replace hv := hv.symm
  subst hv
  have hs := hq.st
  have hp := hp.join0 hq
  refine ev_storeA hp (i := 0) (off := 0) (vs := [(.bool x26857.Num.Neg), v26861, (.bool x26857.Den.Neg), v26863]) rfl rfl rfl rfl T26 rfl (Nat.le_of_ble_eq_true rfl) (ones_cons rfl (ones_cons r26862.one (ones_cons rfl (ones_cons r26864.one ones_nil)))) ?_
  intro w26865 hp hs
  replace r26862 := r26862.step hs
  replace r26864 := r26864.step hs
  apply go
  obtain rfl := Option.some.inj h
  refine ⟨_, run_loadVarA T26 rfl (hp.at_ (i := 0) rfl), ?_⟩
  have hp := hp.sel [] (by decide)
  exact ⟨I26860, v26861, v26863, rfl, hp, r26862, r26864⟩

end Go.Proofs.YtepadjfmcbjkmaaDoor

namespace Go.Proofs.YtepadjfmcbjkmaaDoor
open Go Go.Proofs.YtepadjfmcbjkmaaDoor.Gw Go.RowKit
set_option linter.unusedVariables false
attribute [local irreducible] Ev EvQ EvS EvH
def ref01_Mul_S (f : Int_2 → Int_2 → Option Int_2) : Prop := ∀ (w0 : World) (I0 : Nat → Prop) (x27244 : Int_2) (v27245 : Value) (r27246 : RepS (dI .u32) w0 I0 v27245 x27244.Mag) (x27247 : Int_2) (v27248 : Value) (r27249 : RepS (dI .u32) w0 I0 v27248 x27247.Mag) (hI : ∀ g, I0 g → g < w0.heap.size) (r : Int_2), f x27244 x27247 = some r →
    Ret Tryd.prog 49 #[(.agg #[(.bool x27244.Neg), v27245]), (.agg #[(.bool x27247.Neg), v27248])] w0 fun v w1 => ∃ (I1 : Nat → Prop) (u27250 : Value), v = (.agg #[(.bool r.Neg), u27250]) ∧ Hp ⟨w0, I0, []⟩ I1 [] w1 ∧ RepS (dI .u32) w1 I1 u27250 r.Mag
theorem ref01_Mul_ok (n : Nat) : ref01_Mul_S (ref01_Mul n) := by
  intro w0 I0 x27244 v27245 r27246 x27247 v27248 r27249 hI r h
  unfold ref01_Mul at h
  refine enter Tryd.func49 rfl (Nat.le_of_ble_eq_true rfl) ?_
  have hp : Hp ⟨w0, I0, []⟩ I0 [] w0 := Hp.start hI
  apply go
  apply go
  refine ev_boxI hp rfl rfl ?_
  intro p27253 I27254 w27252 hp hs a27255
  replace r27249 := r27249.step hs
  replace r27246 := r27246.step hs
  refine ev_boxI hp rfl rfl ?_
  intro p27258 I27259 w27257 hp hs a27260
  replace a27255 := a27255.step hs
  replace r27246 := r27246.step hs
  replace r27249 := r27249.step hs
  refine ev_alloc hp rfl T24 ?_
  intro g27261 w27262 hp hs
  replace a27255 := a27255.step hs
  replace r27246 := r27246.step hs
  replace a27260 := a27260.step hs
  replace r27249 := r27249.step hs
  apply go
  apply go
  refine ev0 (rn_field rfl rfl FO24_1) ?_
  refine ev (rn_load rfl rfl (run_loadVar1 T22 (a27255.2 1 _ rfl))) ?_
  refine ev0 (rn_len rfl rfl Tryd.underlying22 r27246) ?_
  refine ev0 (rn_field rfl rfl FO24_1) ?_
  refine ev (rn_load rfl rfl (run_loadVar1 T22 (a27260.2 1 _ rfl))) ?_
  refine ev0 (rn_len rfl rfl Tryd.underlying22 r27249) ?_
  obtain ⟨x27263, q27264, h⟩ := bind_some h
  refine ev_make (d := (dI .u32)) (x0 := 0) hp rfl rfl rfl Tryd.underlying22 T42 (fun _ _ => rfl) (Nat.le_of_ble_eq_true rfl) q27264 ?_
  intro v27265 e27266 w27267 hp hs o27268
  replace a27255 := a27255.step hs
  replace r27246 := r27246.step hs
  replace a27260 := a27260.step hs
  replace r27249 := r27249.step hs
  obtain ⟨y28384, q28385, h⟩ := bind_some h
  refine W.cut (γ := ((List Int) × Ent)) (fun g => [(2, (.pointer (some (p27253)))), (3, (.pointer (some (p27258)))), (4, (.pointer (some ⟨g27261, 0, none⟩))), (5, v27265)]) (fun g w' => y28384 = (g.1) ∧ Hp ⟨w0, I0, []⟩ I27259 [some (g27261, [(.bool false), (.slice none 0 0)], 24), (g.2)] w' ∧ RepS (dI .u32) w' I27259 v27245 x27244.Mag ∧ At w' I27259 p27253 [(.bool x27244.Neg), v27245] ∧ RepS (dI .u32) w' I27259 v27248 x27247.Mag ∧ At w' I27259 p27258 [(.bool x27247.Neg), v27248] ∧ OwnS (dI .u32) 42 w' I27259 v27265 (g.2) (g.1)) ?_ ?_
  ·
    apply go
    apply go
    apply go
    have hp := hp.perm [1, 0] (by decide)
    refine W.loop q28385 (γ := Ent) (fun s g => [(2, (.pointer (some (p27253)))), (3, (.pointer (some (p27258)))), (4, (.pointer (some ⟨g27261, 0, none⟩))), (5, v27265), (6, (.int .i64 (s.2)))]) (fun s g w' => Hp ⟨w0, I0, []⟩ I27259 [some (g27261, [(.bool false), (.slice none 0 0)], 24), (g)] w' ∧ RepS (dI .u32) w' I27259 v27245 x27244.Mag ∧ At w' I27259 p27253 [(.bool x27244.Neg), v27245] ∧ RepS (dI .u32) w' I27259 v27248 x27247.Mag ∧ At w' I27259 p27258 [(.bool x27247.Neg), v27248] ∧ OwnS (dI .u32) 42 w' I27259 v27265 (g) (s.1)) e27266 (.c rfl (.c rfl (.c rfl (.c rfl (.c rfl .n))))) ⟨hp, r27246, a27255, r27249, a27260, o27268⟩ ?_
    rintro ⟨x28751, x28755⟩ e28753 w29126 y29127 ⟨hp, r27246, a27255, r27249, a27260, o28754⟩ q29128 q29129
    unfold ref01_Mul_L11 at q29128
    apply go
    apply go
    apply go
    refine ev0 (rn_field rfl rfl FO24_1) ?_
    refine ev (rn_load rfl rfl (run_loadVar1 T22 (a27255.2 1 _ rfl))) ?_
    refine ev0 (rn_len rfl rfl Tryd.underlying22 r27246) ?_
    apply go
    refine sel_of (fun hc => ?_) (fun hc => ?_)
    ·
      have q29128 := cond_t q29128 hc
      apply go
      obtain ⟨y29314, q29315, q29128⟩ := bind_some q29128
      refine W.cut (γ := ((List Int) × Ent)) (fun g => [(2, (.pointer (some (p27253)))), (3, (.pointer (some (p27258)))), (4, (.pointer (some ⟨g27261, 0, none⟩))), (5, v27265), (6, (.int .i64 x28755))]) (fun g w' => y29314 = (g.1) ∧ Hp ⟨w0, I0, []⟩ I27259 [some (g27261, [(.bool false), (.slice none 0 0)], 24), (g.2)] w' ∧ RepS (dI .u32) w' I27259 v27245 x27244.Mag ∧ At w' I27259 p27253 [(.bool x27244.Neg), v27245] ∧ RepS (dI .u32) w' I27259 v27248 x27247.Mag ∧ At w' I27259 p27258 [(.bool x27247.Neg), v27248] ∧ OwnS (dI .u32) 42 w' I27259 v27265 (g.2) (g.1)) ?_ ?_
      ·
        apply go
        apply go
        apply go
        apply go
        apply go
        apply go
        refine W.loop q29315 (γ := Ent) (fun s g => [(2, (.pointer (some (p27253)))), (3, (.pointer (some (p27258)))), (4, (.pointer (some ⟨g27261, 0, none⟩))), (5, v27265), (6, (.int .i64 x28755)), (7, (.int .u64 (s.2.1))), (8, (.int .i64 (s.2.2)))]) (fun s g w' => Hp ⟨w0, I0, []⟩ I27259 [some (g27261, [(.bool false), (.slice none 0 0)], 24), (g)] w' ∧ RepS (dI .u32) w' I27259 v27245 x27244.Mag ∧ At w' I27259 p27253 [(.bool x27244.Neg), v27245] ∧ RepS (dI .u32) w' I27259 v27248 x27247.Mag ∧ At w' I27259 p27258 [(.bool x27247.Neg), v27248] ∧ OwnS (dI .u32) 42 w' I27259 v27265 (g) (s.1)) e28753 (.c rfl (.c rfl (.c rfl (.c rfl (.c rfl (.c rfl (.c rfl .n))))))) ⟨hp, r27246, a27255, r27249, a27260, o28754⟩ ?_
        rintro ⟨x29370, x29374, x29375⟩ e29372 w29436 y29437 ⟨hp, r27246, a27255, r27249, a27260, o29373⟩ q29438 q29439
        unfold ref01_Mul_L13 at q29438
        apply go
        obtain ⟨y29441, q29442, q29438⟩ := bind_some q29438
        refine W.cut (γ := Bool) (fun g => [(2, (.pointer (some (p27253)))), (3, (.pointer (some (p27258)))), (4, (.pointer (some ⟨g27261, 0, none⟩))), (5, v27265), (6, (.int .i64 x28755)), (7, (.int .u64 x29374)), (8, (.int .i64 x29375)), (34, (.bool (g)))]) (fun g w' => y29441 = (g) ∧ w29436 = w') ?_ ?_
        ·
          apply go
          refine ev0 (rn_field rfl rfl FO24_1) ?_
          refine ev (rn_load rfl rfl (run_loadVar1 T22 (a27260.2 1 _ rfl))) ?_
          refine ev0 (rn_len rfl rfl Tryd.underlying22 r27249) ?_
          refine sel_of (fun hc => ?_) (fun hc => ?_)
          ·
            have q29442 := cond_t q29442 hc
            obtain rfl := Option.some.inj q29442
            exact ⟨true, (.c rfl (.c rfl (.c rfl (.c rfl (.c rfl (.c rfl (.c rfl (.c rfl .n)))))))), rfl, rfl⟩
          ·
            have q29442 := cond_f q29442 hc
            obtain rfl := Option.some.inj q29442
            exact ⟨(decide (x29374 > 0)), (.c rfl (.c rfl (.c rfl (.c rfl (.c rfl (.c rfl (.c rfl (.c rfl .n)))))))), rfl, rfl⟩
        ·
          rintro x29440 _ ⟨hy, rfl⟩
          replace hy := hy.symm
          subst hy
          apply go
          refine sel_of (fun hc => ?_) (fun hc => ?_)
          ·
            have q29438 := cond_t q29438 hc
            apply go
            apply go
            apply go
            apply go
            apply go
            obtain ⟨x29443, q29444, q29438⟩ := bind_some q29438
            refine ev_indexO rfl rfl rfl Tryd.underlying22 T42 o29373 q29444 ?_
            intro g29445 c29446 h29449 d29447 l29448
            refine ev (rn_load rfl rfl (run_loadVar1 T42 (hp.cellE (i := 1) rfl h29449 d29447 (j := 0) rfl))) ?_
            refine ev0 (rn_conv rfl rfl U42 Tryd.underlying68) ?_
            obtain ⟨y29466, q29467, q29438⟩ := bind_some q29438
            refine W.cut (γ := Int) (fun g => [(2, (.pointer (some (p27253)))), (3, (.pointer (some (p27258)))), (4, (.pointer (some ⟨g27261, 0, none⟩))), (5, v27265), (6, (.int .i64 x28755)), (8, (.int .i64 x29375)), (9, (.int .u64 (g)))]) (fun g w' => y29466 = (g) ∧ Hp ⟨w0, I0, []⟩ I27259 [some (g27261, [(.bool false), (.slice none 0 0)], 24), e29372] w' ∧ RepS (dI .u32) w' I27259 v27245 x27244.Mag ∧ At w' I27259 p27253 [(.bool x27244.Neg), v27245] ∧ RepS (dI .u32) w' I27259 v27248 x27247.Mag ∧ At w' I27259 p27258 [(.bool x27247.Neg), v27248] ∧ OwnS (dI .u32) 42 w' I27259 v27265 e29372 x29370) ?_ ?_
            ·
              apply go
              apply go
              refine ev0 (rn_field rfl rfl FO24_1) ?_
              refine ev (rn_load rfl rfl (run_loadVar1 T22 (a27260.2 1 _ rfl))) ?_
              refine ev0 (rn_len rfl rfl Tryd.underlying22 r27249) ?_
              apply go
              refine sel_of (fun hc => ?_) (fun hc => ?_)
              ·
                have q29467 := cond_t q29467 hc
                refine W.quiet (fun w' => Ch [] w29436 w') MX (by kernel_rfl) (Ch.drew [] w29436) ?_
                refine evq0 (rn_field rfl rfl FO24_1) ?_
                refine evq (fun w' hw => rn_load rfl rfl (run_loadVar1 T22 ((a27255.step (hp.stp hw)).2 1 _ rfl))) ?_
                obtain ⟨x29468, q29469, q29467⟩ := bind_some q29467
                refine evq_index rfl rfl rfl Tryd.underlying22 T42 r27246 q29469 ?_
                intro p29470 c29471 d29472 a29473
                obtain rfl : c29471 = [(.int .u32 x29468)] := d29472
                refine evq (fun w' hw => rn_load rfl rfl (run_loadVar1 T42 ((a29473.step (hp.stp hw)).2 0 _ rfl))) ?_
                refine evq0 (rn_conv rfl rfl U42 Tryd.underlying68) ?_
                refine evq0 (rn_field rfl rfl FO24_1) ?_
                refine evq (fun w' hw => rn_load rfl rfl (run_loadVar1 T22 ((a27260.step (hp.stp hw)).2 1 _ rfl))) ?_
                obtain ⟨x29474, q29475, q29467⟩ := bind_some q29467
                refine evq_index rfl rfl rfl Tryd.underlying22 T42 r27249 q29475 ?_
                intro p29476 c29477 d29478 a29479
                obtain rfl : c29477 = [(.int .u32 x29474)] := d29478
                refine evq (fun w' hw => rn_load rfl rfl (run_loadVar1 T42 ((a29479.step (hp.stp hw)).2 0 _ rfl))) ?_
                refine evq0 (rn_conv rfl rfl U42 Tryd.underlying68) ?_
                intro w29480 hc
                have hs := hp.stp hc
                replace hp := hp.ext hc
                replace a27255 := a27255.step hs
                replace r27246 := r27246.step hs
                replace a27260 := a27260.step hs
                replace r27249 := r27249.step hs
                replace o29373 := o29373.step hs
                obtain rfl := Option.some.inj q29467
                exact ⟨(IntKind.u64.wrap ((IntKind.u64.wrap ((IntKind.u64.wrap x29443) + x29374)) + (IntKind.u64.wrap ((IntKind.u64.wrap x29468) * (IntKind.u64.wrap x29474))))), (.c rfl (.c rfl (.c rfl (.c rfl (.c rfl (.c rfl (.c rfl .n))))))), rfl, hp, r27246, a27255, r27249, a27260, o29373⟩
              ·
                have q29467 := cond_f q29467 hc
                apply go
                obtain rfl := Option.some.inj q29467
                exact ⟨(IntKind.u64.wrap ((IntKind.u64.wrap x29443) + x29374)), (.c rfl (.c rfl (.c rfl (.c rfl (.c rfl (.c rfl (.c rfl .n))))))), rfl, hp, r27246, a27255, r27249, a27260, o29373⟩
            ·
              rintro x29464 w29465 ⟨hy, hp, r27246, a27255, r27249, a27260, o29373⟩
              replace hy := hy.symm
              subst hy
              apply go
              apply go
              refine ev0 (rn_conv rfl rfl U68 Tryd.underlying42) ?_
              obtain ⟨x29481, q29482, q29438⟩ := bind_some q29438
              refine ev_indexO rfl rfl rfl Tryd.underlying22 T42 o29373 q29482 ?_
              intro g29483 c29484 h29487 d29485 l29486
              refine ev_storeE hp (i := 1) rfl h29487 rfl rfl rfl T42 o29373 q29482 (x0 := (IntKind.u32.wrap x29464)) rfl ?_
              intro e29490 w29489 hp hs o29491
              replace a27255 := a27255.step hs
              replace r27246 := r27246.step hs
              replace a27260 := a27260.step hs
              replace r27249 := r27249.step hs
              apply go
              refine ⟨by decide, ?_⟩
              apply go
              exact ⟨_, (Option.some.inj q29438).symm, e29490, (.c rfl (.c rfl (.c rfl (.c rfl (.c rfl (.c rfl (.c rfl .n))))))), ⟨hp, r27246, a27255, r27249, a27260, o29491⟩⟩
          ·
            have q29438 := cond_f q29438 hc
            apply go
            have q29494 := congrArg some (q29439 _ (Option.some.inj q29438).symm)
            obtain rfl := Option.some.inj q29494
            exact ⟨(x29370, e29372), (.c rfl (.c rfl (.c rfl (.c rfl (.c rfl .n))))), rfl, hp, r27246, a27255, r27249, a27260, o29373⟩
      ·
        rintro ⟨x29309, e29311⟩ w29313 ⟨hy, hp, r27246, a27255, r27249, a27260, o29312⟩
        replace hy := hy.symm
        subst hy
        apply go
        exact ⟨_, (Option.some.inj q29128).symm, e29311, (.c rfl (.c rfl (.c rfl (.c rfl (.c rfl .n))))), ⟨hp, r27246, a27255, r27249, a27260, o29312⟩⟩
    ·
      have q29128 := cond_f q29128 hc
      apply go
      have q29495 := congrArg some (q29129 _ (Option.some.inj q29128).symm)
      obtain rfl := Option.some.inj q29495
      exact ⟨(x28751, e28753), (.c rfl (.c rfl (.c rfl (.c rfl .n)))), rfl, hp, r27246, a27255, r27249, a27260, o28754⟩
  ·
    rintro ⟨x28379, e28381⟩ w28383 ⟨hy, hp, r27246, a27255, r27249, a27260, o28382⟩
    replace hy := hy.symm
    subst hy
    apply go
    apply go
    refine ev0 (rn_field rfl rfl FO24_0) ?_
    refine ev (rn_load rfl rfl (run_loadVar1 T4 (a27255.2 0 _ rfl))) ?_
    refine ev0 (rn_field rfl rfl FO24_0) ?_
    refine ev (rn_load rfl rfl (run_loadVar1 T4 (a27260.2 0 _ rfl))) ?_
    refine ev0 (rn_neB rfl rfl rfl Tryd.underlying4) ?_
    obtain ⟨A29496, m29497, m29498, rfl⟩ := o28382.isSl
    refine ev0 (fun w => rn_build (cs := [(.bool (!(x27244.Neg == x27247.Neg))), (.slice A29496 m29497 m29498)]) rfl rfl T24 PL24 rfl) ?_
    have r29500 := o28382.frz hp (i := 1) rfl
    obtain ⟨hp, hs⟩ := freeze_hp hp (i := 1) rfl
    have hp := hp.sel [0] (by decide)
    obtain ⟨x29501, q29502, h⟩ := bind_some h
    refine ev_call rfl rfl C59 (((ref01_Norm_ok n) _ _  (Int_2.mk (!(x27244.Neg == x27247.Neg)) x28379) (.slice A29496 m29497 m29498) r29500 hp.imm _ q29502).mono ?_)
    rintro _ w29503 ⟨I29504, v29505, hv, hq, r29506⟩
    replace hv := hv.symm
    subst hv
    have hs := hq.st
    have hp := hp.join0 hq
    refine ev_storeA hp (i := 0) (off := 0) (vs := [(.bool x29501.Neg), v29505]) rfl rfl rfl rfl T24 rfl (Nat.le_of_ble_eq_true rfl) (ones_cons rfl (ones_cons r29506.one ones_nil)) ?_
    intro w29507 hp hs
    replace r29506 := r29506.step hs
    apply go
    obtain rfl := Option.some.inj h
    refine ⟨_, run_loadVarA T24 rfl (hp.at_ (i := 0) rfl), ?_⟩
    have hp := hp.sel [] (by decide)
    exact ⟨I29504, v29505, rfl, hp, r29506⟩

end Go.Proofs.YtepadjfmcbjkmaaDoor

namespace Go.Proofs.YtepadjfmcbjkmaaDoor
open Go Go.Proofs.YtepadjfmcbjkmaaDoor.Gw Go.RowKit
set_option linter.unusedVariables false
attribute [local irreducible] Ev EvQ EvS EvH vch
def ref02_Add_S (f : Rational → Rational → Option Rational) : Prop := ∀ (w0 : World) (I0 : Nat → Prop) (x29508 : Rational) (v29509 : Value) (r29510 : RepS (dI .u32) w0 I0 v29509 x29508.Num.Mag) (v29511 : Value) (r29512 : RepS (dI .u32) w0 I0 v29511 x29508.Den.Mag) (x29513 : Rational) (v29514 : Value) (r29515 : RepS (dI .u32) w0 I0 v29514 x29513.Num.Mag) (v29516 : Value) (r29517 : RepS (dI .u32) w0 I0 v29516 x29513.Den.Mag) (hI : ∀ g, I0 g → g < w0.heap.size) (r : Rational), f x29508 x29513 = some r →
    Ret Tryd.prog 20 #[(.agg #[(.bool x29508.Num.Neg), v29509, (.bool x29508.Den.Neg), v29511]), (.agg #[(.bool x29513.Num.Neg), v29514, (.bool x29513.Den.Neg), v29516])] w0 fun v w1 => ∃ (I1 : Nat → Prop) (u29518 : Value) (u29519 : Value), v = (.agg #[(.bool r.Num.Neg), u29518, (.bool r.Den.Neg), u29519]) ∧ Hp ⟨w0, I0, []⟩ I1 [] w1 ∧ RepS (dI .u32) w1 I1 u29518 r.Num.Mag ∧ RepS (dI .u32) w1 I1 u29519 r.Den.Mag
theorem ref02_Add_ok (n : Nat) : ref02_Add_S (ref02_Add n) := by
  intro w0 I0 x29508 v29509 r29510 v29511 r29512 x29513 v29514 r29515 v29516 r29517 hI r h
  unfold ref02_Add at h
  refine enter Tryd.func20 rfl (Nat.le_of_ble_eq_true rfl) ?_
  have hp : Hp ⟨w0, I0, []⟩ I0 [] w0 := Hp.start hI
  apply go
  apply go
  refine ev_boxI hp rfl rfl ?_
  intro p29522 I29523 w29521 hp hs a29524
  replace r29515 := r29515.step hs
  replace r29517 := r29517.step hs
  replace r29510 := r29510.step hs
  replace r29512 := r29512.step hs
  refine ev_boxI hp rfl rfl ?_
  intro p29527 I29528 w29526 hp hs a29529
  replace a29524 := a29524.step hs
  replace r29510 := r29510.step hs
  replace r29512 := r29512.step hs
  replace r29515 := r29515.step hs
  replace r29517 := r29517.step hs
  refine ev_alloc hp rfl T26 ?_
  intro g29530 w29531 hp hs
  replace a29524 := a29524.step hs
  replace r29510 := r29510.step hs
  replace r29512 := r29512.step hs
  replace a29529 := a29529.step hs
  replace r29515 := r29515.step hs
  replace r29517 := r29517.step hs
  apply go
  apply go
  refine ev (rn_load rfl rfl (run_loadVarA T26 rfl a29524)) ?_
  obtain ⟨x29532, q29533, h⟩ := bind_some h
  refine ev_call rfl rfl C15 (((ref02_Norm_ok n) _ _  (Rational.mk (Int_2.mk x29508.Num.Neg x29508.Num.Mag) (Int_2.mk x29508.Den.Neg x29508.Den.Mag)) v29509 r29510 v29511 r29512 hp.imm _ q29533).mono ?_)
  rintro _ w29534 ⟨I29535, v29536, v29538, hv, hq, r29537, r29539⟩
  replace hv := hv.symm
  subst hv
  have hs := hq.st
  have hp := hp.join0 hq
  replace a29529 := a29529.step hs
  replace r29515 := r29515.step hs
  replace r29517 := r29517.step hs
  refine ev_alloc hp rfl T26 ?_
  intro g29540 w29541 hp hs
  replace a29529 := a29529.step hs
  replace r29515 := r29515.step hs
  replace r29517 := r29517.step hs
  replace r29537 := r29537.step hs
  replace r29539 := r29539.step hs
  refine ev_storeA hp (i := 0) (off := 0) (vs := [(.bool x29532.Num.Neg), v29536, (.bool x29532.Den.Neg), v29538]) rfl rfl rfl rfl T26 rfl (Nat.le_of_ble_eq_true rfl) (ones_cons rfl (ones_cons r29537.one (ones_cons rfl (ones_cons r29539.one ones_nil)))) ?_
  intro w29542 hp hs
  replace a29529 := a29529.step hs
  replace r29515 := r29515.step hs
  replace r29517 := r29517.step hs
  replace r29537 := r29537.step hs
  replace r29539 := r29539.step hs
  apply go
  apply go
  refine ev (rn_load rfl rfl (run_loadVarA T26 rfl a29529)) ?_
  obtain ⟨x29543, q29544, h⟩ := bind_some h
  refine ev_call rfl rfl C15 (((ref02_Norm_ok n) _ _  (Rational.mk (Int_2.mk x29513.Num.Neg x29513.Num.Mag) (Int_2.mk x29513.Den.Neg x29513.Den.Mag)) v29514 r29515 v29516 r29517 hp.imm _ q29544).mono ?_)
  rintro _ w29545 ⟨I29546, v29547, v29549, hv, hq, r29548, r29550⟩
  replace hv := hv.symm
  subst hv
  have hs := hq.st
  have hp := hp.join0 hq
  replace r29537 := r29537.step hs
  replace r29539 := r29539.step hs
  refine ev_alloc hp rfl T26 ?_
  intro g29551 w29552 hp hs
  replace r29548 := r29548.step hs
  replace r29550 := r29550.step hs
  replace r29537 := r29537.step hs
  replace r29539 := r29539.step hs
  refine ev_storeA hp (i := 0) (off := 0) (vs := [(.bool x29543.Num.Neg), v29547, (.bool x29543.Den.Neg), v29549]) rfl rfl rfl rfl T26 rfl (Nat.le_of_ble_eq_true rfl) (ones_cons rfl (ones_cons r29548.one (ones_cons rfl (ones_cons r29550.one ones_nil)))) ?_
  intro w29553 hp hs
  replace r29548 := r29548.step hs
  replace r29550 := r29550.step hs
  replace r29537 := r29537.step hs
  replace r29539 := r29539.step hs
  apply go
  have hs := hp.stp (Ch.drew [] w29553)
  have hp := hp.drew
  replace r29548 := r29548.step hs
  replace r29550 := r29550.step hs
  replace r29537 := r29537.step hs
  replace r29539 := r29539.step hs
  refine W.heldT [(0, true), (1, true), (2, true), (3, true), (5, true), (6, true), (7, true), (8, true), (11, true), (12, true), (13, true), (14, true), (4, false), (9, false), (10, false), (15, false), (16, false), (17, false)] (fun x => Stp I29546 w29553.drew I29546 x ∧ OwnK [(g29540, [(.bool x29532.Num.Neg), v29536, (.bool x29532.Den.Neg), v29538], 26), (g29551, [(.bool x29543.Num.Neg), v29547, (.bool x29543.Den.Neg), v29549], 26)] x) MX (by kernel_rfl) ⟨Stp.refl _ _, (OwnK.cons (hp.own 1 _ _ _ rfl).1 (OwnK.cons (hp.own 0 _ _ _ rfl).1 OwnK.nil))⟩ ?_
  have hz := Stp.refl I29546 w29553.drew
  intro ops hops
  have e0 : nthO ops 0 = some _ := (hops 0).trans rfl
  have e1 : nthO ops 1 = some _ := (hops 1).trans rfl
  have e2 : nthO ops 2 = some _ := (hops 2).trans rfl
  have e3 : nthO ops 3 = some _ := (hops 3).trans rfl
  have e4 : nthO ops 4 = some _ := (hops 4).trans rfl
  have e5 : nthO ops 5 = some _ := (hops 5).trans rfl
  have e6 : nthO ops 6 = some _ := (hops 6).trans rfl
  have e7 : nthO ops 7 = some _ := (hops 7).trans rfl
  have e8 : nthO ops 8 = some _ := (hops 8).trans rfl
  have e9 : nthO ops 9 = some _ := (hops 9).trans rfl
  have e10 : nthO ops 10 = some _ := (hops 10).trans rfl
  have e11 : nthO ops 11 = some _ := (hops 11).trans rfl
  have e12 : nthO ops 12 = some _ := (hops 12).trans rfl
  have e13 : nthO ops 13 = some _ := (hops 13).trans rfl
  have e14 : nthO ops 14 = some _ := (hops 14).trans rfl
  have e15 : nthO ops 15 = some _ := (hops 15).trans rfl
  have e16 : nthO ops 16 = some _ := (hops 16).trans rfl
  have e17 : nthO ops 17 = some _ := (hops 17).trans rfl
  clear hops
  refine vch_q e0 rfl ?_
  refine evh0 (rn_field rfl rfl FO26_0) ?_
  refine vch_q e1 rfl ?_
  refine evh (fun w' hw => rn_load rfl rfl (run_loadVarA T24 rfl (((hw.2.at_ (i := 0) rfl).drop 0).take 2))) ?_
  refine vch_q e2 rfl ?_
  refine evh0 (rn_field rfl rfl FO26_1) ?_
  refine vch_q e3 rfl ?_
  refine evh (fun w' hw => rn_load rfl rfl (run_loadVarA T24 rfl (((hw.2.at_ (i := 1) rfl).drop 2).take 2))) ?_
  refine vch_q e5 rfl ?_
  refine evh0 (rn_field rfl rfl FO26_0) ?_
  refine vch_q e6 rfl ?_
  refine evh (fun w' hw => rn_load rfl rfl (run_loadVarA T24 rfl (((hw.2.at_ (i := 1) rfl).drop 0).take 2))) ?_
  refine vch_q e7 rfl ?_
  refine evh0 (rn_field rfl rfl FO26_1) ?_
  refine vch_q e8 rfl ?_
  refine evh (fun w' hw => rn_load rfl rfl (run_loadVarA T24 rfl (((hw.2.at_ (i := 0) rfl).drop 2).take 2))) ?_
  refine vch_q e11 rfl ?_
  refine evh0 (rn_field rfl rfl FO26_1) ?_
  refine vch_q e12 rfl ?_
  refine evh (fun w' hw => rn_load rfl rfl (run_loadVarA T24 rfl (((hw.2.at_ (i := 0) rfl).drop 2).take 2))) ?_
  refine vch_q e13 rfl ?_
  refine evh0 (rn_field rfl rfl FO26_1) ?_
  refine vch_q e14 rfl ?_
  refine evh (fun w' hw => rn_load rfl rfl (run_loadVarA T24 rfl (((hw.2.at_ (i := 1) rfl).drop 2).take 2))) ?_
  refine vch_l e4 rfl ?_
  obtain ⟨x29587, q29588, h⟩ := bind_some h
  refine ev_call rfl rfl C49 (((ref01_Mul_ok n) _ _  (Int_2.mk x29532.Num.Neg x29532.Num.Mag) v29536 r29537 (Int_2.mk x29543.Den.Neg x29543.Den.Mag) v29549 r29550 hp.imm _ q29588).mono ?_)
  rintro _ w29589 ⟨I29590, v29591, hv, hq, r29592⟩
  replace hv := hv.symm
  subst hv
  have hs := hq.st
  have hp := hp.join0 hq
  replace hz := hz.trans hs
  replace r29548 := r29548.step hs
  replace r29539 := r29539.step hs
  replace r29550 := r29550.step hs
  replace r29537 := r29537.step hs
  refine ⟨fun x => Stp I29590 w29589 I29590 x ∧ OwnK [(g29540, [(.bool x29532.Num.Neg), v29536, (.bool x29532.Den.Neg), v29538], 26), (g29551, [(.bool x29543.Num.Neg), v29547, (.bool x29543.Den.Neg), v29549], 26)] x, ⟨Stp.refl _ _, (OwnK.cons (hp.own 1 _ _ _ rfl).1 (OwnK.cons (hp.own 0 _ _ _ rfl).1 OwnK.nil))⟩, fun x hx => ⟨hz.held hx.1, hx.2⟩, ?_⟩
  have hz := Stp.refl I29590 w29589
  refine vch_l e9 rfl ?_
  obtain ⟨x29593, q29594, h⟩ := bind_some h
  refine ev_call rfl rfl C49 (((ref01_Mul_ok n) _ _  (Int_2.mk x29543.Num.Neg x29543.Num.Mag) v29547 r29548 (Int_2.mk x29532.Den.Neg x29532.Den.Mag) v29538 r29539 hp.imm _ q29594).mono ?_)
  rintro _ w29595 ⟨I29596, v29597, hv, hq, r29598⟩
  replace hv := hv.symm
  subst hv
  have hs := hq.st
  have hp := hp.join0 hq
  replace hz := hz.trans hs
  replace r29539 := r29539.step hs
  replace r29550 := r29550.step hs
  replace r29592 := r29592.step hs
  replace r29548 := r29548.step hs
  replace r29537 := r29537.step hs
  refine ⟨fun x => Stp I29596 w29595 I29596 x ∧ OwnK [(g29540, [(.bool x29532.Num.Neg), v29536, (.bool x29532.Den.Neg), v29538], 26), (g29551, [(.bool x29543.Num.Neg), v29547, (.bool x29543.Den.Neg), v29549], 26)] x, ⟨Stp.refl _ _, (OwnK.cons (hp.own 1 _ _ _ rfl).1 (OwnK.cons (hp.own 0 _ _ _ rfl).1 OwnK.nil))⟩, fun x hx => ⟨hz.held hx.1, hx.2⟩, ?_⟩
  have hz := Stp.refl I29596 w29595
  refine vch_l e10 rfl ?_
  obtain ⟨x29599, q29600, h⟩ := bind_some h
  refine ev_call rfl rfl C48 (((ref01_Add_ok n) _ _  x29587 v29591 r29592 x29593 v29597 r29598 hp.imm _ q29600).mono ?_)
  rintro _ w29601 ⟨I29602, v29603, hv, hq, r29604⟩
  replace hv := hv.symm
  subst hv
  have hs := hq.st
  have hp := hp.join0 hq
  replace hz := hz.trans hs
  replace r29539 := r29539.step hs
  replace r29550 := r29550.step hs
  replace r29548 := r29548.step hs
  replace r29537 := r29537.step hs
  refine ⟨fun x => Stp I29602 w29601 I29602 x ∧ OwnK [(g29540, [(.bool x29532.Num.Neg), v29536, (.bool x29532.Den.Neg), v29538], 26), (g29551, [(.bool x29543.Num.Neg), v29547, (.bool x29543.Den.Neg), v29549], 26)] x, ⟨Stp.refl _ _, (OwnK.cons (hp.own 1 _ _ _ rfl).1 (OwnK.cons (hp.own 0 _ _ _ rfl).1 OwnK.nil))⟩, fun x hx => ⟨hz.held hx.1, hx.2⟩, ?_⟩
  have hz := Stp.refl I29602 w29601
  refine vch_l e15 rfl ?_
  obtain ⟨x29605, q29606, h⟩ := bind_some h
  refine ev_call rfl rfl C49 (((ref01_Mul_ok n) _ _  (Int_2.mk x29532.Den.Neg x29532.Den.Mag) v29538 r29539 (Int_2.mk x29543.Den.Neg x29543.Den.Mag) v29549 r29550 hp.imm _ q29606).mono ?_)
  rintro _ w29607 ⟨I29608, v29609, hv, hq, r29610⟩
  replace hv := hv.symm
  subst hv
  have hs := hq.st
  have hp := hp.join0 hq
  replace hz := hz.trans hs
  replace r29604 := r29604.step hs
  replace r29548 := r29548.step hs
  replace r29550 := r29550.step hs
  replace r29537 := r29537.step hs
  replace r29539 := r29539.step hs
  refine ⟨fun x => Stp I29608 w29607 I29608 x ∧ OwnK [(g29540, [(.bool x29532.Num.Neg), v29536, (.bool x29532.Den.Neg), v29538], 26), (g29551, [(.bool x29543.Num.Neg), v29547, (.bool x29543.Den.Neg), v29549], 26)] x, ⟨Stp.refl _ _, (OwnK.cons (hp.own 1 _ _ _ rfl).1 (OwnK.cons (hp.own 0 _ _ _ rfl).1 OwnK.nil))⟩, fun x hx => ⟨hz.held hx.1, hx.2⟩, ?_⟩
  have hz := Stp.refl I29608 w29607
  refine vch_l e16 rfl ?_
  obtain ⟨x29611, q29612, h⟩ := bind_some h
  refine ev_call rfl rfl C39 (((ref02_New_ok n) _ _  x29599 v29603 r29604 x29605 v29609 r29610 hp.imm _ q29612).mono ?_)
  rintro _ w29613 ⟨I29614, v29615, v29617, hv, hq, r29616, r29618⟩
  replace hv := hv.symm
  subst hv
  have hs := hq.st
  have hp := hp.join0 hq
  replace hz := hz.trans hs
  replace r29548 := r29548.step hs
  replace r29550 := r29550.step hs
  replace r29537 := r29537.step hs
  replace r29539 := r29539.step hs
  refine ⟨fun x => Stp I29614 w29613 I29614 x ∧ OwnK [(g29540, [(.bool x29532.Num.Neg), v29536, (.bool x29532.Den.Neg), v29538], 26), (g29551, [(.bool x29543.Num.Neg), v29547, (.bool x29543.Den.Neg), v29549], 26)] x, ⟨Stp.refl _ _, (OwnK.cons (hp.own 1 _ _ _ rfl).1 (OwnK.cons (hp.own 0 _ _ _ rfl).1 OwnK.nil))⟩, fun x hx => ⟨hz.held hx.1, hx.2⟩, ?_⟩
  have hz := Stp.refl I29614 w29613
  refine vch_l e17 rfl ?_
  refine ev_storeA hp (i := 2) (off := 0) (vs := [(.bool x29611.Num.Neg), v29615, (.bool x29611.Den.Neg), v29617]) rfl rfl rfl rfl T26 rfl (Nat.le_of_ble_eq_true rfl) (ones_cons rfl (ones_cons r29616.one (ones_cons rfl (ones_cons r29618.one ones_nil)))) ?_
  intro w29619 hp hs
  replace hz := hz.trans hs
  replace r29548 := r29548.step hs
  replace r29550 := r29550.step hs
  replace r29537 := r29537.step hs
  replace r29539 := r29539.step hs
  replace r29616 := r29616.step hs
  replace r29618 := r29618.step hs
  refine ⟨fun x => Stp I29614 w29619 I29614 x ∧ OwnK [(g29540, [(.bool x29532.Num.Neg), v29536, (.bool x29532.Den.Neg), v29538], 26), (g29551, [(.bool x29543.Num.Neg), v29547, (.bool x29543.Den.Neg), v29549], 26)] x, ⟨Stp.refl _ _, (OwnK.cons (hp.own 1 _ _ _ rfl).1 (OwnK.cons (hp.own 0 _ _ _ rfl).1 OwnK.nil))⟩, fun x hx => ⟨hz.held hx.1, hx.2⟩, ?_⟩
  have hz := Stp.refl I29614 w29619
  refine vch_end ?_
  apply go
  obtain rfl := Option.some.inj h
  refine ⟨_, run_loadVarA T26 rfl (hp.at_ (i := 2) rfl), ?_⟩
  have hp := hp.sel [] (by decide)
  exact ⟨I29614, v29615, v29617, rfl, hp, r29616, r29618⟩

end Go.Proofs.YtepadjfmcbjkmaaDoor

namespace Go.Proofs.YtepadjfmcbjkmaaDoor
open Go Go.Proofs.YtepadjfmcbjkmaaDoor.Gw Go.RowKit
set_option linter.unusedVariables false
attribute [local irreducible] Ev EvQ EvS EvH
def rational_Neg_S (f : Rational → Option Rational) : Prop := ∀ (w0 : World) (I0 : Nat → Prop) (x29620 : Rational) (v29621 : Value) (r29622 : RepS (dI .u32) w0 I0 v29621 x29620.Num.Mag) (v29623 : Value) (r29624 : RepS (dI .u32) w0 I0 v29623 x29620.Den.Mag) (hI : ∀ g, I0 g → g < w0.heap.size) (r : Rational), f x29620 = some r →
    Ret Tryd.prog 25 #[(.agg #[(.bool x29620.Num.Neg), v29621, (.bool x29620.Den.Neg), v29623])] w0 fun v w1 => ∃ (I1 : Nat → Prop) (u29625 : Value) (u29626 : Value), v = (.agg #[(.bool r.Num.Neg), u29625, (.bool r.Den.Neg), u29626]) ∧ Hp ⟨w0, I0, []⟩ I1 [] w1 ∧ RepS (dI .u32) w1 I1 u29625 r.Num.Mag ∧ RepS (dI .u32) w1 I1 u29626 r.Den.Mag
theorem rational_Neg_ok (n : Nat) : rational_Neg_S (rational_Neg n) := by
  intro w0 I0 x29620 v29621 r29622 v29623 r29624 hI r h
  unfold rational_Neg at h
  refine enter Tryd.func25 rfl (Nat.le_of_ble_eq_true rfl) ?_
  have hp : Hp ⟨w0, I0, []⟩ I0 [] w0 := Hp.start hI
  apply go
  apply go
  refine ev_boxI hp rfl rfl ?_
  intro p29629 I29630 w29628 hp hs a29631
  replace r29622 := r29622.step hs
  replace r29624 := r29624.step hs
  refine ev_alloc hp rfl T26 ?_
  intro g29632 w29633 hp hs
  replace a29631 := a29631.step hs
  replace r29622 := r29622.step hs
  replace r29624 := r29624.step hs
  apply go
  have hs := hp.stp (Ch.drew [] w29633)
  have hp := hp.drew
  replace a29631 := a29631.step hs
  replace r29622 := r29622.step hs
  replace r29624 := r29624.step hs
  refine W.held [(0, true), (1, true), (3, true), (4, true), (2, false), (5, false), (6, false)] (Stp I29630 w29633.drew I29630) MX (by kernel_rfl) (Stp.refl _ _) ?_
  have hz := Stp.refl I29630 w29633.drew
  refine evh0 (rn_field rfl rfl FO26_0) ?_
  refine evh (fun w' hw => rn_load rfl rfl (run_loadVarA T24 rfl (((a29631.step hw).drop 0).take 2))) ?_
  refine evh0 (rn_field rfl rfl FO26_1) ?_
  refine evh (fun w' hw => rn_load rfl rfl (run_loadVarA T24 rfl (((a29631.step hw).drop 2).take 2))) ?_
  obtain ⟨x29649, q29650, h⟩ := bind_some h
  refine ev_call rfl rfl C42 (((integer_Neg_ok n) _ _  (Int_2.mk x29620.Num.Neg x29620.Num.Mag) v29621 r29622 hp.imm _ q29650).mono ?_)
  rintro _ w29651 ⟨I29652, v29653, hv, hq, r29654⟩
  replace hv := hv.symm
  subst hv
  have hs := hq.st
  have hp := hp.join0 hq
  replace hz := hz.trans hs
  replace r29624 := r29624.step hs
  refine ⟨Stp I29652 w29651 I29652, Stp.refl _ _, fun x hx => hz.held hx, ?_⟩
  have hz := Stp.refl I29652 w29651
  obtain ⟨x29655, q29656, h⟩ := bind_some h
  refine ev_call rfl rfl C14 (((rational_New_ok n) _ _  x29649 v29653 r29654 (Int_2.mk x29620.Den.Neg x29620.Den.Mag) v29623 r29624 hp.imm _ q29656).mono ?_)
  rintro _ w29657 ⟨I29658, v29659, v29661, hv, hq, r29660, r29662⟩
  replace hv := hv.symm
  subst hv
  have hs := hq.st
  have hp := hp.join0 hq
  replace hz := hz.trans hs
  refine ⟨Stp I29658 w29657 I29658, Stp.refl _ _, fun x hx => hz.held hx, ?_⟩
  have hz := Stp.refl I29658 w29657
  refine ev_storeA hp (i := 0) (off := 0) (vs := [(.bool x29655.Num.Neg), v29659, (.bool x29655.Den.Neg), v29661]) rfl rfl rfl rfl T26 rfl (Nat.le_of_ble_eq_true rfl) (ones_cons rfl (ones_cons r29660.one (ones_cons rfl (ones_cons r29662.one ones_nil)))) ?_
  intro w29663 hp hs
  replace hz := hz.trans hs
  replace r29660 := r29660.step hs
  replace r29662 := r29662.step hs
  refine ⟨Stp I29658 w29663 I29658, Stp.refl _ _, fun x hx => hz.held hx, ?_⟩
  have hz := Stp.refl I29658 w29663
  apply go
  obtain rfl := Option.some.inj h
  refine ⟨_, run_loadVarA T26 rfl (hp.at_ (i := 0) rfl), ?_⟩
  have hp := hp.sel [] (by decide)
  exact ⟨I29658, v29659, v29661, rfl, hp, r29660, r29662⟩

end Go.Proofs.YtepadjfmcbjkmaaDoor

namespace Go.Proofs.YtepadjfmcbjkmaaDoor
open Go Go.Proofs.YtepadjfmcbjkmaaDoor.Gw Go.RowKit
set_option linter.unusedVariables false
attribute [local irreducible] Ev EvQ EvS EvH
def rational_Sub_S (f : Rational → Rational → Option Rational) : Prop := ∀ (w0 : World) (I0 : Nat → Prop) (x29664 : Rational) (v29665 : Value) (r29666 : RepS (dI .u32) w0 I0 v29665 x29664.Num.Mag) (v29667 : Value) (r29668 : RepS (dI .u32) w0 I0 v29667 x29664.Den.Mag) (x29669 : Rational) (v29670 : Value) (r29671 : RepS (dI .u32) w0 I0 v29670 x29669.Num.Mag) (v29672 : Value) (r29673 : RepS (dI .u32) w0 I0 v29672 x29669.Den.Mag) (hI : ∀ g, I0 g → g < w0.heap.size) (r : Rational), f x29664 x29669 = some r →
    Ret Tryd.prog 21 #[(.agg #[(.bool x29664.Num.Neg), v29665, (.bool x29664.Den.Neg), v29667]), (.agg #[(.bool x29669.Num.Neg), v29670, (.bool x29669.Den.Neg), v29672])] w0 fun v w1 => ∃ (I1 : Nat → Prop) (u29674 : Value) (u29675 : Value), v = (.agg #[(.bool r.Num.Neg), u29674, (.bool r.Den.Neg), u29675]) ∧ Hp ⟨w0, I0, []⟩ I1 [] w1 ∧ RepS (dI .u32) w1 I1 u29674 r.Num.Mag ∧ RepS (dI .u32) w1 I1 u29675 r.Den.Mag
theorem rational_Sub_ok (n : Nat) : rational_Sub_S (rational_Sub n) := by
  intro w0 I0 x29664 v29665 r29666 v29667 r29668 x29669 v29670 r29671 v29672 r29673 hI r h
  unfold rational_Sub at h
  refine enter Tryd.func21 rfl (Nat.le_of_ble_eq_true rfl) ?_
  have hp : Hp ⟨w0, I0, []⟩ I0 [] w0 := Hp.start hI
  apply go
  apply go
  refine ev_boxI hp rfl rfl ?_
  intro p29678 I29679 w29677 hp hs a29680
  replace r29671 := r29671.step hs
  replace r29673 := r29673.step hs
  replace r29666 := r29666.step hs
  replace r29668 := r29668.step hs
  refine ev_boxI hp rfl rfl ?_
  intro p29683 I29684 w29682 hp hs a29685
  replace a29680 := a29680.step hs
  replace r29666 := r29666.step hs
  replace r29668 := r29668.step hs
  replace r29671 := r29671.step hs
  replace r29673 := r29673.step hs
  refine ev_alloc hp rfl T26 ?_
  intro g29686 w29687 hp hs
  replace a29680 := a29680.step hs
  replace r29666 := r29666.step hs
  replace r29668 := r29668.step hs
  replace a29685 := a29685.step hs
  replace r29671 := r29671.step hs
  replace r29673 := r29673.step hs
  apply go
  have hs := hp.stp (Ch.drew [] w29687)
  have hp := hp.drew
  replace a29680 := a29680.step hs
  replace r29666 := r29666.step hs
  replace r29668 := r29668.step hs
  replace a29685 := a29685.step hs
  replace r29671 := r29671.step hs
  replace r29673 := r29673.step hs
  refine W.held [(0, true), (1, true), (2, false), (3, false), (4, false)] (Stp I29684 w29687.drew I29684) MX (by kernel_rfl) (Stp.refl _ _) ?_
  have hz := Stp.refl I29684 w29687.drew
  refine evh (fun w' hw => rn_load rfl rfl (run_loadVarA T26 rfl (a29680.step hw))) ?_
  refine evh (fun w' hw => rn_load rfl rfl (run_loadVarA T26 rfl (a29685.step hw))) ?_
  obtain ⟨x29705, q29706, h⟩ := bind_some h
  refine ev_call rfl rfl C25 (((rational_Neg_ok n) _ _  (Rational.mk (Int_2.mk x29669.Num.Neg x29669.Num.Mag) (Int_2.mk x29669.Den.Neg x29669.Den.Mag)) v29670 r29671 v29672 r29673 hp.imm _ q29706).mono ?_)
  rintro _ w29707 ⟨I29708, v29709, v29711, hv, hq, r29710, r29712⟩
  replace hv := hv.symm
  subst hv
  have hs := hq.st
  have hp := hp.join0 hq
  replace hz := hz.trans hs
  replace r29666 := r29666.step hs
  replace r29668 := r29668.step hs
  refine ⟨Stp I29708 w29707 I29708, Stp.refl _ _, fun x hx => hz.held hx, ?_⟩
  have hz := Stp.refl I29708 w29707
  obtain ⟨x29713, q29714, h⟩ := bind_some h
  refine ev_call rfl rfl C19 (((rational_Add_ok n) _ _  (Rational.mk (Int_2.mk x29664.Num.Neg x29664.Num.Mag) (Int_2.mk x29664.Den.Neg x29664.Den.Mag)) v29665 r29666 v29667 r29668 x29705 v29709 r29710 v29711 r29712 hp.imm _ q29714).mono ?_)
  rintro _ w29715 ⟨I29716, v29717, v29719, hv, hq, r29718, r29720⟩
  replace hv := hv.symm
  subst hv
  have hs := hq.st
  have hp := hp.join0 hq
  replace hz := hz.trans hs
  refine ⟨Stp I29716 w29715 I29716, Stp.refl _ _, fun x hx => hz.held hx, ?_⟩
  have hz := Stp.refl I29716 w29715
  refine ev_storeA hp (i := 0) (off := 0) (vs := [(.bool x29713.Num.Neg), v29717, (.bool x29713.Den.Neg), v29719]) rfl rfl rfl rfl T26 rfl (Nat.le_of_ble_eq_true rfl) (ones_cons rfl (ones_cons r29718.one (ones_cons rfl (ones_cons r29720.one ones_nil)))) ?_
  intro w29721 hp hs
  replace hz := hz.trans hs
  replace r29718 := r29718.step hs
  replace r29720 := r29720.step hs
  refine ⟨Stp I29716 w29721 I29716, Stp.refl _ _, fun x hx => hz.held hx, ?_⟩
  have hz := Stp.refl I29716 w29721
  apply go
  obtain rfl := Option.some.inj h
  refine ⟨_, run_loadVarA T26 rfl (hp.at_ (i := 0) rfl), ?_⟩
  have hp := hp.sel [] (by decide)
  exact ⟨I29716, v29717, v29719, rfl, hp, r29718, r29720⟩

end Go.Proofs.YtepadjfmcbjkmaaDoor

namespace Go.Proofs.YtepadjfmcbjkmaaDoor
open Go Go.Proofs.YtepadjfmcbjkmaaDoor.Gw Go.RowKit
set_option linter.unusedVariables false
attribute [local irreducible] Ev EvQ EvS EvH
def ref02_Neg_S (f : Rational → Option Rational) : Prop := ∀ (w0 : World) (I0 : Nat → Prop) (x29722 : Rational) (v29723 : Value) (r29724 : RepS (dI .u32) w0 I0 v29723 x29722.Num.Mag) (v29725 : Value) (r29726 : RepS (dI .u32) w0 I0 v29725 x29722.Den.Mag) (hI : ∀ g, I0 g → g < w0.heap.size) (r : Rational), f x29722 = some r →
    Ret Tryd.prog 26 #[(.agg #[(.bool x29722.Num.Neg), v29723, (.bool x29722.Den.Neg), v29725])] w0 fun v w1 => ∃ (I1 : Nat → Prop) (u29727 : Value) (u29728 : Value), v = (.agg #[(.bool r.Num.Neg), u29727, (.bool r.Den.Neg), u29728]) ∧ Hp ⟨w0, I0, []⟩ I1 [] w1 ∧ RepS (dI .u32) w1 I1 u29727 r.Num.Mag ∧ RepS (dI .u32) w1 I1 u29728 r.Den.Mag
theorem ref02_Neg_ok (n : Nat) : ref02_Neg_S (ref02_Neg n) := by
  intro w0 I0 x29722 v29723 r29724 v29725 r29726 hI r h
  unfold ref02_Neg at h
  refine enter Tryd.func26 rfl (Nat.le_of_ble_eq_true rfl) ?_
  have hp : Hp ⟨w0, I0, []⟩ I0 [] w0 := Hp.start hI
  apply go
  apply go
  refine ev_boxI hp rfl rfl ?_
  intro p29731 I29732 w29730 hp hs a29733
  replace r29724 := r29724.step hs
  replace r29726 := r29726.step hs
  refine ev_alloc hp rfl T26 ?_
  intro g29734 w29735 hp hs
  replace a29733 := a29733.step hs
  replace r29724 := r29724.step hs
  replace r29726 := r29726.step hs
  apply go
  apply go
  refine ev (rn_load rfl rfl (run_loadVarA T26 rfl a29733)) ?_
  obtain ⟨x29736, q29737, h⟩ := bind_some h
  refine ev_call rfl rfl C15 (((ref02_Norm_ok n) _ _  (Rational.mk (Int_2.mk x29722.Num.Neg x29722.Num.Mag) (Int_2.mk x29722.Den.Neg x29722.Den.Mag)) v29723 r29724 v29725 r29726 hp.imm _ q29737).mono ?_)
  rintro _ w29738 ⟨I29739, v29740, v29742, hv, hq, r29741, r29743⟩
  replace hv := hv.symm
  subst hv
  have hs := hq.st
  have hp := hp.join0 hq
  refine ev_alloc hp rfl T26 ?_
  intro g29744 w29745 hp hs
  replace r29741 := r29741.step hs
  replace r29743 := r29743.step hs
  refine ev_storeA hp (i := 0) (off := 0) (vs := [(.bool x29736.Num.Neg), v29740, (.bool x29736.Den.Neg), v29742]) rfl rfl rfl rfl T26 rfl (Nat.le_of_ble_eq_true rfl) (ones_cons rfl (ones_cons r29741.one (ones_cons rfl (ones_cons r29743.one ones_nil)))) ?_
  intro w29746 hp hs
  replace r29741 := r29741.step hs
  replace r29743 := r29743.step hs
  apply go
  have hs := hp.stp (Ch.drew [] w29746)
  have hp := hp.drew
  replace r29741 := r29741.step hs
  replace r29743 := r29743.step hs
  refine W.held [(0, true), (1, true), (3, true), (4, true), (2, false), (5, false), (6, false)] (fun x => Stp I29739 w29746.drew I29739 x ∧ OwnK [(g29744, [(.bool x29736.Num.Neg), v29740, (.bool x29736.Den.Neg), v29742], 26)] x) MX (by kernel_rfl) ⟨Stp.refl _ _, (OwnK.cons (hp.own 0 _ _ _ rfl).1 OwnK.nil)⟩ ?_
  have hz := Stp.refl I29739 w29746.drew
  refine evh0 (rn_field rfl rfl FO26_0) ?_
  refine evh (fun w' hw => rn_load rfl rfl (run_loadVarA T24 rfl (((hw.2.at_ (i := 0) rfl).drop 0).take 2))) ?_
  refine evh0 (rn_field rfl rfl FO26_1) ?_
  refine evh (fun w' hw => rn_load rfl rfl (run_loadVarA T24 rfl (((hw.2.at_ (i := 0) rfl).drop 2).take 2))) ?_
  obtain ⟨x29762, q29763, h⟩ := bind_some h
  refine ev_call rfl rfl C50 (((ref01_Neg_ok n) _ _  (Int_2.mk x29736.Num.Neg x29736.Num.Mag) v29740 r29741 hp.imm _ q29763).mono ?_)
  rintro _ w29764 ⟨I29765, v29766, hv, hq, r29767⟩
  replace hv := hv.symm
  subst hv
  have hs := hq.st
  have hp := hp.join0 hq
  replace hz := hz.trans hs
  replace r29743 := r29743.step hs
  replace r29741 := r29741.step hs
  refine ⟨fun x => Stp I29765 w29764 I29765 x ∧ OwnK [(g29744, [(.bool x29736.Num.Neg), v29740, (.bool x29736.Den.Neg), v29742], 26)] x, ⟨Stp.refl _ _, (OwnK.cons (hp.own 0 _ _ _ rfl).1 OwnK.nil)⟩, fun x hx => ⟨hz.held hx.1, hx.2⟩, ?_⟩
  have hz := Stp.refl I29765 w29764
  obtain ⟨x29768, q29769, h⟩ := bind_some h
  refine ev_call rfl rfl C39 (((ref02_New_ok n) _ _  x29762 v29766 r29767 (Int_2.mk x29736.Den.Neg x29736.Den.Mag) v29742 r29743 hp.imm _ q29769).mono ?_)
  rintro _ w29770 ⟨I29771, v29772, v29774, hv, hq, r29773, r29775⟩
  replace hv := hv.symm
  subst hv
  have hs := hq.st
  have hp := hp.join0 hq
  replace hz := hz.trans hs
  replace r29741 := r29741.step hs
  replace r29743 := r29743.step hs
  refine ⟨fun x => Stp I29771 w29770 I29771 x ∧ OwnK [(g29744, [(.bool x29736.Num.Neg), v29740, (.bool x29736.Den.Neg), v29742], 26)] x, ⟨Stp.refl _ _, (OwnK.cons (hp.own 0 _ _ _ rfl).1 OwnK.nil)⟩, fun x hx => ⟨hz.held hx.1, hx.2⟩, ?_⟩
  have hz := Stp.refl I29771 w29770
  refine ev_storeA hp (i := 1) (off := 0) (vs := [(.bool x29768.Num.Neg), v29772, (.bool x29768.Den.Neg), v29774]) rfl rfl rfl rfl T26 rfl (Nat.le_of_ble_eq_true rfl) (ones_cons rfl (ones_cons r29773.one (ones_cons rfl (ones_cons r29775.one ones_nil)))) ?_
  intro w29776 hp hs
  replace hz := hz.trans hs
  replace r29741 := r29741.step hs
  replace r29743 := r29743.step hs
  replace r29773 := r29773.step hs
  replace r29775 := r29775.step hs
  refine ⟨fun x => Stp I29771 w29776 I29771 x ∧ OwnK [(g29744, [(.bool x29736.Num.Neg), v29740, (.bool x29736.Den.Neg), v29742], 26)] x, ⟨Stp.refl _ _, (OwnK.cons (hp.own 0 _ _ _ rfl).1 OwnK.nil)⟩, fun x hx => ⟨hz.held hx.1, hx.2⟩, ?_⟩
  have hz := Stp.refl I29771 w29776
  apply go
  obtain rfl := Option.some.inj h
  refine ⟨_, run_loadVarA T26 rfl (hp.at_ (i := 1) rfl), ?_⟩
  have hp := hp.sel [] (by decide)
  exact ⟨I29771, v29772, v29774, rfl, hp, r29773, r29775⟩

end Go.Proofs.YtepadjfmcbjkmaaDoor

namespace Go.Proofs.YtepadjfmcbjkmaaDoor
open Go Go.Proofs.YtepadjfmcbjkmaaDoor.Gw Go.RowKit
set_option linter.unusedVariables false
attribute [local irreducible] Ev EvQ EvS EvH
def ref02_Sub_S (f : Rational → Rational → Option Rational) : Prop := ∀ (w0 : World) (I0 : Nat → Prop) (x29777 : Rational) (v29778 : Value) (r29779 : RepS (dI .u32) w0 I0 v29778 x29777.Num.Mag) (v29780 : Value) (r29781 : RepS (dI .u32) w0 I0 v29780 x29777.Den.Mag) (x29782 : Rational) (v29783 : Value) (r29784 : RepS (dI .u32) w0 I0 v29783 x29782.Num.Mag) (v29785 : Value) (r29786 : RepS (dI .u32) w0 I0 v29785 x29782.Den.Mag) (hI : ∀ g, I0 g → g < w0.heap.size) (r : Rational), f x29777 x29782 = some r →
    Ret Tryd.prog 22 #[(.agg #[(.bool x29777.Num.Neg), v29778, (.bool x29777.Den.Neg), v29780]), (.agg #[(.bool x29782.Num.Neg), v29783, (.bool x29782.Den.Neg), v29785])] w0 fun v w1 => ∃ (I1 : Nat → Prop) (u29787 : Value) (u29788 : Value), v = (.agg #[(.bool r.Num.Neg), u29787, (.bool r.Den.Neg), u29788]) ∧ Hp ⟨w0, I0, []⟩ I1 [] w1 ∧ RepS (dI .u32) w1 I1 u29787 r.Num.Mag ∧ RepS (dI .u32) w1 I1 u29788 r.Den.Mag
theorem ref02_Sub_ok (n : Nat) : ref02_Sub_S (ref02_Sub n) := by
  intro w0 I0 x29777 v29778 r29779 v29780 r29781 x29782 v29783 r29784 v29785 r29786 hI r h
  unfold ref02_Sub at h
  refine enter Tryd.func22 rfl (Nat.le_of_ble_eq_true rfl) ?_
  have hp : Hp ⟨w0, I0, []⟩ I0 [] w0 := Hp.start hI
  apply go
  apply go
  refine ev_boxI hp rfl rfl ?_
  intro p29791 I29792 w29790 hp hs a29793
  replace r29784 := r29784.step hs
  replace r29786 := r29786.step hs
  replace r29779 := r29779.step hs
  replace r29781 := r29781.step hs
  refine ev_boxI hp rfl rfl ?_
  intro p29796 I29797 w29795 hp hs a29798
  replace a29793 := a29793.step hs
  replace r29779 := r29779.step hs
  replace r29781 := r29781.step hs
  replace r29784 := r29784.step hs
  replace r29786 := r29786.step hs
  refine ev_alloc hp rfl T26 ?_
  intro g29799 w29800 hp hs
  replace a29793 := a29793.step hs
  replace r29779 := r29779.step hs
  replace r29781 := r29781.step hs
  replace a29798 := a29798.step hs
  replace r29784 := r29784.step hs
  replace r29786 := r29786.step hs
  apply go
  have hs := hp.stp (Ch.drew [] w29800)
  have hp := hp.drew
  replace a29793 := a29793.step hs
  replace r29779 := r29779.step hs
  replace r29781 := r29781.step hs
  replace a29798 := a29798.step hs
  replace r29784 := r29784.step hs
  replace r29786 := r29786.step hs
  refine W.held [(0, true), (1, true), (2, false), (3, false), (4, false)] (Stp I29797 w29800.drew I29797) MX (by kernel_rfl) (Stp.refl _ _) ?_
  have hz := Stp.refl I29797 w29800.drew
  refine evh (fun w' hw => rn_load rfl rfl (run_loadVarA T26 rfl (a29793.step hw))) ?_
  refine evh (fun w' hw => rn_load rfl rfl (run_loadVarA T26 rfl (a29798.step hw))) ?_
  obtain ⟨x29818, q29819, h⟩ := bind_some h
  refine ev_call rfl rfl C26 (((ref02_Neg_ok n) _ _  (Rational.mk (Int_2.mk x29782.Num.Neg x29782.Num.Mag) (Int_2.mk x29782.Den.Neg x29782.Den.Mag)) v29783 r29784 v29785 r29786 hp.imm _ q29819).mono ?_)
  rintro _ w29820 ⟨I29821, v29822, v29824, hv, hq, r29823, r29825⟩
  replace hv := hv.symm
  subst hv
  have hs := hq.st
  have hp := hp.join0 hq
  replace hz := hz.trans hs
  replace r29779 := r29779.step hs
  replace r29781 := r29781.step hs
  refine ⟨Stp I29821 w29820 I29821, Stp.refl _ _, fun x hx => hz.held hx, ?_⟩
  have hz := Stp.refl I29821 w29820
  obtain ⟨x29826, q29827, h⟩ := bind_some h
  refine ev_call rfl rfl C20 (((ref02_Add_ok n) _ _  (Rational.mk (Int_2.mk x29777.Num.Neg x29777.Num.Mag) (Int_2.mk x29777.Den.Neg x29777.Den.Mag)) v29778 r29779 v29780 r29781 x29818 v29822 r29823 v29824 r29825 hp.imm _ q29827).mono ?_)
  rintro _ w29828 ⟨I29829, v29830, v29832, hv, hq, r29831, r29833⟩
  replace hv := hv.symm
  subst hv
  have hs := hq.st
  have hp := hp.join0 hq
  replace hz := hz.trans hs
  refine ⟨Stp I29829 w29828 I29829, Stp.refl _ _, fun x hx => hz.held hx, ?_⟩
  have hz := Stp.refl I29829 w29828
  refine ev_storeA hp (i := 0) (off := 0) (vs := [(.bool x29826.Num.Neg), v29830, (.bool x29826.Den.Neg), v29832]) rfl rfl rfl rfl T26 rfl (Nat.le_of_ble_eq_true rfl) (ones_cons rfl (ones_cons r29831.one (ones_cons rfl (ones_cons r29833.one ones_nil)))) ?_
  intro w29834 hp hs
  replace hz := hz.trans hs
  replace r29831 := r29831.step hs
  replace r29833 := r29833.step hs
  refine ⟨Stp I29829 w29834 I29829, Stp.refl _ _, fun x hx => hz.held hx, ?_⟩
  have hz := Stp.refl I29829 w29834
  apply go
  obtain rfl := Option.some.inj h
  refine ⟨_, run_loadVarA T26 rfl (hp.at_ (i := 0) rfl), ?_⟩
  have hp := hp.sel [] (by decide)
  exact ⟨I29829, v29830, v29832, rfl, hp, r29831, r29833⟩

end Go.Proofs.YtepadjfmcbjkmaaDoor

namespace Go.Proofs.YtepadjfmcbjkmaaDoor
open Go Go.Proofs.YtepadjfmcbjkmaaDoor.Gw Go.RowKit
set_option linter.unusedVariables false
attribute [local irreducible] Ev EvQ EvS EvH
def rational_Mul_S (f : Rational → Rational → Option Rational) : Prop := ∀ (w0 : World) (I0 : Nat → Prop) (x29835 : Rational) (v29836 : Value) (r29837 : RepS (dI .u32) w0 I0 v29836 x29835.Num.Mag) (v29838 : Value) (r29839 : RepS (dI .u32) w0 I0 v29838 x29835.Den.Mag) (x29840 : Rational) (v29841 : Value) (r29842 : RepS (dI .u32) w0 I0 v29841 x29840.Num.Mag) (v29843 : Value) (r29844 : RepS (dI .u32) w0 I0 v29843 x29840.Den.Mag) (hI : ∀ g, I0 g → g < w0.heap.size) (r : Rational), f x29835 x29840 = some r →
    Ret Tryd.prog 23 #[(.agg #[(.bool x29835.Num.Neg), v29836, (.bool x29835.Den.Neg), v29838]), (.agg #[(.bool x29840.Num.Neg), v29841, (.bool x29840.Den.Neg), v29843])] w0 fun v w1 => ∃ (I1 : Nat → Prop) (u29845 : Value) (u29846 : Value), v = (.agg #[(.bool r.Num.Neg), u29845, (.bool r.Den.Neg), u29846]) ∧ Hp ⟨w0, I0, []⟩ I1 [] w1 ∧ RepS (dI .u32) w1 I1 u29845 r.Num.Mag ∧ RepS (dI .u32) w1 I1 u29846 r.Den.Mag
theorem rational_Mul_ok (n : Nat) : rational_Mul_S (rational_Mul n) := by
  intro w0 I0 x29835 v29836 r29837 v29838 r29839 x29840 v29841 r29842 v29843 r29844 hI r h
  unfold rational_Mul at h
  refine enter Tryd.func23 rfl (Nat.le_of_ble_eq_true rfl) ?_
  have hp : Hp ⟨w0, I0, []⟩ I0 [] w0 := Hp.start hI
  apply go
  apply go
  refine ev_boxI hp rfl rfl ?_
  intro p29849 I29850 w29848 hp hs a29851
  replace r29842 := r29842.step hs
  replace r29844 := r29844.step hs
  replace r29837 := r29837.step hs
  replace r29839 := r29839.step hs
  refine ev_boxI hp rfl rfl ?_
  intro p29854 I29855 w29853 hp hs a29856
  replace a29851 := a29851.step hs
  replace r29837 := r29837.step hs
  replace r29839 := r29839.step hs
  replace r29842 := r29842.step hs
  replace r29844 := r29844.step hs
  refine ev_alloc hp rfl T26 ?_
  intro g29857 w29858 hp hs
  replace a29851 := a29851.step hs
  replace r29837 := r29837.step hs
  replace r29839 := r29839.step hs
  replace a29856 := a29856.step hs
  replace r29842 := r29842.step hs
  replace r29844 := r29844.step hs
  apply go
  have hs := hp.stp (Ch.drew [] w29858)
  have hp := hp.drew
  replace a29851 := a29851.step hs
  replace r29837 := r29837.step hs
  replace r29839 := r29839.step hs
  replace a29856 := a29856.step hs
  replace r29842 := r29842.step hs
  replace r29844 := r29844.step hs
  refine W.held [(0, true), (1, true), (2, true), (3, true), (5, true), (6, true), (7, true), (8, true), (4, false), (9, false), (10, false), (11, false)] (Stp I29855 w29858.drew I29855) MX (by kernel_rfl) (Stp.refl _ _) ?_
  have hz := Stp.refl I29855 w29858.drew
  refine evh0 (rn_field rfl rfl FO26_0) ?_
  refine evh (fun w' hw => rn_load rfl rfl (run_loadVarA T24 rfl (((a29851.step hw).drop 0).take 2))) ?_
  refine evh0 (rn_field rfl rfl FO26_0) ?_
  refine evh (fun w' hw => rn_load rfl rfl (run_loadVarA T24 rfl (((a29856.step hw).drop 0).take 2))) ?_
  refine evh0 (rn_field rfl rfl FO26_1) ?_
  refine evh (fun w' hw => rn_load rfl rfl (run_loadVarA T24 rfl (((a29851.step hw).drop 2).take 2))) ?_
  refine evh0 (rn_field rfl rfl FO26_1) ?_
  refine evh (fun w' hw => rn_load rfl rfl (run_loadVarA T24 rfl (((a29856.step hw).drop 2).take 2))) ?_
  obtain ⟨x29880, q29881, h⟩ := bind_some h
  refine ev_call rfl rfl C47 (((integer_Mul_ok n) _ _  (Int_2.mk x29835.Num.Neg x29835.Num.Mag) v29836 r29837 (Int_2.mk x29840.Num.Neg x29840.Num.Mag) v29841 r29842 hp.imm _ q29881).mono ?_)
  rintro _ w29882 ⟨I29883, v29884, hv, hq, r29885⟩
  replace hv := hv.symm
  subst hv
  have hs := hq.st
  have hp := hp.join0 hq
  replace hz := hz.trans hs
  replace r29839 := r29839.step hs
  replace r29844 := r29844.step hs
  refine ⟨Stp I29883 w29882 I29883, Stp.refl _ _, fun x hx => hz.held hx, ?_⟩
  have hz := Stp.refl I29883 w29882
  obtain ⟨x29886, q29887, h⟩ := bind_some h
  refine ev_call rfl rfl C47 (((integer_Mul_ok n) _ _  (Int_2.mk x29835.Den.Neg x29835.Den.Mag) v29838 r29839 (Int_2.mk x29840.Den.Neg x29840.Den.Mag) v29843 r29844 hp.imm _ q29887).mono ?_)
  rintro _ w29888 ⟨I29889, v29890, hv, hq, r29891⟩
  replace hv := hv.symm
  subst hv
  have hs := hq.st
  have hp := hp.join0 hq
  replace hz := hz.trans hs
  replace r29885 := r29885.step hs
  refine ⟨Stp I29889 w29888 I29889, Stp.refl _ _, fun x hx => hz.held hx, ?_⟩
  have hz := Stp.refl I29889 w29888
  obtain ⟨x29892, q29893, h⟩ := bind_some h
  refine ev_call rfl rfl C14 (((rational_New_ok n) _ _  x29880 v29884 r29885 x29886 v29890 r29891 hp.imm _ q29893).mono ?_)
  rintro _ w29894 ⟨I29895, v29896, v29898, hv, hq, r29897, r29899⟩
  replace hv := hv.symm
  subst hv
  have hs := hq.st
  have hp := hp.join0 hq
  replace hz := hz.trans hs
  refine ⟨Stp I29895 w29894 I29895, Stp.refl _ _, fun x hx => hz.held hx, ?_⟩
  have hz := Stp.refl I29895 w29894
  refine ev_storeA hp (i := 0) (off := 0) (vs := [(.bool x29892.Num.Neg), v29896, (.bool x29892.Den.Neg), v29898]) rfl rfl rfl rfl T26 rfl (Nat.le_of_ble_eq_true rfl) (ones_cons rfl (ones_cons r29897.one (ones_cons rfl (ones_cons r29899.one ones_nil)))) ?_
  intro w29900 hp hs
  replace hz := hz.trans hs
  replace r29897 := r29897.step hs
  replace r29899 := r29899.step hs
  refine ⟨Stp I29895 w29900 I29895, Stp.refl _ _, fun x hx => hz.held hx, ?_⟩
  have hz := Stp.refl I29895 w29900
  apply go
  obtain rfl := Option.some.inj h
  refine ⟨_, run_loadVarA T26 rfl (hp.at_ (i := 0) rfl), ?_⟩
  have hp := hp.sel [] (by decide)
  exact ⟨I29895, v29896, v29898, rfl, hp, r29897, r29899⟩

end Go.Proofs.YtepadjfmcbjkmaaDoor
