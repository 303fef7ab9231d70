/-
  Facts on the types and functions of the program.
-/
import Derived.Test.YtknnmbcaoekgmaaDataA
import Derived.Test.YtknnmbcaoekgmaaProg
namespace Go.Proofs.Ytknnmbcaoekgmaa
open Go Go.Proofs.Ytknnmbcaoekgmaa.Gw Go.RowKit
set_option linter.unusedVariables false
def dNodeN : Nat → Desc Node
  | 0 => dNo 4
  | n + 1 => dV (fun x => (x.Kind, (x.Name, (x.Count, x.Kids)))) (dP (dI .i64) (dP (dI .i64) (dP (dI .i64) (dSl (dNodeN n)))))
theorem dNodeN_size : ∀ n, (dNodeN n).size = 4
  | 0 => rfl
  | n + 1 => rfl
theorem dNodeN_up : ∀ n w I cs x, (dNodeN n).rep w I cs x → (dNodeN (n + 1)).rep w I cs x
  | 0, w, I, cs, x, h => h.elim
  | n + 1, w, I, cs, x, h => dP_mapR (fun _ => dP_mapR (fun _ => dP_mapR (fun _ => dSl_map ((dNodeN_size _).trans (dNodeN_size _).symm) (fun cs x h => dNodeN_up n w I cs x h)))) h
def dNode : Desc Node := dUn 4 dNodeN dNodeN_size
def dNodeF : Desc Node := dV (fun x => (x.Kind, (x.Name, (x.Count, x.Kids)))) (dP (dI .i64) (dP (dI .i64) (dP (dI .i64) (dSl dNode))))
theorem dNode_un {w : World} {I : Nat → Prop} {cs : List Value} {x : Node} : dNode.rep w I cs x → dNodeF.rep w I cs x
  | ⟨0, h⟩ => h.elim
  | ⟨n + 1, h⟩ => dP_mapR (fun _ => dP_mapR (fun _ => dP_mapR (fun _ => dSl_un))) h
theorem dNode_fo {w : World} {I : Nat → Prop} {cs : List Value} {x : Node} (h : dNodeF.rep w I cs x) : dNode.rep w I cs x :=
  let ⟨n, h⟩ := (dP_exR (fun _ => dP_exR (fun _ => dP_exR (fun _ => dSl_ex dNodeN_up))) h : ∃ n, (dP _ _ : Desc _).rep w I cs _); ⟨n + 1, h⟩
theorem dNodeF_o {w : World} {I : Nat → Prop} {cs : List Value} {x : Node} (h : dNodeF.rep w I cs x) : ∃ v3, cs = [.int .i64 x.Kind, .int .i64 x.Name, .int .i64 x.Count, v3] ∧ RepS dNode w I v3 x.Kids := by
  obtain ⟨c0, d0, rfl, h0, k0⟩ := h
  obtain ⟨c1, d1, rfl, h1, k1⟩ := k0
  obtain ⟨c2, d2, rfl, h2, k2⟩ := k1
  obtain rfl : c0 = [.int .i64 x.Kind] := h0
  obtain rfl : c1 = [.int .i64 x.Name] := h1
  obtain rfl : c2 = [.int .i64 x.Count] := h2
  obtain ⟨v3, rfl, r3⟩ := k2
  exact ⟨v3, rfl, r3⟩
theorem dNodeF_m {w : World} {I : Nat → Prop} {x : Node} {v3 : Value} (r3 : RepS dNode w I v3 x.Kids) : dNodeF.rep w I [.int .i64 x.Kind, .int .i64 x.Name, .int .i64 x.Count, v3] x := by
  exact ⟨[.int .i64 x.Kind], _, rfl, rfl, ⟨[.int .i64 x.Name], _, rfl, rfl, ⟨[.int .i64 x.Count], _, rfl, rfl, dSl_iff.2 r3⟩⟩⟩
theorem dNode_o {w : World} {I : Nat → Prop} {cs : List Value} {x : Node} (h : dNode.rep w I cs x) : ∃ v3, cs = [.int .i64 x.Kind, .int .i64 x.Name, .int .i64 x.Count, v3] ∧ RepS dNode w I v3 x.Kids := dNodeF_o (dNode_un h)
theorem dNode_m {w : World} {I : Nat → Prop} {x : Node} {v3 : Value} (r3 : RepS dNode w I v3 x.Kids) : dNode.rep w I [.int .i64 x.Kind, .int .i64 x.Name, .int .i64 x.Count, v3] x := dNode_fo (dNodeF_m r3)
def dNode_2 : Desc Node_2 := dV (fun x => (x.kind, (x.name, (x.count, x.kids)))) (dP (dI .i64) (dP (dI .i64) (dP (dI .i64) (dSl (dI .i64)))))
theorem dNode_2_o {w : World} {I : Nat → Prop} {cs : List Value} {x : Node_2} (h : dNode_2.rep w I cs x) : ∃ v3, cs = [.int .i64 x.kind, .int .i64 x.name, .int .i64 x.count, v3] ∧ RepS (dI .i64) w I v3 x.kids := by
  obtain ⟨c0, d0, rfl, h0, k0⟩ := h
  obtain ⟨c1, d1, rfl, h1, k1⟩ := k0
  obtain ⟨c2, d2, rfl, h2, k2⟩ := k1
  obtain rfl : c0 = [.int .i64 x.kind] := h0
  obtain rfl : c1 = [.int .i64 x.name] := h1
  obtain rfl : c2 = [.int .i64 x.count] := h2
  obtain ⟨v3, rfl, r3⟩ := k2
  exact ⟨v3, rfl, r3⟩
theorem dNode_2_m {w : World} {I : Nat → Prop} {x : Node_2} {v3 : Value} (r3 : RepS (dI .i64) w I v3 x.kids) : dNode_2.rep w I [.int .i64 x.kind, .int .i64 x.name, .int .i64 x.count, v3] x := by
  exact ⟨[.int .i64 x.kind], _, rfl, rfl, ⟨[.int .i64 x.name], _, rfl, rfl, ⟨[.int .i64 x.count], _, rfl, rfl, dSl_iff.2 r3⟩⟩⟩
def dInput : Desc Input := dV (fun x => (x.Actions, x.Tests)) (dP (dSl (dI .i64)) (dSl dB))
theorem dInput_o {w : World} {I : Nat → Prop} {cs : List Value} {x : Input} (h : dInput.rep w I cs x) : ∃ v0 v1, cs = [v0, v1] ∧ RepS (dI .i64) w I v0 x.Actions ∧ RepS dB w I v1 x.Tests := by
  obtain ⟨c0, d0, rfl, h0, k0⟩ := h
  obtain ⟨v0, rfl, r0⟩ := h0
  obtain ⟨v1, rfl, r1⟩ := k0
  exact ⟨v0, v1, rfl, r0, r1⟩
theorem MX : Try.prog.follows .mixedOrders = true := by kernel_rfl
theorem T3 : TI Try.prog 3 1 8 (.int .i64 0) false := ⟨by kernel_rfl, by kernel_rfl, rfl⟩
theorem T4 : TI Try.prog 4 1 1 (.bool false) false := ⟨by kernel_rfl, by kernel_rfl, rfl⟩
theorem T22 : TI Try.prog 22 1 24 (.slice none 0 0) false := ⟨by kernel_rfl, by kernel_rfl, rfl⟩
theorem T24 : TI Try.prog 24 4 48 (.agg #[(.int .i64 0), (.int .i64 0), (.int .i64 0), (.slice none 0 0)]) true := ⟨by kernel_rfl, by kernel_rfl, rfl⟩
theorem T39 : TI Try.prog 39 1 24 (.slice none 0 0) false := ⟨by kernel_rfl, by kernel_rfl, rfl⟩
theorem T40 : TI Try.prog 40 1 24 (.slice none 0 0) false := ⟨by kernel_rfl, by kernel_rfl, rfl⟩
theorem T42 : TI Try.prog 42 2 48 (.agg #[(.slice none 0 0), (.slice none 0 0)]) true := ⟨by kernel_rfl, by kernel_rfl, rfl⟩
theorem T59 : TI Try.prog 59 1 24 (.slice none 0 0) false := ⟨by kernel_rfl, by kernel_rfl, rfl⟩
theorem T61 : TI Try.prog 61 3 72 (.agg #[(.slice none 0 0), (.slice none 0 0), (.slice none 0 0)]) true := ⟨by kernel_rfl, by kernel_rfl, rfl⟩
theorem T62 : TI Try.prog 62 64 512 (.agg (zrow 64 [.int .i64 0]).toArray) true := ⟨by kernel_rfl, by kernel_rfl, by kernel_rfl⟩
theorem T63 : TI Try.prog 63 64 64 (.agg (zrow 64 [.bool false]).toArray) true := ⟨by kernel_rfl, by kernel_rfl, by kernel_rfl⟩
theorem T65 : TI Try.prog 65 197 1160 (.agg ((Value.int .i64 0) :: ((Value.int .i64 0) :: ((Value.int .i64 0) :: ((Value.slice none 0 0) :: ((zrow 64 [.int .i64 0]) ++ ((zrow 64 [.bool false]) ++ ((zrow 64 [.int .i64 0]) ++ ((Value.slice none 0 0) :: [])))))))).toArray) true := ⟨by kernel_rfl, by kernel_rfl, by kernel_rfl⟩
theorem T68 : TI Try.prog 68 4 96 (.agg #[(.slice none 0 0), (.slice none 0 0), (.slice none 0 0), (.slice none 0 0)]) true := ⟨by kernel_rfl, by kernel_rfl, rfl⟩
theorem T73 : TI Try.prog 73 4 48 (.agg #[(.int .i64 0), (.int .i64 0), (.int .i64 0), (.slice none 0 0)]) true := ⟨by kernel_rfl, by kernel_rfl, rfl⟩
theorem FO24_0 : FO Try.prog 24 0 0 := by unfold FO; kernel_rfl
theorem FO24_1 : FO Try.prog 24 1 1 := by unfold FO; kernel_rfl
theorem FO24_2 : FO Try.prog 24 2 2 := by unfold FO; kernel_rfl
theorem FO24_3 : FO Try.prog 24 3 3 := by unfold FO; kernel_rfl
theorem FO42_0 : FO Try.prog 42 0 0 := by unfold FO; kernel_rfl
theorem FO42_1 : FO Try.prog 42 1 1 := by unfold FO; kernel_rfl
theorem FO61_0 : FO Try.prog 61 0 0 := by unfold FO; kernel_rfl
theorem FO61_1 : FO Try.prog 61 1 1 := by unfold FO; kernel_rfl
theorem FO61_2 : FO Try.prog 61 2 2 := by unfold FO; kernel_rfl
theorem FO65_0 : FO Try.prog 65 0 0 := by unfold FO; kernel_rfl
theorem FO65_1 : FO Try.prog 65 1 4 := by unfold FO; kernel_rfl
theorem FO65_2 : FO Try.prog 65 2 68 := by unfold FO; kernel_rfl
theorem FO65_3 : FO Try.prog 65 3 132 := by unfold FO; kernel_rfl
theorem FO65_4 : FO Try.prog 65 4 196 := by unfold FO; kernel_rfl
theorem FO68_0 : FO Try.prog 68 0 0 := by unfold FO; kernel_rfl
theorem FO68_1 : FO Try.prog 68 1 1 := by unfold FO; kernel_rfl
theorem FO68_2 : FO Try.prog 68 2 2 := by unfold FO; kernel_rfl
theorem FO68_3 : FO Try.prog 68 3 3 := by unfold FO; kernel_rfl
theorem FO73_0 : FO Try.prog 73 0 0 := by unfold FO; kernel_rfl
theorem FO73_1 : FO Try.prog 73 1 1 := by unfold FO; kernel_rfl
theorem FO73_2 : FO Try.prog 73 2 2 := by unfold FO; kernel_rfl
theorem FO73_3 : FO Try.prog 73 3 3 := by unfold FO; kernel_rfl
theorem PL24 : Places Try.prog 24 [(0, 1), (1, 1), (2, 1), (3, 1)] := by unfold Places; kernel_rfl
theorem PL61 : Places Try.prog 61 [(0, 1), (1, 1), (2, 1)] := by unfold Places; kernel_rfl
theorem PL65 : Places Try.prog 65 [(0, 4), (4, 64), (68, 64), (132, 64), (196, 1)] := by unfold Places; kernel_rfl
theorem PL68 : Places Try.prog 68 [(0, 1), (1, 1), (2, 1), (3, 1)] := by unfold Places; kernel_rfl
abbrev qR (w : World) (I : Nat → Prop) (g : Nat) (E : List Ent) (x : Runner) : Prop := ∃ (v40907 : Value) (v40909 : Value) (e40910 : Ent) (v40912 : Value) (e40913 : Ent), E = some (g, [v40907, v40909, v40912], 61) :: (e40910 :: (e40913 :: [])) ∧ RepS dNode_2 w I v40907 x.nodes ∧ OwnS (dI .i64) 3 w I v40909 e40910 x.counters ∧ OwnS dB 4 w I v40912 e40913 x.active
def qoR (w : World) (I : Nat → Prop) (v : Value) (E : List Ent) : Option Runner → Prop
  | none => v = .pointer none ∧ E = []
  | some x => ∃ g, v = .pointer (some ⟨g, 0, none⟩) ∧ qR w I g E x
abbrev qZ (w : World) (I : Nat → Prop) (g : Nat) (E : List Ent) (x : Runner) : Prop := E = some (g, [(.slice none 0 0), (.slice none 0 0), (.slice none 0 0)], 61) :: [] ∧ x = (Runner.mk [] [] [])
abbrev qN (N : Nat) (w : World) (I : Nat → Prop) (g : Nat) (E : List Ent) (x : Runner) : Prop := ∃ (v40915 : Value), E = some (g, [v40915, (.slice none 0 0), (.slice none 0 0)], 61) :: [] ∧ RepF dNode_2 N w I v40915 x.nodes
abbrev qF (N : Nat) (w : World) (I : Nat → Prop) (g : Nat) (E : List Ent) (x : Runner) : Prop := ∃ (v40918 : Value) (v40921 : Value) (e40922 : Ent) (v40924 : Value) (e40925 : Ent), E = some (g, [v40918, v40921, v40924], 61) :: (e40922 :: (e40925 :: [])) ∧ RepF dNode_2 N w I v40918 x.nodes ∧ OwnS (dI .i64) 3 w I v40921 e40922 x.counters ∧ OwnS dB 4 w I v40924 e40925 x.active
def qoF (N : Nat) (w : World) (I : Nat → Prop) (v : Value) (E : List Ent) : Option Runner → Prop
  | none => v = .pointer none ∧ E = []
  | some x => ∃ g, v = .pointer (some ⟨g, 0, none⟩) ∧ qF N w I g E x
abbrev qK (w : World) (I : Nat → Prop) (g : Nat) (E : List Ent) (x : Tick) : Prop := ∃ (v40927 : Value) (v40929 : Value) (v40931 : Value) (e40932 : Ent) (v40934 : Value) (e40935 : Ent), E = some (g, [v40927, v40929, v40931, v40934], 68) :: (e40932 :: (e40935 :: [])) ∧ RepS (dI .i64) w I v40927 x.actions ∧ RepS dB w I v40929 x.tests ∧ OwnS (dI .i64) 3 w I v40931 e40932 x.status ∧ OwnS (dI .i64) 3 w I v40934 e40935 x.ticked
abbrev qW (w : World) (I : Nat → Prop) (g : Nat) (E : List Ent) (x : Runner_2) : Prop := ∃ (v40937 : Value) (c40939 : List Value) (c40941 : List Value) (c40943 : List Value) (v40945 : Value), E = some (g, ((Value.int .i64 x.T.Kind) :: ((Value.int .i64 x.T.Name) :: ((Value.int .i64 x.T.Count) :: (v40937 :: (c40939 ++ (c40941 ++ (c40943 ++ (v40945 :: [])))))))), 65) :: [] ∧ RepS dNode w I v40937 x.T.Kids ∧ (dA 64 (dI .i64)).rep w I c40939 x.Counters ∧ (dA 64 dB).rep w I c40941 x.On ∧ (dA 64 (dI .i64)).rep w I c40943 x.Status ∧ RepS (dI .i64) w I v40945 x.Ticked
def qoW (w : World) (I : Nat → Prop) (v : Value) (E : List Ent) : Option Runner_2 → Prop
  | none => v = .pointer none ∧ E = []
  | some x => ∃ g, v = .pointer (some ⟨g, 0, none⟩) ∧ qW w I g E x
abbrev qV (w : World) (I : Nat → Prop) (g : Nat) (E : List Ent) (x : Runner_2) : Prop := ∃ (v40947 : Value) (c40949 : List Value) (c40951 : List Value) (c40953 : List Value) (v40955 : Value) (e40956 : Ent), E = some (g, ((Value.int .i64 x.T.Kind) :: ((Value.int .i64 x.T.Name) :: ((Value.int .i64 x.T.Count) :: (v40947 :: (c40949 ++ (c40951 ++ (c40953 ++ (v40955 :: [])))))))), 65) :: (e40956 :: []) ∧ RepS dNode w I v40947 x.T.Kids ∧ (dA 64 (dI .i64)).rep w I c40949 x.Counters ∧ (dA 64 dB).rep w I c40951 x.On ∧ (dA 64 (dI .i64)).rep w I c40953 x.Status ∧ OwnS (dI .i64) 3 w I v40955 e40956 x.Ticked
def tree_Runner_run_S (f : Runner → Int → Tick → Option (Int × Runner × Tick)) : Prop := ∀ (w0 : World) (I0 : Nat → Prop) (x1976 : Runner) (g1977 : Nat) (E1978 : List Ent) (q1979 : qR w0 I0 g1977 E1978 x1976) (x1980 : Int) (x1981 : Tick) (g1982 : Nat) (E1983 : List Ent) (q1984 : qK w0 I0 g1982 E1983 x1981) (hp : Hp ⟨w0, I0, blks (E1978 ++ E1983)⟩ I0 (E1978 ++ E1983) w0) (r : (Int × Runner × Tick)), f x1976 x1980 x1981 = some r →
    Ret Try.prog 35 #[(.pointer (some ⟨g1977, 0, none⟩)), (.int .i64 x1980), (.pointer (some ⟨g1982, 0, none⟩))] w0 fun v w1 => ∃ (I1 : Nat → Prop) (u1985 : List Ent) (u1986 : List Ent), v = (.int .i64 r.1) ∧ Hp ⟨w0, I0, blks (E1978 ++ E1983)⟩ I1 (u1985 ++ u1986) w1 ∧ qR w1 I1 g1977 u1985 r.2.1 ∧ qK w1 I1 g1982 u1986 r.2.2

theorem C9 : CF Try.prog 9 := ⟨_, Try.func9, rfl, by kernel_rfl⟩
theorem C10 : CF Try.prog 10 := ⟨_, Try.func10, rfl, by kernel_rfl⟩
theorem C11 : CF Try.prog 11 := ⟨_, Try.func11, rfl, by kernel_rfl⟩
theorem C12 : CF Try.prog 12 := ⟨_, Try.func12, rfl, by kernel_rfl⟩
theorem C13 : CF Try.prog 13 := ⟨_, Try.func13, rfl, by kernel_rfl⟩
theorem C14 : CF Try.prog 14 := ⟨_, Try.func14, rfl, by kernel_rfl⟩
theorem C15 : CF Try.prog 15 := ⟨_, Try.func15, rfl, by kernel_rfl⟩
theorem C16 : CF Try.prog 16 := ⟨_, Try.func16, rfl, by kernel_rfl⟩
theorem C18 : CF Try.prog 18 := ⟨_, Try.func18, rfl, by kernel_rfl⟩
theorem C19 : CF Try.prog 19 := ⟨_, Try.func19, rfl, by kernel_rfl⟩
theorem C21 : CF Try.prog 21 := ⟨_, Try.func21, rfl, by kernel_rfl⟩
theorem C22 : CF Try.prog 22 := ⟨_, Try.func22, rfl, by kernel_rfl⟩
theorem C24 : CF Try.prog 24 := ⟨_, Try.func24, rfl, by kernel_rfl⟩
theorem C25 : CF Try.prog 25 := ⟨_, Try.func25, rfl, by kernel_rfl⟩
theorem C26 : CF Try.prog 26 := ⟨_, Try.func26, rfl, by kernel_rfl⟩
theorem C27 : CF Try.prog 27 := ⟨_, Try.func27, rfl, by kernel_rfl⟩
theorem C28 : CF Try.prog 28 := ⟨_, Try.func28, rfl, by kernel_rfl⟩
theorem C29 : CF Try.prog 29 := ⟨_, Try.func29, rfl, by kernel_rfl⟩
theorem C30 : CF Try.prog 30 := ⟨_, Try.func30, rfl, by kernel_rfl⟩
theorem C31 : CF Try.prog 31 := ⟨_, Try.func31, rfl, by kernel_rfl⟩
theorem C32 : CF Try.prog 32 := ⟨_, Try.func32, rfl, by kernel_rfl⟩
theorem C33 : CF Try.prog 33 := ⟨_, Try.func33, rfl, by kernel_rfl⟩
theorem C34 : CF Try.prog 34 := ⟨_, Try.func34, rfl, by kernel_rfl⟩
theorem C35 : CF Try.prog 35 := ⟨_, Try.func35, rfl, by kernel_rfl⟩
theorem C36 : CF Try.prog 36 := ⟨_, Try.func36, rfl, by kernel_rfl⟩
theorem C37 : CF Try.prog 37 := ⟨_, Try.func37, rfl, by kernel_rfl⟩
theorem C38 : CF Try.prog 38 := ⟨_, Try.func38, rfl, by kernel_rfl⟩
theorem C39 : CF Try.prog 39 := ⟨_, Try.func39, rfl, by kernel_rfl⟩
theorem C40 : CF Try.prog 40 := ⟨_, Try.func40, rfl, by kernel_rfl⟩
theorem C41 : CF Try.prog 41 := ⟨_, Try.func41, rfl, by kernel_rfl⟩
theorem C42 : CF Try.prog 42 := ⟨_, Try.func42, rfl, by kernel_rfl⟩
theorem C43 : CF Try.prog 43 := ⟨_, Try.func43, rfl, by kernel_rfl⟩
theorem C44 : CF Try.prog 44 := ⟨_, Try.func44, rfl, by kernel_rfl⟩
theorem C45 : CF Try.prog 45 := ⟨_, Try.func45, rfl, by kernel_rfl⟩
theorem C46 : CF Try.prog 46 := ⟨_, Try.func46, rfl, by kernel_rfl⟩
theorem C47 : CF Try.prog 47 := ⟨_, Try.func47, rfl, by kernel_rfl⟩
theorem C48 : CF Try.prog 48 := ⟨_, Try.func48, rfl, by kernel_rfl⟩
theorem C49 : CF Try.prog 49 := ⟨_, Try.func49, rfl, by kernel_rfl⟩
theorem R3 : Rd Try.prog 3 (dI .i64) (inK .i64) := Rd.int Try.underlying3
theorem RB24 (N : Nat) : RdB N Try.prog 24 dNode (fun _ => True) ∧ RdB N Try.prog 22 (dSl dNode) (fun xs => (xs.length ≤ maxLen ∧ ∀ yxs ∈ xs, True)) := by
  induction N with
  | zero => exact ⟨RdB.struct0 Try.underlying24, RdB.slice0 Try.underlying22 (by simp)⟩
  | succ N ih => exact ⟨(RdB.view (f := fun x : Node => (x.Kind, (x.Name, (x.Count, x.Kids)))) (fun a => Node.mk a.1 a.2.1 a.2.2.1 a.2.2.2) (fun _ => rfl) (RdB.struct Try.underlying24 (by kernel_rfl) (RdFB.cons rfl (by kernel_rfl) R3.b (RdFB.cons rfl (by kernel_rfl) R3.b (RdFB.cons rfl (by kernel_rfl) R3.b (RdFB.one rfl (by kernel_rfl) ih.2)))))).mono (fun _ _ _ _ h => dNode_fo h) (fun _ _ => trivial), RdB.slice Try.underlying22 (by kernel_rfl) (by decide) ih.1⟩
theorem R24 : Rd Try.prog 24 dNode (fun _ => True) := .ofB fun N => (RB24 N).1
theorem R39 : Rd Try.prog 39 (dSl (dI .i64)) (fun xs => (xs.length ≤ maxLen ∧ ∀ yxs ∈ xs, inK .i64 yxs)) := Rd.slice Try.underlying39 (by kernel_rfl) (by decide) R3
theorem R4 : Rd Try.prog 4 dB (fun _ => True) := Rd.bool Try.underlying4
theorem R40 : Rd Try.prog 40 (dSl dB) (fun xs => (xs.length ≤ maxLen ∧ ∀ yxs ∈ xs, True)) := Rd.slice Try.underlying40 (by kernel_rfl) (by decide) R4
theorem R42 : Rd Try.prog 42 dInput okInput :=
  (Rd.view (f := fun x : Input => (x.Actions, x.Tests)) (fun a => Input.mk a.1 a.2) (fun _ => rfl) (Rd.struct Try.underlying42 (by kernel_rfl) (RdF.cons rfl (by kernel_rfl) R39 (RdF.one rfl (by kernel_rfl) R40)))).mono fun _ h => h
theorem R32 : Rd Try.prog 32 (dSl dInput) (fun xs => (xs.length ≤ maxLen ∧ ∀ yxs ∈ xs, okInput yxs)) := Rd.slice Try.underlying32 (by kernel_rfl) (by decide) R42
end Go.Proofs.Ytknnmbcaoekgmaa
