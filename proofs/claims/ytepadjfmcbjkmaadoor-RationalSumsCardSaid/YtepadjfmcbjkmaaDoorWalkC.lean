/-
  Each function of the program computes the plain function of its name.
-/
import Derived.Test.YtepadjfmcbjkmaaDoorFactsA
import Derived.Test.YtepadjfmcbjkmaaDoorWalkB
import Derived.Test.YtepadjfmcbjkmaaDoorCoreA
import Derived.Test.YtepadjfmcbjkmaaDoorWalkA
namespace Go.Proofs.YtepadjfmcbjkmaaDoor
open Go Go.Proofs.YtepadjfmcbjkmaaDoor.Gw Go.RowKit
set_option linter.unusedVariables false
attribute [local irreducible] Ev EvQ EvS EvH
def ref02_Mul_S (f : Rational → Rational → Option Rational) : Prop := ∀ (w0 : World) (I0 : Nat → Prop) (x29901 : Rational) (v29902 : Value) (r29903 : RepS (dI .u32) w0 I0 v29902 x29901.Num.Mag) (v29904 : Value) (r29905 : RepS (dI .u32) w0 I0 v29904 x29901.Den.Mag) (x29906 : Rational) (v29907 : Value) (r29908 : RepS (dI .u32) w0 I0 v29907 x29906.Num.Mag) (v29909 : Value) (r29910 : RepS (dI .u32) w0 I0 v29909 x29906.Den.Mag) (hI : ∀ g, I0 g → g < w0.heap.size) (r : Rational), f x29901 x29906 = some r →
    Ret Tryd.prog 24 #[(.agg #[(.bool x29901.Num.Neg), v29902, (.bool x29901.Den.Neg), v29904]), (.agg #[(.bool x29906.Num.Neg), v29907, (.bool x29906.Den.Neg), v29909])] w0 fun v w1 => ∃ (I1 : Nat → Prop) (u29911 : Value) (u29912 : Value), v = (.agg #[(.bool r.Num.Neg), u29911, (.bool r.Den.Neg), u29912]) ∧ Hp ⟨w0, I0, []⟩ I1 [] w1 ∧ RepS (dI .u32) w1 I1 u29911 r.Num.Mag ∧ RepS (dI .u32) w1 I1 u29912 r.Den.Mag
theorem ref02_Mul_ok (n : Nat) : ref02_Mul_S (ref02_Mul n) := by
  intro w0 I0 x29901 v29902 r29903 v29904 r29905 x29906 v29907 r29908 v29909 r29910 hI r h
  unfold ref02_Mul at h
  refine enter Tryd.func24 rfl (Nat.le_of_ble_eq_true rfl) ?_
  have hp : Hp ⟨w0, I0, []⟩ I0 [] w0 := Hp.start hI
  apply go
  apply go
  refine ev_boxI hp rfl rfl ?_
  intro p29915 I29916 w29914 hp hs a29917
  replace r29908 := r29908.step hs
  replace r29910 := r29910.step hs
  replace r29903 := r29903.step hs
  replace r29905 := r29905.step hs
  refine ev_boxI hp rfl rfl ?_
  intro p29920 I29921 w29919 hp hs a29922
  replace a29917 := a29917.step hs
  replace r29903 := r29903.step hs
  replace r29905 := r29905.step hs
  replace r29908 := r29908.step hs
  replace r29910 := r29910.step hs
  refine ev_alloc hp rfl T26 ?_
  intro g29923 w29924 hp hs
  replace a29917 := a29917.step hs
  replace r29903 := r29903.step hs
  replace r29905 := r29905.step hs
  replace a29922 := a29922.step hs
  replace r29908 := r29908.step hs
  replace r29910 := r29910.step hs
  apply go
  apply go
  refine ev (rn_load rfl rfl (run_loadVarA T26 rfl a29917)) ?_
  obtain ⟨x29925, q29926, h⟩ := bind_some h
  refine ev_call rfl rfl C15 (((ref02_Norm_ok n) _ _  (Rational.mk (Int_2.mk x29901.Num.Neg x29901.Num.Mag) (Int_2.mk x29901.Den.Neg x29901.Den.Mag)) v29902 r29903 v29904 r29905 hp.imm _ q29926).mono ?_)
  rintro _ w29927 ⟨I29928, v29929, v29931, hv, hq, r29930, r29932⟩
  replace hv := hv.symm
  subst hv
  have hs := hq.st
  have hp := hp.join0 hq
  replace a29922 := a29922.step hs
  replace r29908 := r29908.step hs
  replace r29910 := r29910.step hs
  refine ev_alloc hp rfl T26 ?_
  intro g29933 w29934 hp hs
  replace a29922 := a29922.step hs
  replace r29908 := r29908.step hs
  replace r29910 := r29910.step hs
  replace r29930 := r29930.step hs
  replace r29932 := r29932.step hs
  refine ev_storeA hp (i := 0) (off := 0) (vs := [(.bool x29925.Num.Neg), v29929, (.bool x29925.Den.Neg), v29931]) rfl rfl rfl rfl T26 rfl (Nat.le_of_ble_eq_true rfl) (ones_cons rfl (ones_cons r29930.one (ones_cons rfl (ones_cons r29932.one ones_nil)))) ?_
  intro w29935 hp hs
  replace a29922 := a29922.step hs
  replace r29908 := r29908.step hs
  replace r29910 := r29910.step hs
  replace r29930 := r29930.step hs
  replace r29932 := r29932.step hs
  apply go
  apply go
  refine ev (rn_load rfl rfl (run_loadVarA T26 rfl a29922)) ?_
  obtain ⟨x29936, q29937, h⟩ := bind_some h
  refine ev_call rfl rfl C15 (((ref02_Norm_ok n) _ _  (Rational.mk (Int_2.mk x29906.Num.Neg x29906.Num.Mag) (Int_2.mk x29906.Den.Neg x29906.Den.Mag)) v29907 r29908 v29909 r29910 hp.imm _ q29937).mono ?_)
  rintro _ w29938 ⟨I29939, v29940, v29942, hv, hq, r29941, r29943⟩
  replace hv := hv.symm
  subst hv
  have hs := hq.st
  have hp := hp.join0 hq
  replace r29930 := r29930.step hs
  replace r29932 := r29932.step hs
  refine ev_alloc hp rfl T26 ?_
  intro g29944 w29945 hp hs
  replace r29941 := r29941.step hs
  replace r29943 := r29943.step hs
  replace r29930 := r29930.step hs
  replace r29932 := r29932.step hs
  refine ev_storeA hp (i := 0) (off := 0) (vs := [(.bool x29936.Num.Neg), v29940, (.bool x29936.Den.Neg), v29942]) rfl rfl rfl rfl T26 rfl (Nat.le_of_ble_eq_true rfl) (ones_cons rfl (ones_cons r29941.one (ones_cons rfl (ones_cons r29943.one ones_nil)))) ?_
  intro w29946 hp hs
  replace r29941 := r29941.step hs
  replace r29943 := r29943.step hs
  replace r29930 := r29930.step hs
  replace r29932 := r29932.step hs
  apply go
  have hs := hp.stp (Ch.drew [] w29946)
  have hp := hp.drew
  replace r29941 := r29941.step hs
  replace r29943 := r29943.step hs
  replace r29930 := r29930.step hs
  replace r29932 := r29932.step hs
  refine W.held [(0, true), (1, true), (2, true), (3, true), (5, true), (6, true), (7, true), (8, true), (4, false), (9, false), (10, false), (11, false)] (fun x => Stp I29939 w29946.drew I29939 x ∧ OwnK [(g29933, [(.bool x29925.Num.Neg), v29929, (.bool x29925.Den.Neg), v29931], 26), (g29944, [(.bool x29936.Num.Neg), v29940, (.bool x29936.Den.Neg), v29942], 26)] x) MX (by kernel_rfl) ⟨Stp.refl _ _, (OwnK.cons (hp.own 1 _ _ _ rfl).1 (OwnK.cons (hp.own 0 _ _ _ rfl).1 OwnK.nil))⟩ ?_
  have hz := Stp.refl I29939 w29946.drew
  refine evh0 (rn_field rfl rfl FO26_0) ?_
  refine evh (fun w' hw => rn_load rfl rfl (run_loadVarA T24 rfl (((hw.2.at_ (i := 0) rfl).drop 0).take 2))) ?_
  refine evh0 (rn_field rfl rfl FO26_0) ?_
  refine evh (fun w' hw => rn_load rfl rfl (run_loadVarA T24 rfl (((hw.2.at_ (i := 1) rfl).drop 0).take 2))) ?_
  refine evh0 (rn_field rfl rfl FO26_1) ?_
  refine evh (fun w' hw => rn_load rfl rfl (run_loadVarA T24 rfl (((hw.2.at_ (i := 0) rfl).drop 2).take 2))) ?_
  refine evh0 (rn_field rfl rfl FO26_1) ?_
  refine evh (fun w' hw => rn_load rfl rfl (run_loadVarA T24 rfl (((hw.2.at_ (i := 1) rfl).drop 2).take 2))) ?_
  obtain ⟨x29968, q29969, h⟩ := bind_some h
  refine ev_call rfl rfl C49 (((ref01_Mul_ok n) _ _  (Int_2.mk x29925.Num.Neg x29925.Num.Mag) v29929 r29930 (Int_2.mk x29936.Num.Neg x29936.Num.Mag) v29940 r29941 hp.imm _ q29969).mono ?_)
  rintro _ w29970 ⟨I29971, v29972, hv, hq, r29973⟩
  replace hv := hv.symm
  subst hv
  have hs := hq.st
  have hp := hp.join0 hq
  replace hz := hz.trans hs
  replace r29932 := r29932.step hs
  replace r29943 := r29943.step hs
  replace r29941 := r29941.step hs
  replace r29930 := r29930.step hs
  refine ⟨fun x => Stp I29971 w29970 I29971 x ∧ OwnK [(g29933, [(.bool x29925.Num.Neg), v29929, (.bool x29925.Den.Neg), v29931], 26), (g29944, [(.bool x29936.Num.Neg), v29940, (.bool x29936.Den.Neg), v29942], 26)] x, ⟨Stp.refl _ _, (OwnK.cons (hp.own 1 _ _ _ rfl).1 (OwnK.cons (hp.own 0 _ _ _ rfl).1 OwnK.nil))⟩, fun x hx => ⟨hz.held hx.1, hx.2⟩, ?_⟩
  have hz := Stp.refl I29971 w29970
  obtain ⟨x29974, q29975, h⟩ := bind_some h
  refine ev_call rfl rfl C49 (((ref01_Mul_ok n) _ _  (Int_2.mk x29925.Den.Neg x29925.Den.Mag) v29931 r29932 (Int_2.mk x29936.Den.Neg x29936.Den.Mag) v29942 r29943 hp.imm _ q29975).mono ?_)
  rintro _ w29976 ⟨I29977, v29978, hv, hq, r29979⟩
  replace hv := hv.symm
  subst hv
  have hs := hq.st
  have hp := hp.join0 hq
  replace hz := hz.trans hs
  replace r29973 := r29973.step hs
  replace r29941 := r29941.step hs
  replace r29943 := r29943.step hs
  replace r29930 := r29930.step hs
  replace r29932 := r29932.step hs
  refine ⟨fun x => Stp I29977 w29976 I29977 x ∧ OwnK [(g29933, [(.bool x29925.Num.Neg), v29929, (.bool x29925.Den.Neg), v29931], 26), (g29944, [(.bool x29936.Num.Neg), v29940, (.bool x29936.Den.Neg), v29942], 26)] x, ⟨Stp.refl _ _, (OwnK.cons (hp.own 1 _ _ _ rfl).1 (OwnK.cons (hp.own 0 _ _ _ rfl).1 OwnK.nil))⟩, fun x hx => ⟨hz.held hx.1, hx.2⟩, ?_⟩
  have hz := Stp.refl I29977 w29976
  obtain ⟨x29980, q29981, h⟩ := bind_some h
  refine ev_call rfl rfl C39 (((ref02_New_ok n) _ _  x29968 v29972 r29973 x29974 v29978 r29979 hp.imm _ q29981).mono ?_)
  rintro _ w29982 ⟨I29983, v29984, v29986, hv, hq, r29985, r29987⟩
  replace hv := hv.symm
  subst hv
  have hs := hq.st
  have hp := hp.join0 hq
  replace hz := hz.trans hs
  replace r29941 := r29941.step hs
  replace r29943 := r29943.step hs
  replace r29930 := r29930.step hs
  replace r29932 := r29932.step hs
  refine ⟨fun x => Stp I29983 w29982 I29983 x ∧ OwnK [(g29933, [(.bool x29925.Num.Neg), v29929, (.bool x29925.Den.Neg), v29931], 26), (g29944, [(.bool x29936.Num.Neg), v29940, (.bool x29936.Den.Neg), v29942], 26)] x, ⟨Stp.refl _ _, (OwnK.cons (hp.own 1 _ _ _ rfl).1 (OwnK.cons (hp.own 0 _ _ _ rfl).1 OwnK.nil))⟩, fun x hx => ⟨hz.held hx.1, hx.2⟩, ?_⟩
  have hz := Stp.refl I29983 w29982
  refine ev_storeA hp (i := 2) (off := 0) (vs := [(.bool x29980.Num.Neg), v29984, (.bool x29980.Den.Neg), v29986]) rfl rfl rfl rfl T26 rfl (Nat.le_of_ble_eq_true rfl) (ones_cons rfl (ones_cons r29985.one (ones_cons rfl (ones_cons r29987.one ones_nil)))) ?_
  intro w29988 hp hs
  replace hz := hz.trans hs
  replace r29941 := r29941.step hs
  replace r29943 := r29943.step hs
  replace r29930 := r29930.step hs
  replace r29932 := r29932.step hs
  replace r29985 := r29985.step hs
  replace r29987 := r29987.step hs
  refine ⟨fun x => Stp I29983 w29988 I29983 x ∧ OwnK [(g29933, [(.bool x29925.Num.Neg), v29929, (.bool x29925.Den.Neg), v29931], 26), (g29944, [(.bool x29936.Num.Neg), v29940, (.bool x29936.Den.Neg), v29942], 26)] x, ⟨Stp.refl _ _, (OwnK.cons (hp.own 1 _ _ _ rfl).1 (OwnK.cons (hp.own 0 _ _ _ rfl).1 OwnK.nil))⟩, fun x hx => ⟨hz.held hx.1, hx.2⟩, ?_⟩
  have hz := Stp.refl I29983 w29988
  apply go
  obtain rfl := Option.some.inj h
  refine ⟨_, run_loadVarA T26 rfl (hp.at_ (i := 2) rfl), ?_⟩
  have hp := hp.sel [] (by decide)
  exact ⟨I29983, v29984, v29986, rfl, hp, r29985, r29987⟩

end Go.Proofs.YtepadjfmcbjkmaaDoor

namespace Go.Proofs.YtepadjfmcbjkmaaDoor
open Go Go.Proofs.YtepadjfmcbjkmaaDoor.Gw Go.RowKit
set_option linter.unusedVariables false
attribute [local irreducible] Ev EvQ EvS EvH vch
def law02_RationalSums_S (f : Rational → Rational → Option Bool) : Prop := ∀ (w0 : World) (I0 : Nat → Prop) (tb : Tb w0 I0 1 .u64 pow10) (x29989 : Rational) (v29990 : Value) (r29991 : RepS (dI .u32) w0 I0 v29990 x29989.Num.Mag) (v29992 : Value) (r29993 : RepS (dI .u32) w0 I0 v29992 x29989.Den.Mag) (x29994 : Rational) (v29995 : Value) (r29996 : RepS (dI .u32) w0 I0 v29995 x29994.Num.Mag) (v29997 : Value) (r29998 : RepS (dI .u32) w0 I0 v29997 x29994.Den.Mag) (hI : ∀ g, I0 g → g < w0.heap.size) (r : Bool), f x29989 x29994 = some r →
    Ret Tryd.prog 4 #[(.agg #[(.bool x29989.Num.Neg), v29990, (.bool x29989.Den.Neg), v29992]), (.agg #[(.bool x29994.Num.Neg), v29995, (.bool x29994.Den.Neg), v29997])] w0 fun v w1 => v = (.bool r) ∧ Ch [] w0 w1
theorem law02_RationalSums_ok (n : Nat) : law02_RationalSums_S (law02_RationalSums n) := by
  intro w0 I0 tb x29989 v29990 r29991 v29992 r29993 x29994 v29995 r29996 v29997 r29998 hI r h
  unfold law02_RationalSums at h
  refine enter Tryd.func4 rfl (Nat.le_of_ble_eq_true rfl) ?_
  have hp : Hp ⟨w0, I0, []⟩ I0 [] w0 := Hp.start hI
  apply go
  apply go
  refine ev_boxI hp rfl rfl ?_
  intro p30001 I30002 w30000 hp hs a30003
  replace r29996 := r29996.step hs
  replace r29998 := r29998.step hs
  replace r29991 := r29991.step hs
  replace r29993 := r29993.step hs
  replace tb := tb.step hs
  refine ev_boxI hp rfl rfl ?_
  intro p30006 I30007 w30005 hp hs a30008
  replace a30003 := a30003.step hs
  replace r29991 := r29991.step hs
  replace r29993 := r29993.step hs
  replace r29996 := r29996.step hs
  replace r29998 := r29998.step hs
  replace tb := tb.step hs
  apply go
  obtain ⟨y30050, q30051, h⟩ := bind_some h
  refine W.cut (γ := ((List Int) × (List Int) × (List Int) × (List Int) × Bool × Value × Value × Value × Value × (Nat → Prop))) (fun g => [(2, (.pointer (some (p30001)))), (3, (.pointer (some (p30006)))), (13, (.bool (g.2.2.2.2.1)))]) (fun g w' => y30050 = ((g.1), (g.2.1), (g.2.2.1), (g.2.2.2.1), (g.2.2.2.2.1)) ∧ Hp ⟨w0, I0, []⟩ (g.2.2.2.2.2.2.2.2.2) [] w' ∧ RepS (dI .u32) w' (g.2.2.2.2.2.2.2.2.2) (g.2.2.2.2.2.1) (g.1) ∧ RepS (dI .u32) w' (g.2.2.2.2.2.2.2.2.2) (g.2.2.2.2.2.2.1) (g.2.1) ∧ At w' (g.2.2.2.2.2.2.2.2.2) p30001 [(.bool x29989.Num.Neg), (g.2.2.2.2.2.1), (.bool x29989.Den.Neg), (g.2.2.2.2.2.2.1)] ∧ RepS (dI .u32) w' (g.2.2.2.2.2.2.2.2.2) (g.2.2.2.2.2.2.2.1) (g.2.2.1) ∧ RepS (dI .u32) w' (g.2.2.2.2.2.2.2.2.2) (g.2.2.2.2.2.2.2.2.1) (g.2.2.2.1) ∧ At w' (g.2.2.2.2.2.2.2.2.2) p30006 [(.bool x29994.Num.Neg), (g.2.2.2.2.2.2.2.1), (.bool x29994.Den.Neg), (g.2.2.2.2.2.2.2.2.1)] ∧ Tb w' (g.2.2.2.2.2.2.2.2.2) 1 .u64 pow10) ?_ ?_
  ·
    apply go
    obtain ⟨x30052, q30053, q30051⟩ := bind_some q30051
    refine ev_call rfl rfl C8 (((law02_awake_ok n) _ _ tb  hp.imm _ q30053).mono ?_)
    rintro _ w30054 ⟨rfl, hc⟩
    have hs := hp.stp hc
    replace hp := hp.ext hc
    replace a30003 := a30003.step hs
    replace r29991 := r29991.step hs
    replace r29993 := r29993.step hs
    replace a30008 := a30008.step hs
    replace r29996 := r29996.step hs
    replace r29998 := r29998.step hs
    replace tb := tb.step hs
    refine sel_of (fun hc => ?_) (fun hc => ?_)
    ·
      have q30051 := cond_t q30051 hc
      obtain rfl := Option.some.inj q30051
      exact ⟨(x29989.Num.Mag, x29989.Den.Mag, x29994.Num.Mag, x29994.Den.Mag, true, v29990, v29992, v29995, v29997, I30007), (.c rfl (.c rfl (.c rfl .n))), rfl, hp, r29991, r29993, a30003, r29996, r29998, a30008, tb⟩
    ·
      have q30051 := cond_f q30051 hc
      refine ev (rn_load rfl rfl (run_loadVarA T26 rfl a30003)) ?_
      refine ev (rn_load rfl rfl (run_loadVarA T26 rfl a30008)) ?_
      obtain ⟨A30055, m30056, m30057, rfl⟩ := r29991.isSl
      obtain ⟨A30059, m30060, m30061, rfl⟩ := r29993.isSl
      obtain ⟨A30063, m30064, m30065, rfl⟩ := r29996.isSl
      obtain ⟨A30067, m30068, m30069, rfl⟩ := r29998.isSl
      refine ev_litN (d := dRational) (xs := [(Rational.mk (Int_2.mk x29989.Num.Neg x29989.Num.Mag) (Int_2.mk x29989.Den.Neg x29989.Den.Mag)), (Rational.mk (Int_2.mk x29994.Num.Neg x29994.Num.Mag) (Int_2.mk x29994.Den.Neg x29994.Den.Mag))]) (cs := [(.bool x29989.Num.Neg), (.slice A30055 m30056 m30057), (.bool x29989.Den.Neg), (.slice A30059 m30060 m30061), (.bool x29994.Num.Neg), (.slice A30063 m30064 m30065), (.bool x29994.Den.Neg), (.slice A30067 m30068 m30069)]) hp rfl rfl Tryd.underlying55 T26 (by decide) (by kernel_rfl) rfl (Elems.cons (d := dRational) (xs := _) (dRational_m r29991 r29993) (Elems.cons (d := dRational) (xs := _) (dRational_m r29996 r29998) (Elems.nil _ _ _ _))) ?_
      intro v30071 I30073 w30072 hp hs r30074
      replace a30003 := a30003.step hs
      replace r29991 := r29991.step hs
      replace r29993 := r29993.step hs
      replace a30008 := a30008.step hs
      replace r29996 := r29996.step hs
      replace r29998 := r29998.step hs
      replace tb := tb.step hs
      obtain ⟨x30075, q30076, q30051⟩ := bind_some q30051
      refine ev_call rfl rfl C9 (((law02_few_ok n) _ _  [(Rational.mk (Int_2.mk x29989.Num.Neg x29989.Num.Mag) (Int_2.mk x29989.Den.Neg x29989.Den.Mag)), (Rational.mk (Int_2.mk x29994.Num.Neg x29994.Num.Mag) (Int_2.mk x29994.Den.Neg x29994.Den.Mag))] v30071 r30074 hp.imm _ q30076).mono ?_)
      rintro _ w30077 ⟨rfl, hc⟩
      have hs := hp.stp hc
      replace hp := hp.ext hc
      replace a30003 := a30003.step hs
      replace r29991 := r29991.step hs
      replace r29993 := r29993.step hs
      replace a30008 := a30008.step hs
      replace r29996 := r29996.step hs
      replace r29998 := r29998.step hs
      replace tb := tb.step hs
      obtain rfl := Option.some.inj q30051
      exact ⟨(x29989.Num.Mag, x29989.Den.Mag, x29994.Num.Mag, x29994.Den.Mag, (!x30075), (.slice A30055 m30056 m30057), (.slice A30059 m30060 m30061), (.slice A30063 m30064 m30065), (.slice A30067 m30068 m30069), I30073), (.c rfl (.c rfl (.c rfl .n))), rfl, hp, r29991, r29993, a30003, r29996, r29998, a30008, tb⟩
  ·
    rintro ⟨x30035, x30038, x30041, x30044, x30047, v30036, v30039, v30042, v30045, I30048⟩ w30049 ⟨hy, hp, r30037, r30040, a30003, r30043, r30046, a30008, tb⟩
    replace hy := hy.symm
    subst hy
    apply go
    refine sel_of (fun hc => ?_) (fun hc => ?_)
    ·
      have h := cond_t h hc
      apply go
      apply go
      obtain ⟨x30078, q30079, h⟩ := bind_some h
      refine ev_call rfl rfl C8 (((law02_awake_ok n) _ _ tb  hp.imm _ q30079).mono ?_)
      rintro _ w30080 ⟨rfl, hc⟩
      have hs := hp.stp hc
      replace hp := hp.ext hc
      replace tb := tb.step hs
      apply go
      obtain rfl := Option.some.inj h
      exact ⟨rfl, hp.ch⟩
    ·
      have h := cond_f h hc
      apply go
      obtain ⟨y30236, q30237, h⟩ := bind_some h
      refine W.cut (γ := (Bool × (Nat → Prop))) (fun g => [(4, (.bool (g.1)))]) (fun g w' => y30236 = (g.1) ∧ Hp ⟨w0, I0, []⟩ (g.2) [] w' ∧ Tb w' (g.2) 1 .u64 pow10) ?_ ?_
      ·
        have hs := hp.stp (Ch.drew [] w30049)
        have hp := hp.drew
        replace a30003 := a30003.step hs
        replace r30037 := r30037.step hs
        replace r30040 := r30040.step hs
        replace a30008 := a30008.step hs
        replace r30043 := r30043.step hs
        replace r30046 := r30046.step hs
        replace tb := tb.step hs
        refine W.heldT [(0, true), (1, true), (3, true), (4, true), (2, false), (5, false), (6, false), (7, true), (8, true), (9, true), (11, true), (12, true), (10, false), (13, false), (14, false), (15, true), (16, true), (17, true), (18, true), (20, true), (21, true), (19, false), (22, false), (23, false), (24, true), (25, true), (26, true), (28, true), (27, false), (29, false), (30, false), (31, true), (32, true)] (Stp I30048 w30049.drew I30048) MX (by kernel_rfl) (Stp.refl _ _) ?_
        have hz := Stp.refl I30048 w30049.drew
        intro ops hops
        have e0 : nthO ops 0 = some _ := (hops 0).trans rfl
        have e1 : nthO ops 1 = some _ := (hops 1).trans rfl
        have e2 : nthO ops 2 = some _ := (hops 2).trans rfl
        have e3 : nthO ops 3 = some _ := (hops 3).trans rfl
        have e4 : nthO ops 4 = some _ := (hops 4).trans rfl
        have e5 : nthO ops 5 = some _ := (hops 5).trans rfl
        have e6 : nthO ops 6 = some _ := (hops 6).trans rfl
        have e7 : nthO ops 7 = some _ := (hops 7).trans rfl
        have e8 : nthO ops 8 = some _ := (hops 8).trans rfl
        have e9 : nthO ops 9 = some _ := (hops 9).trans rfl
        have e10 : nthO ops 10 = some _ := (hops 10).trans rfl
        have e11 : nthO ops 11 = some _ := (hops 11).trans rfl
        have e12 : nthO ops 12 = some _ := (hops 12).trans rfl
        have e13 : nthO ops 13 = some _ := (hops 13).trans rfl
        have e14 : nthO ops 14 = some _ := (hops 14).trans rfl
        have e15 : nthO ops 15 = some _ := (hops 15).trans rfl
        have e16 : nthO ops 16 = some _ := (hops 16).trans rfl
        have e17 : nthO ops 17 = some _ := (hops 17).trans rfl
        have e18 : nthO ops 18 = some _ := (hops 18).trans rfl
        have e19 : nthO ops 19 = some _ := (hops 19).trans rfl
        have e20 : nthO ops 20 = some _ := (hops 20).trans rfl
        have e21 : nthO ops 21 = some _ := (hops 21).trans rfl
        have e22 : nthO ops 22 = some _ := (hops 22).trans rfl
        have e23 : nthO ops 23 = some _ := (hops 23).trans rfl
        have e24 : nthO ops 24 = some _ := (hops 24).trans rfl
        have e25 : nthO ops 25 = some _ := (hops 25).trans rfl
        have e26 : nthO ops 26 = some _ := (hops 26).trans rfl
        have e27 : nthO ops 27 = some _ := (hops 27).trans rfl
        have e28 : nthO ops 28 = some _ := (hops 28).trans rfl
        have e29 : nthO ops 29 = some _ := (hops 29).trans rfl
        have e30 : nthO ops 30 = some _ := (hops 30).trans rfl
        have e31 : nthO ops 31 = some _ := (hops 31).trans rfl
        have e32 : nthO ops 32 = some _ := (hops 32).trans rfl
        clear hops
        refine vch_q e0 rfl ?_
        refine evh (fun w' hw => rn_load rfl rfl (run_loadVarA T26 rfl (a30003.step hw))) ?_
        refine vch_q e1 rfl ?_
        refine evh (fun w' hw => rn_load rfl rfl (run_loadVarA T26 rfl (a30008.step hw))) ?_
        refine vch_q e3 rfl ?_
        refine evh (fun w' hw => rn_load rfl rfl (run_loadVarA T26 rfl (a30003.step hw))) ?_
        refine vch_q e4 rfl ?_
        refine evh (fun w' hw => rn_load rfl rfl (run_loadVarA T26 rfl (a30008.step hw))) ?_
        refine vch_l e2 rfl ?_
        obtain ⟨x30314, q30315, q30237⟩ := bind_some q30237
        refine ev_call rfl rfl C19 (((rational_Add_ok n) _ _  (Rational.mk (Int_2.mk x29989.Num.Neg x30035) (Int_2.mk x29989.Den.Neg x30038)) v30036 r30037 v30039 r30040 (Rational.mk (Int_2.mk x29994.Num.Neg x30041) (Int_2.mk x29994.Den.Neg x30044)) v30042 r30043 v30045 r30046 hp.imm _ q30315).mono ?_)
        rintro _ w30316 ⟨I30317, v30318, v30320, hv, hq, r30319, r30321⟩
        replace hv := hv.symm
        subst hv
        have hs := hq.st
        have hp := hp.join0 hq
        replace hz := hz.trans hs
        replace a30003 := a30003.step hs
        replace r30037 := r30037.step hs
        replace r30040 := r30040.step hs
        replace a30008 := a30008.step hs
        replace r30043 := r30043.step hs
        replace r30046 := r30046.step hs
        replace tb := tb.step hs
        refine ⟨Stp I30317 w30316 I30317, Stp.refl _ _, fun x hx => hz.held hx, ?_⟩
        have hz := Stp.refl I30317 w30316
        refine vch_l e5 rfl ?_
        obtain ⟨x30322, q30323, q30237⟩ := bind_some q30237
        refine ev_call rfl rfl C20 (((ref02_Add_ok n) _ _  (Rational.mk (Int_2.mk x29989.Num.Neg x30035) (Int_2.mk x29989.Den.Neg x30038)) v30036 r30037 v30039 r30040 (Rational.mk (Int_2.mk x29994.Num.Neg x30041) (Int_2.mk x29994.Den.Neg x30044)) v30042 r30043 v30045 r30046 hp.imm _ q30323).mono ?_)
        rintro _ w30324 ⟨I30325, v30326, v30328, hv, hq, r30327, r30329⟩
        replace hv := hv.symm
        subst hv
        have hs := hq.st
        have hp := hp.join0 hq
        replace hz := hz.trans hs
        replace a30003 := a30003.step hs
        replace r30037 := r30037.step hs
        replace r30040 := r30040.step hs
        replace a30008 := a30008.step hs
        replace r30043 := r30043.step hs
        replace r30046 := r30046.step hs
        replace r30319 := r30319.step hs
        replace r30321 := r30321.step hs
        replace tb := tb.step hs
        refine ⟨Stp I30325 w30324 I30325, Stp.refl _ _, fun x hx => hz.held hx, ?_⟩
        have hz := Stp.refl I30325 w30324
        refine vch_l e6 rfl ?_
        obtain ⟨x30330, q30331, q30237⟩ := bind_some q30237
        refine ev_call rfl rfl C11 (((base_Rational_ok n) _ _  x30314 v30318 r30319 v30320 r30321 x30322 v30326 r30327 v30328 r30329 hp.imm _ q30331).mono ?_)
        rintro _ w30332 ⟨rfl, hc⟩
        have hs := hp.stp hc
        replace hp := hp.ext hc
        replace hz := hz.trans hs
        replace a30003 := a30003.step hs
        replace r30037 := r30037.step hs
        replace r30040 := r30040.step hs
        replace a30008 := a30008.step hs
        replace r30043 := r30043.step hs
        replace r30046 := r30046.step hs
        replace tb := tb.step hs
        refine ⟨Stp I30325 w30332 I30325, Stp.refl _ _, fun x hx => hz.held hx, ?_⟩
        have hz := Stp.refl I30325 w30332
        refine vch_q e7 rfl ?_
        rcases Bool.eq_false_or_eq_true x30330 with hc | hc
        ·
          have q30237 := cond_t q30237 hc
          refine vch_qt e8 rfl e7 rfl rfl hc ?_
          refine evh (fun w' hw => rn_load rfl rfl (run_loadVarA T26 rfl (a30003.step hw))) ?_
          refine vch_qt e9 rfl e7 rfl rfl rfl ?_
          refine evh (fun w' hw => rn_load rfl rfl (run_loadVarA T26 rfl (a30008.step hw))) ?_
          refine vch_qt e11 rfl e7 rfl rfl rfl ?_
          refine evh (fun w' hw => rn_load rfl rfl (run_loadVarA T26 rfl (a30003.step hw))) ?_
          refine vch_qt e12 rfl e7 rfl rfl rfl ?_
          refine evh (fun w' hw => rn_load rfl rfl (run_loadVarA T26 rfl (a30008.step hw))) ?_
          refine vch_lt e10 rfl e7 rfl rfl rfl ?_
          obtain ⟨x30333, q30334, q30237⟩ := bind_some q30237
          refine ev_call rfl rfl C21 (((rational_Sub_ok n) _ _  (Rational.mk (Int_2.mk x29989.Num.Neg x30035) (Int_2.mk x29989.Den.Neg x30038)) v30036 r30037 v30039 r30040 (Rational.mk (Int_2.mk x29994.Num.Neg x30041) (Int_2.mk x29994.Den.Neg x30044)) v30042 r30043 v30045 r30046 hp.imm _ q30334).mono ?_)
          rintro _ w30335 ⟨I30336, v30337, v30339, hv, hq, r30338, r30340⟩
          replace hv := hv.symm
          subst hv
          have hs := hq.st
          have hp := hp.join0 hq
          replace hz := hz.trans hs
          replace a30003 := a30003.step hs
          replace r30037 := r30037.step hs
          replace r30040 := r30040.step hs
          replace a30008 := a30008.step hs
          replace r30043 := r30043.step hs
          replace r30046 := r30046.step hs
          replace tb := tb.step hs
          refine ⟨Stp I30336 w30335 I30336, Stp.refl _ _, fun x hx => hz.held hx, ?_⟩
          have hz := Stp.refl I30336 w30335
          refine vch_lt e13 rfl e7 rfl rfl rfl ?_
          obtain ⟨x30341, q30342, q30237⟩ := bind_some q30237
          refine ev_call rfl rfl C22 (((ref02_Sub_ok n) _ _  (Rational.mk (Int_2.mk x29989.Num.Neg x30035) (Int_2.mk x29989.Den.Neg x30038)) v30036 r30037 v30039 r30040 (Rational.mk (Int_2.mk x29994.Num.Neg x30041) (Int_2.mk x29994.Den.Neg x30044)) v30042 r30043 v30045 r30046 hp.imm _ q30342).mono ?_)
          rintro _ w30343 ⟨I30344, v30345, v30347, hv, hq, r30346, r30348⟩
          replace hv := hv.symm
          subst hv
          have hs := hq.st
          have hp := hp.join0 hq
          replace hz := hz.trans hs
          replace a30003 := a30003.step hs
          replace r30037 := r30037.step hs
          replace r30040 := r30040.step hs
          replace a30008 := a30008.step hs
          replace r30043 := r30043.step hs
          replace r30046 := r30046.step hs
          replace r30338 := r30338.step hs
          replace r30340 := r30340.step hs
          replace tb := tb.step hs
          refine ⟨Stp I30344 w30343 I30344, Stp.refl _ _, fun x hx => hz.held hx, ?_⟩
          have hz := Stp.refl I30344 w30343
          refine vch_lt e14 rfl e7 rfl rfl rfl ?_
          obtain ⟨x30349, q30350, q30237⟩ := bind_some q30237
          refine ev_call rfl rfl C11 (((base_Rational_ok n) _ _  x30333 v30337 r30338 v30339 r30340 x30341 v30345 r30346 v30347 r30348 hp.imm _ q30350).mono ?_)
          rintro _ w30351 ⟨rfl, hc⟩
          have hs := hp.stp hc
          replace hp := hp.ext hc
          replace hz := hz.trans hs
          replace a30003 := a30003.step hs
          replace r30037 := r30037.step hs
          replace r30040 := r30040.step hs
          replace a30008 := a30008.step hs
          replace r30043 := r30043.step hs
          replace r30046 := r30046.step hs
          replace tb := tb.step hs
          refine ⟨Stp I30344 w30351 I30344, Stp.refl _ _, fun x hx => hz.held hx, ?_⟩
          have hz := Stp.refl I30344 w30351
          refine vch_q e15 rfl ?_
          refine vch_q e16 rfl ?_
          rcases Bool.eq_false_or_eq_true x30349 with hc | hc
          ·
            have q30237 := cond_t q30237 hc
            refine vch_qt e17 rfl e16 rfl rfl hc ?_
            refine evh (fun w' hw => rn_load rfl rfl (run_loadVarA T26 rfl (a30003.step hw))) ?_
            refine vch_qt e18 rfl e16 rfl rfl rfl ?_
            refine evh (fun w' hw => rn_load rfl rfl (run_loadVarA T26 rfl (a30008.step hw))) ?_
            refine vch_qt e20 rfl e16 rfl rfl rfl ?_
            refine evh (fun w' hw => rn_load rfl rfl (run_loadVarA T26 rfl (a30003.step hw))) ?_
            refine vch_qt e21 rfl e16 rfl rfl rfl ?_
            refine evh (fun w' hw => rn_load rfl rfl (run_loadVarA T26 rfl (a30008.step hw))) ?_
            refine vch_lt e19 rfl e16 rfl rfl rfl ?_
            obtain ⟨x30352, q30353, q30237⟩ := bind_some q30237
            refine ev_call rfl rfl C23 (((rational_Mul_ok n) _ _  (Rational.mk (Int_2.mk x29989.Num.Neg x30035) (Int_2.mk x29989.Den.Neg x30038)) v30036 r30037 v30039 r30040 (Rational.mk (Int_2.mk x29994.Num.Neg x30041) (Int_2.mk x29994.Den.Neg x30044)) v30042 r30043 v30045 r30046 hp.imm _ q30353).mono ?_)
            rintro _ w30354 ⟨I30355, v30356, v30358, hv, hq, r30357, r30359⟩
            replace hv := hv.symm
            subst hv
            have hs := hq.st
            have hp := hp.join0 hq
            replace hz := hz.trans hs
            replace a30003 := a30003.step hs
            replace r30037 := r30037.step hs
            replace r30040 := r30040.step hs
            replace r30043 := r30043.step hs
            replace r30046 := r30046.step hs
            replace tb := tb.step hs
            refine ⟨Stp I30355 w30354 I30355, Stp.refl _ _, fun x hx => hz.held hx, ?_⟩
            have hz := Stp.refl I30355 w30354
            refine vch_lt e22 rfl e16 rfl rfl rfl ?_
            obtain ⟨x30360, q30361, q30237⟩ := bind_some q30237
            refine ev_call rfl rfl C24 (((ref02_Mul_ok n) _ _  (Rational.mk (Int_2.mk x29989.Num.Neg x30035) (Int_2.mk x29989.Den.Neg x30038)) v30036 r30037 v30039 r30040 (Rational.mk (Int_2.mk x29994.Num.Neg x30041) (Int_2.mk x29994.Den.Neg x30044)) v30042 r30043 v30045 r30046 hp.imm _ q30361).mono ?_)
            rintro _ w30362 ⟨I30363, v30364, v30366, hv, hq, r30365, r30367⟩
            replace hv := hv.symm
            subst hv
            have hs := hq.st
            have hp := hp.join0 hq
            replace hz := hz.trans hs
            replace a30003 := a30003.step hs
            replace r30037 := r30037.step hs
            replace r30040 := r30040.step hs
            replace r30357 := r30357.step hs
            replace r30359 := r30359.step hs
            replace tb := tb.step hs
            refine ⟨Stp I30363 w30362 I30363, Stp.refl _ _, fun x hx => hz.held hx, ?_⟩
            have hz := Stp.refl I30363 w30362
            refine vch_lt e23 rfl e16 rfl rfl rfl ?_
            obtain ⟨x30368, q30369, q30237⟩ := bind_some q30237
            refine ev_call rfl rfl C11 (((base_Rational_ok n) _ _  x30352 v30356 r30357 v30358 r30359 x30360 v30364 r30365 v30366 r30367 hp.imm _ q30369).mono ?_)
            rintro _ w30370 ⟨rfl, hc⟩
            have hs := hp.stp hc
            replace hp := hp.ext hc
            replace hz := hz.trans hs
            replace a30003 := a30003.step hs
            replace r30037 := r30037.step hs
            replace r30040 := r30040.step hs
            replace tb := tb.step hs
            refine ⟨Stp I30363 w30370 I30363, Stp.refl _ _, fun x hx => hz.held hx, ?_⟩
            have hz := Stp.refl I30363 w30370
            refine vch_q e24 rfl ?_
            refine vch_q e25 rfl ?_
            rcases Bool.eq_false_or_eq_true x30368 with hc | hc
            ·
              have q30237 := cond_t q30237 hc
              refine vch_qt e26 rfl e25 rfl rfl hc ?_
              refine evh (fun w' hw => rn_load rfl rfl (run_loadVarA T26 rfl (a30003.step hw))) ?_
              refine vch_qt e28 rfl e25 rfl rfl rfl ?_
              refine evh (fun w' hw => rn_load rfl rfl (run_loadVarA T26 rfl (a30003.step hw))) ?_
              refine vch_lt e27 rfl e25 rfl rfl rfl ?_
              obtain ⟨x30371, q30372, q30237⟩ := bind_some q30237
              refine ev_call rfl rfl C25 (((rational_Neg_ok n) _ _  (Rational.mk (Int_2.mk x29989.Num.Neg x30035) (Int_2.mk x29989.Den.Neg x30038)) v30036 r30037 v30039 r30040 hp.imm _ q30372).mono ?_)
              rintro _ w30373 ⟨I30374, v30375, v30377, hv, hq, r30376, r30378⟩
              replace hv := hv.symm
              subst hv
              have hs := hq.st
              have hp := hp.join0 hq
              replace hz := hz.trans hs
              replace r30037 := r30037.step hs
              replace r30040 := r30040.step hs
              replace tb := tb.step hs
              refine ⟨Stp I30374 w30373 I30374, Stp.refl _ _, fun x hx => hz.held hx, ?_⟩
              have hz := Stp.refl I30374 w30373
              refine vch_lt e29 rfl e25 rfl rfl rfl ?_
              obtain ⟨x30379, q30380, q30237⟩ := bind_some q30237
              refine ev_call rfl rfl C26 (((ref02_Neg_ok n) _ _  (Rational.mk (Int_2.mk x29989.Num.Neg x30035) (Int_2.mk x29989.Den.Neg x30038)) v30036 r30037 v30039 r30040 hp.imm _ q30380).mono ?_)
              rintro _ w30381 ⟨I30382, v30383, v30385, hv, hq, r30384, r30386⟩
              replace hv := hv.symm
              subst hv
              have hs := hq.st
              have hp := hp.join0 hq
              replace hz := hz.trans hs
              replace r30376 := r30376.step hs
              replace r30378 := r30378.step hs
              replace tb := tb.step hs
              refine ⟨Stp I30382 w30381 I30382, Stp.refl _ _, fun x hx => hz.held hx, ?_⟩
              have hz := Stp.refl I30382 w30381
              refine vch_lt e30 rfl e25 rfl rfl rfl ?_
              obtain ⟨x30387, q30388, q30237⟩ := bind_some q30237
              refine ev_call rfl rfl C11 (((base_Rational_ok n) _ _  x30371 v30375 r30376 v30377 r30378 x30379 v30383 r30384 v30385 r30386 hp.imm _ q30388).mono ?_)
              rintro _ w30389 ⟨rfl, hc⟩
              have hs := hp.stp hc
              replace hp := hp.ext hc
              replace hz := hz.trans hs
              replace tb := tb.step hs
              refine ⟨Stp I30382 w30389 I30382, Stp.refl _ _, fun x hx => hz.held hx, ?_⟩
              have hz := Stp.refl I30382 w30389
              refine vch_q e31 rfl ?_
              refine vch_q e32 rfl ?_
              refine vch_end ?_
              obtain rfl := Option.some.inj q30237
              exact ⟨(x30387, I30382), (.c rfl .n), rfl, hp, tb⟩
            ·
              have q30237 := cond_f q30237 hc
              refine vch_qf e26 rfl e25 rfl rfl hc ?_
              refine vch_qf e28 rfl e25 rfl rfl rfl ?_
              refine vch_lf e27 rfl e25 rfl rfl rfl ?_
              refine ⟨Stp I30363 w30370 I30363, Stp.refl _ _, fun x hx => hz.held hx, ?_⟩
              have hz := Stp.refl I30363 w30370
              refine vch_lf e29 rfl e25 rfl rfl rfl ?_
              refine ⟨Stp I30363 w30370 I30363, Stp.refl _ _, fun x hx => hz.held hx, ?_⟩
              have hz := Stp.refl I30363 w30370
              refine vch_lf e30 rfl e25 rfl rfl rfl ?_
              refine ⟨Stp I30363 w30370 I30363, Stp.refl _ _, fun x hx => hz.held hx, ?_⟩
              have hz := Stp.refl I30363 w30370
              refine vch_q e31 rfl ?_
              refine vch_q e32 rfl ?_
              refine vch_end ?_
              obtain rfl := Option.some.inj q30237
              exact ⟨(false, I30363), (.c rfl .n), rfl, hp, tb⟩
          ·
            have q30237 := cond_f q30237 hc
            refine vch_qf e17 rfl e16 rfl rfl hc ?_
            refine vch_qf e18 rfl e16 rfl rfl rfl ?_
            refine vch_qf e20 rfl e16 rfl rfl rfl ?_
            refine vch_qf e21 rfl e16 rfl rfl rfl ?_
            refine vch_lf e19 rfl e16 rfl rfl rfl ?_
            refine ⟨Stp I30344 w30351 I30344, Stp.refl _ _, fun x hx => hz.held hx, ?_⟩
            have hz := Stp.refl I30344 w30351
            refine vch_lf e22 rfl e16 rfl rfl rfl ?_
            refine ⟨Stp I30344 w30351 I30344, Stp.refl _ _, fun x hx => hz.held hx, ?_⟩
            have hz := Stp.refl I30344 w30351
            refine vch_lf e23 rfl e16 rfl rfl rfl ?_
            refine ⟨Stp I30344 w30351 I30344, Stp.refl _ _, fun x hx => hz.held hx, ?_⟩
            have hz := Stp.refl I30344 w30351
            refine vch_q e24 rfl ?_
            refine vch_q e25 rfl ?_
            refine vch_qf e26 rfl e25 rfl rfl rfl ?_
            refine vch_qf e28 rfl e25 rfl rfl rfl ?_
            refine vch_lf e27 rfl e25 rfl rfl rfl ?_
            refine ⟨Stp I30344 w30351 I30344, Stp.refl _ _, fun x hx => hz.held hx, ?_⟩
            have hz := Stp.refl I30344 w30351
            refine vch_lf e29 rfl e25 rfl rfl rfl ?_
            refine ⟨Stp I30344 w30351 I30344, Stp.refl _ _, fun x hx => hz.held hx, ?_⟩
            have hz := Stp.refl I30344 w30351
            refine vch_lf e30 rfl e25 rfl rfl rfl ?_
            refine ⟨Stp I30344 w30351 I30344, Stp.refl _ _, fun x hx => hz.held hx, ?_⟩
            have hz := Stp.refl I30344 w30351
            refine vch_q e31 rfl ?_
            refine vch_q e32 rfl ?_
            refine vch_end ?_
            obtain rfl := Option.some.inj q30237
            exact ⟨(false, I30344), (.c rfl .n), rfl, hp, tb⟩
        ·
          have q30237 := cond_f q30237 hc
          refine vch_qf e8 rfl e7 rfl rfl hc ?_
          refine vch_qf e9 rfl e7 rfl rfl rfl ?_
          refine vch_qf e11 rfl e7 rfl rfl rfl ?_
          refine vch_qf e12 rfl e7 rfl rfl rfl ?_
          refine vch_lf e10 rfl e7 rfl rfl rfl ?_
          refine ⟨Stp I30325 w30332 I30325, Stp.refl _ _, fun x hx => hz.held hx, ?_⟩
          have hz := Stp.refl I30325 w30332
          refine vch_lf e13 rfl e7 rfl rfl rfl ?_
          refine ⟨Stp I30325 w30332 I30325, Stp.refl _ _, fun x hx => hz.held hx, ?_⟩
          have hz := Stp.refl I30325 w30332
          refine vch_lf e14 rfl e7 rfl rfl rfl ?_
          refine ⟨Stp I30325 w30332 I30325, Stp.refl _ _, fun x hx => hz.held hx, ?_⟩
          have hz := Stp.refl I30325 w30332
          refine vch_q e15 rfl ?_
          refine vch_q e16 rfl ?_
          refine vch_qf e17 rfl e16 rfl rfl rfl ?_
          refine vch_qf e18 rfl e16 rfl rfl rfl ?_
          refine vch_qf e20 rfl e16 rfl rfl rfl ?_
          refine vch_qf e21 rfl e16 rfl rfl rfl ?_
          refine vch_lf e19 rfl e16 rfl rfl rfl ?_
          refine ⟨Stp I30325 w30332 I30325, Stp.refl _ _, fun x hx => hz.held hx, ?_⟩
          have hz := Stp.refl I30325 w30332
          refine vch_lf e22 rfl e16 rfl rfl rfl ?_
          refine ⟨Stp I30325 w30332 I30325, Stp.refl _ _, fun x hx => hz.held hx, ?_⟩
          have hz := Stp.refl I30325 w30332
          refine vch_lf e23 rfl e16 rfl rfl rfl ?_
          refine ⟨Stp I30325 w30332 I30325, Stp.refl _ _, fun x hx => hz.held hx, ?_⟩
          have hz := Stp.refl I30325 w30332
          refine vch_q e24 rfl ?_
          refine vch_q e25 rfl ?_
          refine vch_qf e26 rfl e25 rfl rfl rfl ?_
          refine vch_qf e28 rfl e25 rfl rfl rfl ?_
          refine vch_lf e27 rfl e25 rfl rfl rfl ?_
          refine ⟨Stp I30325 w30332 I30325, Stp.refl _ _, fun x hx => hz.held hx, ?_⟩
          have hz := Stp.refl I30325 w30332
          refine vch_lf e29 rfl e25 rfl rfl rfl ?_
          refine ⟨Stp I30325 w30332 I30325, Stp.refl _ _, fun x hx => hz.held hx, ?_⟩
          have hz := Stp.refl I30325 w30332
          refine vch_lf e30 rfl e25 rfl rfl rfl ?_
          refine ⟨Stp I30325 w30332 I30325, Stp.refl _ _, fun x hx => hz.held hx, ?_⟩
          have hz := Stp.refl I30325 w30332
          refine vch_q e31 rfl ?_
          refine vch_q e32 rfl ?_
          refine vch_end ?_
          obtain rfl := Option.some.inj q30237
          exact ⟨(false, I30325), (.c rfl .n), rfl, hp, tb⟩
      ·
        rintro ⟨x30233, I30234⟩ w30235 ⟨hy, hp, tb⟩
        replace hy := hy.symm
        subst hy
        apply go
        obtain rfl := Option.some.inj h
        exact ⟨rfl, hp.ch⟩

end Go.Proofs.YtepadjfmcbjkmaaDoor
