/- The proof's own texts, joined: part 4. No conditions. -/
import Derived.Test.YtbjjonpkmplhbaaGreatDoorProg
import Derived.Below
import Derived.Deep.Draws
import Derived.Deep.AppendLies
import Derived.Maps.AppendAt
import Derived.OwnWalk
import Derived.Laws.BytesArg
import Derived.Laws.MakeOwn
import Derived.Laws.OwnMore
import Derived.Deep.OwnRows
import Derived.Tactics
import Derived.Lib.ConvBytes
import Derived.Laws.Slices
import Derived.WalkKit
import Derived.KernelRfl
import Derived.RowKit3
import Derived.Deep.LoopGhost
import Derived.Deep.QuietTactic
import Derived.BigQuiet
import Derived.WideLaws
import Derived.Deep.DeepCutAuto
import Derived.Deep.CutBlock
import Derived.Deep.RegionHeld3
import Derived.Laws.Rows
import Derived.Lib.AppendStr
import Derived.ArgAppend
import Derived.Laws.IdiomCopy
import Derived.OrdersHeld
import Derived.Laws.BitsLemmas
import Derived.RowKit
import Derived.Laws.StructEq
import Derived.WalkSpells
import Derived.WalkLawsBesides
import Derived.Lib.Hide
import Derived.Deep.RegionWith
import Derived.RegionTactic
import Derived.ChangeAlike
import Derived.Deep.RegionLaw
import Derived.Lib.SmallJoins
import Derived.Lib.SlicesS
import Derived.StillTailTactics
import Derived.Outline
import Derived.DeepKeys4
import Derived.Laws.RangeAny
import Derived.Laws.Closers25
import Derived.Sort.Walk0
import Derived.Laws.Strings
import Derived.Shelf.SlSortCmp.NoneTotal
import Derived.Shelf.SlicesE.Clone
import Derived.Sort.Grow
import Derived.Shelf.SlicesG.Cmp
import Derived.Shelf.GgSortFunc.InsertionK
import Derived.Shelf.SlSortCmp.WholeK
import Derived.Ground.SlsfProg
import Derived.Ground.SlgnProg
import Derived.Ground.SlgcProg
import Derived.Maps.OwnSet
import Derived.Maps.RangeRun
import Derived.Maps.Range
import Derived.Carry
import Derived.ProofKit
import Derived.ChangeSlices
import Derived.DataElems
import Derived.Sort.LotA
import Derived.Deep.MidRow
import Derived.Deep.WholeRow
import Derived.ChangeMaps4
import Derived.Test.YtbjjonpkmplhbaaGreatDoorPSaid0
import Derived.Test.YtbjjonpkmplhbaaGreatDoorPSaid1
import Derived.Test.YtbjjonpkmplhbaaGreatDoorPSaid2
import Derived.Test.YtbjjonpkmplhbaaGreatDoorPSaid3
section
namespace Go.Proofs.YtbjjonpkmplhbaaGreatDoor.Pr
open Go.RowKit Go.Proofs.YtbjjonpkmplhbaaGreatDoorW.PrintWords Go.Proofs.YtbjjonpkmplhbaaGreatDoorW.PrintLast Go.Proofs.YtbjjonpkmplhbaaGreatDoorW.PrintMore
set_option linter.unusedVariables false
set_option linter.unusedSimpArgs false
section
attribute [local go_sem] QaE QaC QaS QaR Qaw Qav QaD QaB
mutual
def Qar.l0 : Nat → List (S35) → List (S62) → List (S62) → Int → Option ((List (S62)))
 | 0, _, _, _, _ => none
 | k + 1, x0, x1, x5, x6 => if x6 < (x0.length : Int) then (if 0 ≤ x6 then ((Qab.f k ((Qae x0 x6).f0.f0) ((Qae x0 x6).f0.f1) ((Qae x0 x6).f1) ((Qae x0 x6).f2) ((Qae x0 x6).f3) ((Qae x0 x6).f4.f0) ((Qae x0 x6).f4.f1) ((Qae x0 x6).f5.f0) ((Qae x0 x6).f5.f1) x1).bind fun t105 => (Qar.l1 k x0 x1 x5 x6 t105 0)) else (none)) else (some x5)
def Qar.l1 : Nat → List (S35) → List (S62) → List (S62) → Int → List (S62) → Int → Option ((List (S62)))
 | 0, _, _, _, _, _, _ => none
 | k + 1, x0, x1, x5, x6, x7, x8 => if x8 < (x7.length : Int) then (if 0 ≤ x8 then ((Qay.f k x5 ((Qah x7 x8).f0.f0) ((Qah x7 x8).f0.f1) ((Qah x7 x8).f1)).bind fun t109 => (if t109 = true then (Qar.l1 k x0 x1 x5 x6 x7 (wrap64 (x8 + 1))) else (if x5.length < 2932031007402 then (Qar.l1 k x0 x1 (x5 ++ [(⟨(⟨(Qah x7 x8).f0.f0, (Qah x7 x8).f0.f1⟩ : S33), (Qah x7 x8).f1⟩ : S62)]) x6 x7 (wrap64 (x8 + 1))) else (none)))) else (none)) else (Qar.l0 k x0 x1 x5 (wrap64 (x6 + 1)))
end
def Qar.f (k : Nat) (l0 : List (S35)) (l1 : List (S62)) : Option ((List (S62))) := if ([] : List (S62)).length + l1.length < 2932031007402 then (Qar.l0 k l0 l1 (([] : List (S62)) ++ l1) 0) else (none)
set_option maxHeartbeats 8000000 in
set_option maxRecDepth 100000 in
theorem Qar.calls (k : Nat) (A0 : Option Addr) (c0 : Nat) (l0 : List (S35)) (A1 : Option Addr) (c1 : Nat) (l1 : List (S62)) (r : List (S62)) (w : World) (hr0 : Kd.C k35 w A0 l0.length l0) (hc0 : l0.length ≤ c0) (hr1 : Kd.C k62 w A1 l1.length l1) (hc1 : l1.length ≤ c1) (h : Qar.f k l0 l1 = some r) :
  Calls Tryz.prog 31 #[.slice A0 l0.length c0, .slice A1 l1.length c1] w fun e w' => ∃ v0_ : Value, e = .returned (v0_) ∧ Kd.R k62 62 w' w.heap.size (fun _ => True) v0_ r ∧ Below w.heap.size w w' := by
 have hu35 := Tryz.underlying35; have hu62 := Tryz.underlying62; have HR0 := Qaa.mk hr0; have HC0 := Qaa.mk hc0; clear hr0 hc0; have HR1 := Qaa.mk hr1; have HC1 := Qaa.mk hc1; clear hr1 hc1; have HB := Qaa.mk (Below.refl w.heap.size w); have H : (if ([] : List (S62)).length + l1.length < 2932031007402 then (Qar.l0 k l0 l1 (([] : List (S62)) ++ l1) 0) else (none)) = some r := h; clear h
 by_cases c3 : ([] : List (S62)).length + l1.length < 2932031007402
 ·rw [if_pos c3] at H; have LMc3 := Qaa.mk c3; clear c3
  obtain ⟨y101, hy101⟩ : ∃ y_ : List (S62), y_ = (([] : List (S62)) ++ l1) := ⟨_, rfl⟩
  replace H : (Qar.l0 k l0 l1 y101 0) = some r := by first | (rw [hy101]; with_reducible exact H) | (have H2_ := (Option.bind_some _ _).symm.trans H; rw [hy101]; with_reducible exact H2_) | (have H2_ := (Option.bind_some _ _).symm.trans H; with_reducible exact H2_) | with_reducible exact H | (rw [hy101]; exact H) | exact H
  have Ny101 := Qaa.mk hy101; clear hy101; have H' := Qaa.mk H; clear H; go_enter Tryz.func31, Tryz.ntmps31
  go_wp2_with (first | ((with_reducible refine QaY (b := .append) (xs := #[.tmp 10, .tmp 11]) rfl ?_); at_builtin; refine Kd.QbN k62 (w0 := w) w.heap.size rfl (.tmp 10) (.tmp 11) 59 62 (.agg #[(.string ⟨#[]⟩), (.string ⟨#[]⟩), (.string ⟨#[]⟩)]) 48 rfl Tryz.underlying59 info62 rfl (by decide) (by omega) (.slice none 0 0) ([] : List (S62)) l1 _ _ _ (fun _ => True) (fun _ => False) rfl rfl ?aO ?aR (fun _ _ h => h) (fun _ h => h.elim) ?aF ?aB ?aS ?aL ?_; (case aR => repeat (first | exact HR1.out | (with_reducible refine Kd.C_alloc ?_ _) | (with_reducible refine Kd.C_drewN ?_ _) | (with_reducible refine Kd.C_drew ?_))); (case aB => exact bw_); (case aF => exact (fun _ _ => trivial)); (case aO => exact ((Kd.R_nil _ _ _ _ (fun _ => True)))); (case aS => exact (QaI bw_)); (case aL => have := LMc3.out; omega); intro v102 w4 ho hb hg hat; rw [← Ny101.out] at ho; have HO103 := Qaa.mk (ho); replace HB := Qaa.mk (hb); clear ho hb hg hat))
  go_loopg [5, 6] k (fun kq v5 v6 w' => ∃ (x5_1 : List (S62)) (x6_1 : Int), v6 = .int .i64 x6_1 ∧ Qaa (Qar.l0 kq l0 l1 x5_1 x6_1 = some r) ∧ Qaa (kq ≤ k) ∧ Qaa (Kd.R k62 62 w' w.heap.size (fun _ => True) v5 x5_1) ∧ Qaa (Below w.heap.size w w'))
  case atStart => exact ⟨(y101), (0), (by first | rfl | (simp; done) | (simp [*]; done)), H', ⟨Nat.le_refl _⟩, ⟨by (with_reducible repeat (first | apply Kd.QaN | apply Kd.QaQ | apply Kd.QaO)); exact HO103.out⟩, ⟨bw_⟩⟩
  case round =>
   clear H'; (try clear c1); (try clear p2); (try clear c3); obtain ⟨x5_1, x6_1, rfl, HA, HK1, HO_5, HB⟩ := hrel
   cases gk with
   | zero => exact absurd HA.out (by simp [Qar.l0])
   | succ k1 =>
    have H := HA.out; clear HA; simp only [Qar.l0] at H
    by_cases c5 : x6_1 < (l0.length : Int)
    ·rw [if_pos c5] at H; have c5b0 : decide (x6_1 < (l0.length : Int)) = true := decide_eq_true c5; clear c5
     by_cases c6 : 0 ≤ x6_1
     ·rw [if_pos c6] at H; have c6b0 : decide (0 ≤ x6_1) = true := decide_eq_true c6; clear c6; replace H := Option.bind_eq_some_iff.mp H; obtain ⟨t105, A70, H⟩ := H; replace H : (Qar.l1 k1 l0 l1 x5_1 x6_1 t105 0) = some r := H; have A7 := Qaa.mk A70; clear A70; have H' := Qaa.mk H; clear H; have p104 : 0 ≤ (x6_1 : Int) := dd_; have q104 : x6_1 < (l0.length : Int) := dd_; obtain ⟨ad104, e104, hx104_0, hx104_1, hx104_2, hx104_3, hx104_4, hx104_5, hx104_6, hx104_7, hx104_8⟩ := at_T35 HR0.out x6_1 p104 q104; cases e104; replace hx104_0 := cb_ HB hx104_0; replace hx104_1 := cb_ HB hx104_1; replace hx104_2 := cb_ HB hx104_2; replace hx104_3 := cb_ HB hx104_3; replace hx104_4 := cb_ HB hx104_4; replace hx104_5 := cb_ HB hx104_5; replace hx104_6 := cb_ HB hx104_6; replace hx104_7 := cb_ HB hx104_7; replace hx104_8 := cb_ HB hx104_8; replace p104 := eq_true p104; replace q104 := eq_true q104
      go_wp2_with (first | ((with_reducible refine QaT (f := 48) rfl ?_); refine gL 24 Tryz.func48 #[.agg #[.int .i64 ((Qae l0 x6_1).f0.f0), .int .i64 ((Qae l0 x6_1).f0.f1), .string ((Qae l0 x6_1).f1), .int .i64 ((Qae l0 x6_1).f2), .string ((Qae l0 x6_1).f3), .string ((Qae l0 x6_1).f4.f0), .string ((Qae l0 x6_1).f4.f1), .string ((Qae l0 x6_1).f5.f0), .string ((Qae l0 x6_1).f5.f1)], .slice A1 l1.length c1] ?_; (with_reducible refine (Qab.calls k1 ((Qae l0 x6_1).f0.f0) ((Qae l0 x6_1).f0.f1) ((Qae l0 x6_1).f1) ((Qae l0 x6_1).f2) ((Qae l0 x6_1).f3) ((Qae l0 x6_1).f4.f0) ((Qae l0 x6_1).f4.f1) ((Qae l0 x6_1).f5.f0) ((Qae l0 x6_1).f5.f1) _ _ l1 t105 _ ?side1 ?side2 A7.out).mono ?_); (case side1 => exact kd_ (Kd.Qa8 HR1.out HB.out)); (case side2 => exact HC1.out); rintro e w8 ⟨v106, rfl, ho0, hb⟩; refine ⟨_, rfl, ?_⟩; have HO107 := Qaa.mk (Kd.QbW (Kd.R_new' ho0 (Kd.R_lt (ro_ HO_5))) (QaI bw_)); replace HO_5 := Qaa.mk (Kd.R_elder' (ro_ HO_5) (Kd.R_base ho0) hb); replace HB := Qaa.mk (Qac bw_ hb); (try clear hb); (try clear hb2); (try clear hk); (try clear hi); (try clear ho0)))
      go_loopg [5, 8] k1 (fun kq v5 v8 w' => ∃ (x5_2 : List (S62)) (x8_2 : Int), v8 = .int .i64 x8_2 ∧ Qaa (Qar.l1 kq l0 l1 x5_2 x6_1 t105 x8_2 = some r) ∧ Qaa (kq ≤ k1) ∧ Qaa (Kd.R k62 62 w' w.heap.size (fun k_ => some k_ ≠ (v106 : Value).ownBlock) v5 x5_2) ∧ Qaa (Kd.R k62 62 w' w.heap.size (fun k_ => some k_ ≠ (v5 : Value).ownBlock) v106 t105) ∧ Qaa (Below w.heap.size w w'))
      case atStart => exact ⟨(x5_1), (0), (by first | rfl | (simp; done) | (simp [*]; done)), H', ⟨Nat.le_refl _⟩, ⟨by (with_reducible repeat (first | apply Kd.QaN | apply Kd.QaQ | apply Kd.QaO)); exact Kd.Qbf HO_5.out (fun _ hk => hk.2)⟩, ⟨by (with_reducible repeat (first | apply Kd.QaN | apply Kd.QaQ | apply Kd.QaO)); exact Kd.Qbf HO107.out (fun _ hk => hk.2)⟩, ⟨bw_⟩⟩
      case round =>
       clear H'; (try clear c1); (try clear p1); (try clear q1); (try clear hx1); (try clear p2); (try clear c3); (try clear c4); (try clear c5); (try clear c5b0); (try clear c6); (try clear c6b0); (try clear hx104_0); (try clear hx104_1); (try clear hx104_2); (try clear hx104_3); (try clear hx104_4); (try clear hx104_5); (try clear hx104_6); (try clear hx104_7); (try clear hx104_8); (try clear p104); (try clear p2); (try clear q104); obtain ⟨x5_2, x8_2, rfl, HA, HK2, HO_5, HO_7, HB⟩ := hrel
       cases gk with
       | zero => exact absurd HA.out (by simp [Qar.l1])
       | succ k2 =>
        have H := HA.out; clear HA; simp only [Qar.l1] at H
        by_cases c9 : x8_2 < (t105.length : Int)
        ·rw [if_pos c9] at H; have c9b0 : decide (x8_2 < (t105.length : Int)) = true := decide_eq_true c9; clear c9
         by_cases c10 : 0 ≤ x8_2
         ·rw [if_pos c10] at H; have c10b0 : decide (0 ≤ x8_2) = true := decide_eq_true c10; clear c10; replace H := Option.bind_eq_some_iff.mp H; obtain ⟨t109, A110, H⟩ := H; replace H : (if t109 = true then (Qar.l1 k2 l0 l1 x5_2 x6_1 t105 (wrap64 (x8_2 + 1))) else (if x5_2.length < 2932031007402 then (Qar.l1 k2 l0 l1 (x5_2 ++ [(⟨(⟨(Qah t105 x8_2).f0.f0, (Qah t105 x8_2).f0.f1⟩ : S33), (Qah t105 x8_2).f1⟩ : S62)]) x6_1 t105 (wrap64 (x8_2 + 1))) else (none))) = some r := H; have A11 := Qaa.mk A110; clear A110
          by_cases c12 : t109 = true
          ·subst c12
           have H1 : (Qar.l1 k2 l0 l1 x5_2 x6_1 t105 (wrap64 (x8_2 + 1))) = some r := by rw [if_pos rfl] at H; exact H
           clear H; have H := H1; clear H1; have H' := Qaa.mk H; clear H; obtain ⟨Ao13, co13, eo13⟩ := Kd.Qbd HO_7.out; subst eo13; have p108 : 0 ≤ (x8_2 : Int) := dd_; have q108 : x8_2 < (t105.length : Int) := dd_; obtain ⟨ad108, e108, hx108_0, hx108_1, hx108_2⟩ := QbL (Kd.QaW HO_7.out).2.2 x8_2 p108 q108; cases e108; replace p108 := eq_true p108; replace q108 := eq_true q108; obtain ⟨Ao14, co14, eo14⟩ := Kd.Qbd HO_5.out; subst eo14
           go_wp2_with (first | ((with_reducible refine QaT (f := 13) rfl ?_); refine gL 36 Tryz.func13 #[.slice Ao14 x5_2.length co14, .agg #[.string ((Qah t105 x8_2).f0.f0), .string ((Qah t105 x8_2).f0.f1), .string ((Qah t105 x8_2).f1)]] ?_; (with_reducible refine (Qay.calls k2 _ _ x5_2 ((Qah t105 x8_2).f0.f0) ((Qah t105 x8_2).f0.f1) ((Qah t105 x8_2).f1) true _ ?side1 ?side2 A11.out).mono ?_); (case side1 => exact kd_ ((Kd.QaW HO_5.out).2.2)); (case side2 => exact (Kd.QaW HO_5.out).2.1); rintro e w15 ⟨rfl, hb⟩; refine ⟨_, rfl, ?_⟩; replace HO_5 := Qaa.mk (Kd.Qa3 (ro_ HO_5) hb); replace HO_7 := Qaa.mk (Kd.Qa3 (ro_ HO_7) hb); replace HB := Qaa.mk (Qac bw_ hb); (try clear hb); (try clear hb2); (try clear hk); (try clear hi)))
           go_roundg k2
           case measure => have := HK1.out; have := HK2.out; omega
           case rel => exact ⟨(x5_2), (wrap64 (x8_2 + 1)), (by first | rfl | (simp; done) | (simp [*]; done)), H', ⟨by have := HK1.out; have := HK2.out; omega⟩, ⟨by (with_reducible repeat (first | apply Kd.QaN | apply Kd.QaQ | apply Kd.QaO)); exact HO_5.out⟩, ⟨by (with_reducible repeat (first | apply Kd.QaN | apply Kd.QaQ | apply Kd.QaO)); exact HO_7.out⟩, ⟨bw_⟩⟩
          ·replace c12 := Bool.eq_false_iff.mpr c12; subst c12
           have H1 : (if x5_2.length < 2932031007402 then (Qar.l1 k2 l0 l1 (x5_2 ++ [(⟨(⟨(Qah t105 x8_2).f0.f0, (Qah t105 x8_2).f0.f1⟩ : S33), (Qah t105 x8_2).f1⟩ : S62)]) x6_1 t105 (wrap64 (x8_2 + 1))) else (none)) = some r := by rw [if_neg (show ¬ (false = true) by decide)] at H; exact H
           clear H; have H := H1; clear H1
           by_cases c16 : x5_2.length < 2932031007402
           ·rw [if_pos c16] at H; have LMc16 := Qaa.mk c16; clear c16
            obtain ⟨y111, hy111⟩ : ∃ y_ : List (S62), y_ = (x5_2 ++ [(⟨(⟨(Qah t105 x8_2).f0.f0, (Qah t105 x8_2).f0.f1⟩ : S33), (Qah t105 x8_2).f1⟩ : S62)]) := ⟨_, rfl⟩
            replace H : (Qar.l1 k2 l0 l1 y111 x6_1 t105 (wrap64 (x8_2 + 1))) = some r := by first | (rw [hy111]; with_reducible exact H) | (have H2_ := (Option.bind_some _ _).symm.trans H; rw [hy111]; with_reducible exact H2_) | (have H2_ := (Option.bind_some _ _).symm.trans H; with_reducible exact H2_) | with_reducible exact H | (rw [hy111]; exact H) | exact H
            have Ny111 := Qaa.mk hy111; clear hy111; have H' := Qaa.mk H; clear H; obtain ⟨Ao17, co17, eo17⟩ := Kd.Qbd HO_7.out; subst eo17; have p108 : 0 ≤ (x8_2 : Int) := dd_; have q108 : x8_2 < (t105.length : Int) := dd_; obtain ⟨ad108, e108, hx108_0, hx108_1, hx108_2⟩ := QbL (Kd.QaW HO_7.out).2.2 x8_2 p108 q108; cases e108; replace p108 := eq_true p108; replace q108 := eq_true q108; obtain ⟨Ao18, co18, eo18⟩ := Kd.Qbd HO_5.out; subst eo18
            go_wp2_with (first | ((with_reducible refine QaT (f := 13) rfl ?_); refine gL 36 Tryz.func13 #[.slice Ao18 x5_2.length co18, .agg #[.string ((Qah t105 x8_2).f0.f0), .string ((Qah t105 x8_2).f0.f1), .string ((Qah t105 x8_2).f1)]] ?_; (with_reducible refine (Qay.calls k2 _ _ x5_2 ((Qah t105 x8_2).f0.f0) ((Qah t105 x8_2).f0.f1) ((Qah t105 x8_2).f1) false _ ?side1 ?side2 A11.out).mono ?_); (case side1 => exact kd_ ((Kd.QaW HO_5.out).2.2)); (case side2 => exact (Kd.QaW HO_5.out).2.1); rintro e w19 ⟨rfl, hb⟩; refine ⟨_, rfl, ?_⟩; replace HO_5 := Qaa.mk (Kd.Qa3 (ro_ HO_5) hb); replace HO_7 := Qaa.mk (Kd.Qa3 (ro_ HO_7) hb); replace HB := Qaa.mk (Qac bw_ hb); (try clear hb); (try clear hb2); (try clear hk); (try clear hi); have p110 : 0 ≤ (x8_2 : Int) := dd_; have q110 : x8_2 < (t105.length : Int) := dd_; obtain ⟨ad110, e110, hx110_0, hx110_1, hx110_2⟩ := QbL (Kd.QaW HO_7.out).2.2 x8_2 p110 q110; obtain rfl : ad108 = ad110 := (by injection e110); replace p110 := eq_true p110; replace q110 := eq_true q110) | ((with_reducible refine QaY (b := .append) (xs := #[.tmp 39, .tmp 44]) rfl ?_); at_builtin; refine Kd.QbG k62 (w0 := w) w.heap.size rfl (.tmp 39) (.tmp 44) 59 62 (.agg #[(.string ⟨#[]⟩), (.string ⟨#[]⟩), (.string ⟨#[]⟩)]) 48 rfl Tryz.underlying59 info62 rfl (by decide) (by omega) (.slice Ao18 x5_2.length co18) x5_2 (⟨(⟨(Qah t105 x8_2).f0.f0, (Qah t105 x8_2).f0.f1⟩ : S33), (Qah t105 x8_2).f1⟩ : S62) [.string ((Qah t105 x8_2).f0.f0), .string ((Qah t105 x8_2).f0.f1), .string ((Qah t105 x8_2).f1)] (fun k_ => some k_ ≠ (.slice (some ad108) t105.length co17 : Value).ownBlock) (fun _ => False) rfl rfl ?aP (fun _ hk => hk.elim) ?aF ?aO ?aB ?aS ?aL ?_; (case aP => exact k62_mkM _ _ _ (⟨(⟨(Qah t105 x8_2).f0.f0, (Qah t105 x8_2).f0.f1⟩ : S33), (Qah t105 x8_2).f1⟩ : S62)); (case aB => exact bw_); (case aF => exact (fun k_ hk => Kd.fresh' (Kd.R_lt (ro_ HO_7)) k_ hk)); (case aO => exact (ro_ HO_5)); (case aS => exact (QaI bw_)); (case aL => have := LMc16.out; omega); intro v112 w20 ho hb hg hat; rw [← Ny111.out] at ho; have n0_ := Qaa.mk (Kd.R_after (ok := (fun _ => True)) (by (with_reducible repeat (first | apply Kd.QaN | apply Kd.QaQ | apply Kd.QaO)); exact Kd.Qbf HO_7.out (fun _ hk => ⟨trivial, hk⟩)) hg hat); have n1_ := Qaa.mk (hb); have n2_ := Qaa.mk (ho); clear HO_7; clear HB; clear HO_5; have HO_7 := n0_; have HB := n1_; have HO113 := n2_; clear n0_ n1_ n2_; clear ho hb hg hat))
            go_roundg k2
            case measure => have := HK1.out; have := HK2.out; omega
            case rel => exact ⟨(y111), (wrap64 (x8_2 + 1)), (by first | rfl | (simp; done) | (simp [*]; done)), H', ⟨by have := HK1.out; have := HK2.out; omega⟩, ⟨by (with_reducible repeat (first | apply Kd.QaN | apply Kd.QaQ | apply Kd.QaO)); exact HO113.out⟩, ⟨by (with_reducible repeat (first | apply Kd.QaN | apply Kd.QaQ | apply Kd.QaO)); exact Kd.Qbf HO_7.out (fun _ hk => hk.2)⟩, ⟨bw_⟩⟩
           ·rw [if_neg c16] at H; exact absurd H (by simp)
         ·rw [if_neg c10] at H; exact absurd H (by simp)
        ·rw [if_neg c9] at H; have c9b0 : decide (x8_2 < (t105.length : Int)) = false := decide_eq_false c9; clear c9; have H' := Qaa.mk H; clear H; obtain ⟨Ao21, co21, eo21⟩ := Kd.Qbd HO_7.out; subst eo21; go_wp2
         go_roundg k2
         case measure => have := HK1.out; have := HK2.out; omega
         case rel => exact ⟨(x5_2), (wrap64 (x6_1 + 1)), (by first | rfl | (simp; done) | (simp [*]; done)), H', ⟨by have := HK1.out; have := HK2.out; omega⟩, ⟨by (with_reducible repeat (first | apply Kd.QaN | apply Kd.QaQ | apply Kd.QaO)); exact Kd.Qbf HO_5.out (fun _ hk => trivial)⟩, ⟨bw_⟩⟩
     ·rw [if_neg c6] at H; exact absurd H (by simp)
    ·rw [if_neg c5] at H; have c5b0 : decide (x6_1 < (l0.length : Int)) = false := decide_eq_false c5; clear c5; obtain rfl := Option.some.inj H; go_wp2; go_ret; exact ⟨_, by first | rfl | (simp [Qap, Qao] <;> rfl) | (simp [*, Qap, Qao] <;> rfl), by (with_reducible repeat (first | apply Kd.QaN | apply Kd.QaQ | apply Kd.QaO)); exact HO_5.out, bw_⟩
 ·rw [if_neg c3] at H; exact absurd H (by simp)

mutual
def Qaf.l0 : Nat → List (S35) → List (S62) → Option ((List (S62)))
 | 0, _, _ => none
 | k + 1, x3, x4 => (Qar.f k x3 x4).bind fun t104 => (if (t104.length : Int) = (x4.length : Int) then (Qaf.l1 k x4 ([] : List (S62))) else (Qaf.l0 k x3 t104))
def Qaf.l1 : Nat → List (S62) → List (S62) → Option ((List (S62)))
 | 0, _, _ => none
 | k + 1, x4, x6 => if (x4.length : Int) > 0 then (Qaf.l2 k x4 x6 0 1) else (some x6)
def Qaf.l2 : Nat → List (S62) → List (S62) → Int → Int → Option ((List (S62)))
 | 0, _, _, _, _ => none
 | k + 1, x4, x6, x7, x8 => if x8 < (x4.length : Int) then (if 0 ≤ x8 then (if 0 ≤ x7 then (if x7 < (x4.length : Int) then ((Qbk.f ((Qah x4 x8).f0.f0) ((Qah x4 x8).f0.f1) ((Qah x4 x8).f1) ((Qah x4 x7).f0.f0) ((Qah x4 x7).f0.f1) ((Qah x4 x7).f1)).bind fun t109 => (if t109 = true then (Qaf.l2 k x4 x6 x8 (wrap64 (x8 + 1))) else (Qaf.l2 k x4 x6 x7 (wrap64 (x8 + 1))))) else (none)) else (none)) else (none)) else (if 0 ≤ x7 then (if x7 < (x4.length : Int) then (if x6.length < 2932031007402 then (if x7 ≤ (x4.length : Int) then ((some (x4.take (x7 : Int).toNat : List (S62))).bind fun y114 => (if ([] : List (S62)).length + y114.length < 2932031007402 then ((some (([] : List (S62)) ++ y114 : List (S62))).bind fun y118 => (if 0 ≤ (wrap64 (x7 + 1)) then (if (wrap64 (x7 + 1)) ≤ (x4.length : Int) then ((some (x4.drop ((wrap64 (x7 + 1)) : Int).toNat : List (S62))).bind fun y121 => (if y118.length + y121.length < 2932031007402 then (Qaf.l1 k (y118 ++ y121) (x6 ++ [(⟨(⟨(Qah x4 x7).f0.f0, (Qah x4 x7).f0.f1⟩ : S33), (Qah x4 x7).f1⟩ : S62)])) else (none))) else (none)) else (none))) else (none))) else (none)) else (none)) else (none)) else (none))
end
def Qaf.f (k : Nat) (l0 : List (S35)) : Option ((List (S62))) := (Qal.f k l0).bind fun t101 => (Qaf.l0 k t101 ([] : List (S62)))
def Qaf.T12 : Bool × List (List Nat × List Nat) := (true, [([], []), ([], []), ([0, 1], [0, 1]), ([2], [2]), ([], []), ([], []), ([4, 5], [4, 5]), ([6], [6]), ([3, 7], [3, 7])])
def Qaf.B12 : List Nat := [0, 0, 3, 7, 0, 0, 48, 112, 255]
theorem Qaf.tab12 : rtab .any (opsOf Tryz.f14 12) = Qaf.T12 := by kernel_rfl
theorem Qaf.bits12 : waitsOk Qaf.T12.2 Qaf.B12 = true := by kernel_rfl
set_option maxHeartbeats 8000000 in
set_option maxRecDepth 100000 in
theorem Qaf.calls (k : Nat) (A0 : Option Addr) (c0 : Nat) (l0 : List (S35)) (r : List (S62)) (w : World) (hr0 : Kd.C k35 w A0 l0.length l0) (hc0 : l0.length ≤ c0) (h : Qaf.f k l0 = some r) :
  Calls Tryz.prog 14 #[.slice A0 l0.length c0] w fun e w' => ∃ v0_ : Value, e = .returned (v0_) ∧ Kd.R k62 62 w' w.heap.size (fun _ => True) v0_ r ∧ Below w.heap.size w w' := by
 have hu62 := Tryz.underlying62; have HR0 := Qaa.mk hr0; have HC0 := Qaa.mk hc0; clear hr0 hc0; have HB := Qaa.mk (Below.refl w.heap.size w); have H : ((Qal.f k l0).bind fun t101 => (Qaf.l0 k t101 ([] : List (S62)))) = some r := h; clear h; replace H := Option.bind_eq_some_iff.mp H; obtain ⟨t101, A20, H⟩ := H; replace H : (Qaf.l0 k t101 ([] : List (S62))) = some r := H; have A2 := Qaa.mk A20; clear A20; have H' := Qaa.mk H; clear H; go_enter Tryz.func14, Tryz.ntmps14
 go_wp2_with (first | ((with_reducible refine QaT (f := 30) rfl ?_); refine gL 11 Tryz.func30 #[.slice A0 l0.length c0] ?_; (with_reducible refine (Qal.calls k _ _ l0 t101 _ ?side1 ?side2 A2.out).mono ?_); (case side1 => repeat (first | exact HR0.out | (with_reducible refine Kd.C_alloc ?_ _) | (with_reducible refine Kd.C_drewN ?_ _) | (with_reducible refine Kd.C_drew ?_))); (case side2 => exact HC0.out); rintro e w3 ⟨v102, rfl, ho0, hb⟩; refine ⟨_, rfl, ?_⟩; have HO103 := Qaa.mk (Kd.QbW ho0 (QaI bw_)); replace HB := Qaa.mk (Qac bw_ hb); (try clear hb); (try clear hb2); (try clear hk); (try clear hi); (try clear ho0)))
 go_loopg [4] k (fun kq v4 w' => ∃ (x4_1 : List (S62)), Qaa (Qaf.l0 kq t101 x4_1 = some r) ∧ Qaa (kq ≤ k) ∧ Qaa (Kd.R k35 35 w' w.heap.size (fun _ => True) v102 t101) ∧ Qaa (Kd.R k62 62 w' w.heap.size (fun _ => True) v4 x4_1) ∧ Qaa (Below w.heap.size w w'))
 case atStart => exact ⟨(([] : List (S62))), H', ⟨Nat.le_refl _⟩, ⟨by (with_reducible repeat (first | apply Kd.QaN | apply Kd.QaQ | apply Kd.QaO)); exact HO103.out⟩, ⟨by first | exact Kd.R_nil _ _ _ _ _ | exact Kd.N_nil _ _ _ _ _ | exact Kd.V_nil _ _ _ _ _ | exact Kd.Q_nil _ _ _ _ _ | exact Kd.S_nil _ _ _ _ _⟩, ⟨bw_⟩⟩
 case round =>
  clear H'; (try clear c1); (try clear p2); (try clear c3); obtain ⟨x4_1, HA, HK1, HO_3, HO_4, HB⟩ := hrel
  cases gk with
  | zero => exact absurd HA.out (by simp [Qaf.l0])
  | succ k1 =>
   have H := HA.out; clear HA; simp only [Qaf.l0] at H; replace H := Option.bind_eq_some_iff.mp H; obtain ⟨t104, A40, H⟩ := H; replace H : (if (t104.length : Int) = (x4_1.length : Int) then (Qaf.l1 k1 x4_1 ([] : List (S62))) else (Qaf.l0 k1 t101 t104)) = some r := H; have A4 := Qaa.mk A40; clear A40
   by_cases c5 : (t104.length : Int) = (x4_1.length : Int)
   ·rw [if_pos c5] at H; have c5b0 : ((t104.length : Int) == (x4_1.length : Int)) = true := beq_iff_eq.mpr c5; have c5b1 : ((t104.length : Int) != (x4_1.length : Int)) = false := bne_eq_false_iff_eq.mpr c5
    have c5b2 : (t104.length == x4_1.length) = true := by first | simpa using c5 | (simp at c5 ⊢; omega)
    clear c5; have H' := Qaa.mk H; clear H; obtain ⟨Ao6, co6, eo6⟩ := Kd.Qbd HO_3.out; subst eo6; obtain ⟨Ao7, co7, eo7⟩ := Kd.Qbd HO_4.out; subst eo7
    go_wp2_with (first | ((with_reducible refine QaT (f := 31) rfl ?_); refine gL 14 Tryz.func31 #[.slice Ao6 t101.length co6, .slice Ao7 x4_1.length co7] ?_; (with_reducible refine (Qar.calls k1 _ _ t101 _ _ x4_1 t104 _ ?side1 ?side2 ?side3 ?side4 A4.out).mono ?_); (case side1 => exact kd_ ((Kd.QaW HO_3.out).2.2)); (case side2 => exact (Kd.QaW HO_3.out).2.1); (case side3 => exact kd_ ((Kd.QaW HO_4.out).2.2)); (case side4 => exact (Kd.QaW HO_4.out).2.1); rintro e w8 ⟨v105, rfl, ho0, hb⟩; refine ⟨_, rfl, ?_⟩; have HO106 := Qaa.mk (Kd.QbW (Kd.R_new' ho0 (Kd.R_lt (ro_ HO_4))) (QaI bw_)); replace HO_3 := Qaa.mk (Kd.Qa3 (ro_ HO_3) hb); replace HO_4 := Qaa.mk (Kd.R_elder' (ro_ HO_4) (Kd.R_base ho0) hb); replace HB := Qaa.mk (Qac bw_ hb); (try clear hb); (try clear hb2); (try clear hk); (try clear hi); (try clear ho0); obtain ⟨Ao9, co9, eo9⟩ := Kd.Qbd HO106.out; subst eo9))
    go_loopg [4, 6] k1 (fun kq v4 v6 w' => ∃ (x4_2 : List (S62)) (x6_2 : List (S62)), Qaa (Qaf.l1 kq x4_2 x6_2 = some r) ∧ Qaa (kq ≤ k1) ∧ Qaa (Kd.R k62 62 w' w.heap.size (fun k_ => some k_ ≠ (v6 : Value).ownBlock) v4 x4_2) ∧ Qaa (Kd.R k62 62 w' w.heap.size (fun k_ => some k_ ≠ (v4 : Value).ownBlock) v6 x6_2) ∧ Qaa (Below w.heap.size w w'))
    case atStart => exact ⟨(x4_1), (([] : List (S62))), H', ⟨Nat.le_refl _⟩, ⟨by (with_reducible repeat (first | apply Kd.QaN | apply Kd.QaQ | apply Kd.QaO)); exact Kd.Qbf HO_4.out (fun _ hk => (by simp [Value.ownBlock]))⟩, ⟨by first | exact Kd.R_nil _ _ _ _ _ | exact Kd.N_nil _ _ _ _ _ | exact Kd.V_nil _ _ _ _ _ | exact Kd.Q_nil _ _ _ _ _ | exact Kd.S_nil _ _ _ _ _⟩, ⟨bw_⟩⟩
    case round =>
     clear H'; (try clear c1); (try clear p2); (try clear c3); (try clear c5); (try clear c5b0); (try clear c5b1); (try clear c5b2); (try clear p2); obtain ⟨x4_2, x6_2, HA, HK2, HO_4, HO_6, HB⟩ := hrel
     cases gk with
     | zero => exact absurd HA.out (by simp [Qaf.l1])
     | succ k2 =>
      have H := HA.out; clear HA; simp only [Qaf.l1] at H
      by_cases c10 : (x4_2.length : Int) > 0
      ·rw [if_pos c10] at H; have c10b0 : decide (0 < (x4_2.length : Int)) = true := decide_eq_true c10; have c10b1 : decide (0 < x4_2.length) = true := decide_eq_true (by omega); clear c10; have H' := Qaa.mk H; clear H; obtain ⟨Ao11, co11, eo11⟩ := Kd.Qbd HO_4.out; subst eo11; go_wp2
       go_loopg [7, 8] k2 (fun kq v7 v8 w' => ∃ (x7_3 : Int) (x8_3 : Int), v7 = .int .i64 x7_3 ∧ v8 = .int .i64 x8_3 ∧ Qaa (Qaf.l2 kq x4_2 x6_2 x7_3 x8_3 = some r) ∧ Qaa (kq ≤ k2) ∧ Qaa (Kd.R k62 62 w' w.heap.size (fun k_ => some k_ ≠ (u6 : Value).ownBlock) (.slice Ao11 x4_2.length co11) x4_2) ∧ Qaa (Kd.R k62 62 w' w.heap.size (fun k_ => some k_ ≠ ((.slice Ao11 x4_2.length co11) : Value).ownBlock) u6 x6_2) ∧ Qaa (Below w.heap.size w w'))
       case atStart => exact ⟨(0), (1), (by first | rfl | (simp; done) | (simp [*]; done)), (by first | rfl | (simp; done) | (simp [*]; done)), H', ⟨Nat.le_refl _⟩, ⟨by (with_reducible repeat (first | apply Kd.QaN | apply Kd.QaQ | apply Kd.QaO)); exact HO_4.out⟩, ⟨by (with_reducible repeat (first | apply Kd.QaN | apply Kd.QaQ | apply Kd.QaO)); exact HO_6.out⟩, ⟨bw_⟩⟩
       case round =>
        clear H'; (try clear c1); (try clear p2); (try clear c3); (try clear c5); (try clear c5b0); (try clear c5b1); (try clear c5b2); (try clear c10); (try clear c10b0); (try clear c10b1); (try clear p2); obtain ⟨x7_3, x8_3, rfl, rfl, HA, HK3, HO_4, HO_6, HB⟩ := hrel
        cases gk with
        | zero => exact absurd HA.out (by simp [Qaf.l2])
        | succ k3 =>
         have H := HA.out; clear HA; simp only [Qaf.l2] at H
         by_cases c12 : x8_3 < (x4_2.length : Int)
         ·rw [if_pos c12] at H; have c12b0 : decide (x8_3 < (x4_2.length : Int)) = true := decide_eq_true c12; clear c12
          by_cases c13 : 0 ≤ x8_3
          ·rw [if_pos c13] at H; have c13b0 : decide (0 ≤ x8_3) = true := decide_eq_true c13; clear c13
           by_cases c14 : 0 ≤ x7_3
           ·rw [if_pos c14] at H; have c14b0 : decide (0 ≤ x7_3) = true := decide_eq_true c14; clear c14
            by_cases c15 : x7_3 < (x4_2.length : Int)
            ·rw [if_pos c15] at H; have c15b0 : decide (x7_3 < (x4_2.length : Int)) = true := decide_eq_true c15; clear c15; replace H := Option.bind_eq_some_iff.mp H; obtain ⟨t109, A160, H⟩ := H; replace H : (if t109 = true then (Qaf.l2 k3 x4_2 x6_2 x8_3 (wrap64 (x8_3 + 1))) else (Qaf.l2 k3 x4_2 x6_2 x7_3 (wrap64 (x8_3 + 1)))) = some r := H; have A16 := Qaa.mk A160; clear A160
             by_cases c17 : t109 = true
             ·subst c17
              have H1 : (Qaf.l2 k3 x4_2 x6_2 x8_3 (wrap64 (x8_3 + 1))) = some r := by rw [if_pos rfl] at H; exact H
              clear H; have H := H1; clear H1; have H' := Qaa.mk H; clear H
              try go_wp2
              replace HO_4 := Qaa.mk (Kd.QaO HO_4.out); replace HO_6 := Qaa.mk (Kd.QaO HO_6.out); replace HB := Qaa.mk (Qau HB.out); have p107 : 0 ≤ (x8_3 : Int) := dd_; have q107 : x8_3 < (x4_2.length : Int) := dd_; obtain ⟨ad107, e107, hx107_0, hx107_1, hx107_2⟩ := QbL (Kd.QaW HO_4.out).2.2 x8_3 p107 q107; cases e107; replace p107 := eq_true p107; replace q107 := eq_true q107; have p108 : 0 ≤ (x7_3 : Int) := dd_; have q108 : x7_3 < (x4_2.length : Int) := dd_; obtain ⟨ad108, e108, hx108_0, hx108_1, hx108_2⟩ := QbL (Kd.QaW HO_4.out).2.2 x7_3 p108 q108
              obtain rfl : ad107 = ad108 := (by injection e108)
              replace p108 := eq_true p108; replace q108 := eq_true q108; refine Qbo (n := 9) (S := fun w' => cr_sss w' (ad107.add ((x8_3).toNat * 3)) ((Qah x4_2 x8_3).f0.f0) ((Qah x4_2 x8_3).f0.f1) ((Qah x4_2 x8_3).f1) (crl_sss w' (ad107.add ((x7_3).toNat * 3)) ((Qah x4_2 x7_3).f0.f0) ((Qah x4_2 x7_3).f0.f1) ((Qah x4_2 x7_3).f1))) (ds := []) #[ff,ff,ff,ff,ff,ff,ff,ff,ff] (by kernel_rfl) rfl rfl ⟨hx107_0, hx107_1, hx107_2, hx108_0, hx108_1, hx108_2⟩ (fun hHeld => ?_); refine Qa9 Qaf.tab12 Qaf.bits12 (fun HT_ HW_ => ?_)
              generalize wr.drew = w18 at HO_4 HO_6 HB hx107_0 hx107_1 hx107_2 hx108_0 hx108_1 hx108_2 hHeld ⊢
              refine pz 0 30 ?_; refine pz 1 31 ?_; refine pz 2 32 ?_; refine pz 4 34 ?_; refine pz 5 35 ?_; refine pz 6 36 ?_; refine tk6 3 33 ?_; refine tk6 7 37 ?_; refine one_ (i := 8) (N := some 38) #[tt,tt,tt,tt,tt,tt,tt,tt,tt] rfl rfl (QbK HT_.out (by kernel_rfl)) (by decide) (fun K hK => ?_); refine goes_ Tryz.func32 (by kernel_rfl) rfl #[.agg #[.string ((Qah x4_2 x8_3).f0.f0), .string ((Qah x4_2 x8_3).f0.f1), .string ((Qah x4_2 x8_3).f1)], .agg #[.string ((Qah x4_2 x7_3).f0.f0), .string ((Qah x4_2 x7_3).f0.f1), .string ((Qah x4_2 x7_3).f1)]] (by rfl) rfl rfl (by (try simp only [List.map_toArray, List.map_cons, List.map_nil]); first | done | rfl | (simp only [List.length_drop, List.length_take]; rfl)) ?_
              with_reducible refine (Qbk.calls ((Qah x4_2 x8_3).f0.f0) ((Qah x4_2 x8_3).f0.f1) ((Qah x4_2 x8_3).f1) ((Qah x4_2 x7_3).f0.f0) ((Qah x4_2 x7_3).f0.f1) ((Qah x4_2 x7_3).f1) true _ A16.out).mono ?_
              rintro e w19 ⟨rfl, hb⟩; have HS0_ := cc_ hb hHeld.1; have HS1_ := cc_ hb hHeld.2.1; have HS2_ := cc_ hb hHeld.2.2.1; have HS3_ := cc_ hb hHeld.2.2.2.1; have HS4_ := cc_ hb hHeld.2.2.2.2.1; have HS5_ := cc_ hb hHeld.2.2.2.2.2; refine ⟨_, rfl, ?_⟩; replace HO_4 := Qaa.mk (Kd.Qa3 (ro_ HO_4) hb); replace HO_6 := Qaa.mk (Kd.Qa3 (ro_ HO_6) hb); replace HB := Qaa.mk (Qac bw_ hb)
              (try clear hb)
              (try clear hb2)
              (try clear hk)
              (try clear hi)
              refine hK.out _ _ ⟨HS0_, HS1_, HS2_, HS3_, HS4_, HS5_⟩ (fun hHeld => ?_); clear hK K; refine norm_ (a' := ?_) ?_ ?_; rotate_left
              ·show Act.put _ (some 38) _ = _
               simp only [Act.put, put_, Qbe, Qbh]; rfl
              refine QbS (Qbz HT_.out (by kernel_rfl)) ?_
              try go_wp2
              go_roundg k3
              case measure => have := HK1.out; have := HK2.out; have := HK3.out; omega
              case rel => exact ⟨(x8_3), (wrap64 (x8_3 + 1)), (by first | rfl | (simp; done) | (simp [*]; done)), (by first | rfl | (simp; done) | (simp [*]; done)), H', ⟨by have := HK1.out; have := HK2.out; have := HK3.out; omega⟩, ⟨by (with_reducible repeat (first | apply Kd.QaN | apply Kd.QaQ | apply Kd.QaO)); exact HO_4.out⟩, ⟨by (with_reducible repeat (first | apply Kd.QaN | apply Kd.QaQ | apply Kd.QaO)); exact HO_6.out⟩, ⟨bw_⟩⟩
             ·replace c17 := Bool.eq_false_iff.mpr c17; subst c17
              have H1 : (Qaf.l2 k3 x4_2 x6_2 x7_3 (wrap64 (x8_3 + 1))) = some r := by rw [if_neg (show ¬ (false = true) by decide)] at H; exact H
              clear H; have H := H1; clear H1; have H' := Qaa.mk H; clear H
              try go_wp2
              replace HO_4 := Qaa.mk (Kd.QaO HO_4.out); replace HO_6 := Qaa.mk (Kd.QaO HO_6.out); replace HB := Qaa.mk (Qau HB.out); have p107 : 0 ≤ (x8_3 : Int) := dd_; have q107 : x8_3 < (x4_2.length : Int) := dd_; obtain ⟨ad107, e107, hx107_0, hx107_1, hx107_2⟩ := QbL (Kd.QaW HO_4.out).2.2 x8_3 p107 q107; cases e107; replace p107 := eq_true p107; replace q107 := eq_true q107; have p108 : 0 ≤ (x7_3 : Int) := dd_; have q108 : x7_3 < (x4_2.length : Int) := dd_; obtain ⟨ad108, e108, hx108_0, hx108_1, hx108_2⟩ := QbL (Kd.QaW HO_4.out).2.2 x7_3 p108 q108
              obtain rfl : ad107 = ad108 := (by injection e108)
              replace p108 := eq_true p108; replace q108 := eq_true q108; refine Qbo (n := 9) (S := fun w' => cr_sss w' (ad107.add ((x8_3).toNat * 3)) ((Qah x4_2 x8_3).f0.f0) ((Qah x4_2 x8_3).f0.f1) ((Qah x4_2 x8_3).f1) (crl_sss w' (ad107.add ((x7_3).toNat * 3)) ((Qah x4_2 x7_3).f0.f0) ((Qah x4_2 x7_3).f0.f1) ((Qah x4_2 x7_3).f1))) (ds := []) #[ff,ff,ff,ff,ff,ff,ff,ff,ff] (by kernel_rfl) rfl rfl ⟨hx107_0, hx107_1, hx107_2, hx108_0, hx108_1, hx108_2⟩ (fun hHeld => ?_); refine Qa9 Qaf.tab12 Qaf.bits12 (fun HT_ HW_ => ?_)
              generalize wr.drew = w20 at HO_4 HO_6 HB hx107_0 hx107_1 hx107_2 hx108_0 hx108_1 hx108_2 hHeld ⊢
              refine pz 0 30 ?_; refine pz 1 31 ?_; refine pz 2 32 ?_; refine pz 4 34 ?_; refine pz 5 35 ?_; refine pz 6 36 ?_; refine tk6 3 33 ?_; refine tk6 7 37 ?_; refine one_ (i := 8) (N := some 38) #[tt,tt,tt,tt,tt,tt,tt,tt,tt] rfl rfl (QbK HT_.out (by kernel_rfl)) (by decide) (fun K hK => ?_); refine goes_ Tryz.func32 (by kernel_rfl) rfl #[.agg #[.string ((Qah x4_2 x8_3).f0.f0), .string ((Qah x4_2 x8_3).f0.f1), .string ((Qah x4_2 x8_3).f1)], .agg #[.string ((Qah x4_2 x7_3).f0.f0), .string ((Qah x4_2 x7_3).f0.f1), .string ((Qah x4_2 x7_3).f1)]] (by rfl) rfl rfl (by (try simp only [List.map_toArray, List.map_cons, List.map_nil]); first | done | rfl | (simp only [List.length_drop, List.length_take]; rfl)) ?_
              with_reducible refine (Qbk.calls ((Qah x4_2 x8_3).f0.f0) ((Qah x4_2 x8_3).f0.f1) ((Qah x4_2 x8_3).f1) ((Qah x4_2 x7_3).f0.f0) ((Qah x4_2 x7_3).f0.f1) ((Qah x4_2 x7_3).f1) false _ A16.out).mono ?_
              rintro e w21 ⟨rfl, hb⟩; have HS0_ := cc_ hb hHeld.1; have HS1_ := cc_ hb hHeld.2.1; have HS2_ := cc_ hb hHeld.2.2.1; have HS3_ := cc_ hb hHeld.2.2.2.1; have HS4_ := cc_ hb hHeld.2.2.2.2.1; have HS5_ := cc_ hb hHeld.2.2.2.2.2; refine ⟨_, rfl, ?_⟩; replace HO_4 := Qaa.mk (Kd.Qa3 (ro_ HO_4) hb); replace HO_6 := Qaa.mk (Kd.Qa3 (ro_ HO_6) hb); replace HB := Qaa.mk (Qac bw_ hb)
              (try clear hb)
              (try clear hb2)
              (try clear hk)
              (try clear hi)
              refine hK.out _ _ ⟨HS0_, HS1_, HS2_, HS3_, HS4_, HS5_⟩ (fun hHeld => ?_); clear hK K; refine norm_ (a' := ?_) ?_ ?_; rotate_left
              ·show Act.put _ (some 38) _ = _
               simp only [Act.put, put_, Qbe, Qbh]; rfl
              refine QbS (Qbz HT_.out (by kernel_rfl)) ?_
              try go_wp2
              go_roundg k3
              case measure => have := HK1.out; have := HK2.out; have := HK3.out; omega
              case rel => exact ⟨(x7_3), (wrap64 (x8_3 + 1)), (by first | rfl | (simp; done) | (simp [*]; done)), (by first | rfl | (simp; done) | (simp [*]; done)), H', ⟨by have := HK1.out; have := HK2.out; have := HK3.out; omega⟩, ⟨by (with_reducible repeat (first | apply Kd.QaN | apply Kd.QaQ | apply Kd.QaO)); exact HO_4.out⟩, ⟨by (with_reducible repeat (first | apply Kd.QaN | apply Kd.QaQ | apply Kd.QaO)); exact HO_6.out⟩, ⟨bw_⟩⟩
            ·rw [if_neg c15] at H; exact absurd H (by simp)
           ·rw [if_neg c14] at H; exact absurd H (by simp)
          ·rw [if_neg c13] at H; exact absurd H (by simp)
         ·rw [if_neg c12] at H; have c12b0 : decide (x8_3 < (x4_2.length : Int)) = false := decide_eq_false c12; clear c12
          by_cases c22 : 0 ≤ x7_3
          ·rw [if_pos c22] at H; have c22b0 : decide (0 ≤ x7_3) = true := decide_eq_true c22; clear c22
           by_cases c23 : x7_3 < (x4_2.length : Int)
           ·rw [if_pos c23] at H; have c23b0 : decide (x7_3 < (x4_2.length : Int)) = true := decide_eq_true c23; clear c23
            by_cases c24 : x6_2.length < 2932031007402
            ·rw [if_pos c24] at H; have LMc24 := Qaa.mk c24; clear c24
             obtain ⟨y111, hy111⟩ : ∃ y_ : List (S62), y_ = (x6_2 ++ [(⟨(⟨(Qah x4_2 x7_3).f0.f0, (Qah x4_2 x7_3).f0.f1⟩ : S33), (Qah x4_2 x7_3).f1⟩ : S62)]) := ⟨_, rfl⟩
             replace H : (if x7_3 ≤ (x4_2.length : Int) then ((some (x4_2.take (x7_3 : Int).toNat : List (S62))).bind fun y114 => (if ([] : List (S62)).length + y114.length < 2932031007402 then ((some (([] : List (S62)) ++ y114 : List (S62))).bind fun y118 => (if 0 ≤ (wrap64 (x7_3 + 1)) then (if (wrap64 (x7_3 + 1)) ≤ (x4_2.length : Int) then ((some (x4_2.drop ((wrap64 (x7_3 + 1)) : Int).toNat : List (S62))).bind fun y121 => (if y118.length + y121.length < 2932031007402 then (Qaf.l1 k3 (y118 ++ y121) y111) else (none))) else (none)) else (none))) else (none))) else (none)) = some r := by first | (rw [hy111]; with_reducible exact H) | (have H2_ := (Option.bind_some _ _).symm.trans H; rw [hy111]; with_reducible exact H2_) | (have H2_ := (Option.bind_some _ _).symm.trans H; with_reducible exact H2_) | with_reducible exact H | (rw [hy111]; exact H) | exact H
             have Ny111 := Qaa.mk hy111; clear hy111; have c25b0 := eq_true (dd_ : 0 ≤ x7_3)
             by_cases c26 : x7_3 ≤ (x4_2.length : Int)
             ·rw [if_pos c26] at H; have c26b0 := eq_true c26; have c26b1 : decide (x7_3 ≤ (x4_2.length : Int)) = true := decide_eq_true c26; clear c26
              obtain ⟨y114, hy114⟩ : ∃ y_ : List (S62), y_ = (x4_2.take (x7_3 : Int).toNat) := ⟨_, rfl⟩
              replace H : (if ([] : List (S62)).length + y114.length < 2932031007402 then ((some (([] : List (S62)) ++ y114 : List (S62))).bind fun y118 => (if 0 ≤ (wrap64 (x7_3 + 1)) then (if (wrap64 (x7_3 + 1)) ≤ (x4_2.length : Int) then ((some (x4_2.drop ((wrap64 (x7_3 + 1)) : Int).toNat : List (S62))).bind fun y121 => (if y118.length + y121.length < 2932031007402 then (Qaf.l1 k3 (y118 ++ y121) y111) else (none))) else (none)) else (none))) else (none)) = some r := by first | (rw [hy114]; with_reducible exact H) | (have H2_ := (Option.bind_some _ _).symm.trans H; rw [hy114]; with_reducible exact H2_) | (have H2_ := (Option.bind_some _ _).symm.trans H; with_reducible exact H2_) | with_reducible exact H | (rw [hy114]; exact H) | exact H
              have Ny114 := Qaa.mk hy114; clear hy114
              by_cases c27 : ([] : List (S62)).length + y114.length < 2932031007402
              ·rw [if_pos c27] at H; have LMc27 := Qaa.mk c27; clear c27
               obtain ⟨y118, hy118⟩ : ∃ y_ : List (S62), y_ = (([] : List (S62)) ++ y114) := ⟨_, rfl⟩
               replace H : (if 0 ≤ (wrap64 (x7_3 + 1)) then (if (wrap64 (x7_3 + 1)) ≤ (x4_2.length : Int) then ((some (x4_2.drop ((wrap64 (x7_3 + 1)) : Int).toNat : List (S62))).bind fun y121 => (if y118.length + y121.length < 2932031007402 then (Qaf.l1 k3 (y118 ++ y121) y111) else (none))) else (none)) else (none)) = some r := by first | (rw [hy118]; with_reducible exact H) | (have H2_ := (Option.bind_some _ _).symm.trans H; rw [hy118]; with_reducible exact H2_) | (have H2_ := (Option.bind_some _ _).symm.trans H; with_reducible exact H2_) | with_reducible exact H | (rw [hy118]; exact H) | exact H
               have Ny118 := Qaa.mk hy118; clear hy118
               obtain ⟨ji28, hji28⟩ : ∃ j_ : Int, (wrap64 (x7_3 + 1)) = j_ := ⟨_, rfl⟩
               replace H : (if 0 ≤ (ji28) then (if (ji28) ≤ (x4_2.length : Int) then ((some (x4_2.drop ((ji28) : Int).toNat : List (S62))).bind fun y121 => (if y118.length + y121.length < 2932031007402 then (Qaf.l1 k3 (y118 ++ y121) y111) else (none))) else (none)) else (none)) = some r := by first | (rw [hji28] at H; exact H) | (simp only [hji28] at H ⊢; exact H)
               have hji28w : (IntKind.i64.wrap (x7_3 + 1)) = ji28 := (Qbe _).trans hji28
               by_cases c29 : 0 ≤ (ji28)
               ·rw [if_pos c29] at H; have c29b0 := eq_true c29; have c29b1 : decide (0 ≤ (ji28)) = true := decide_eq_true c29; clear c29
                by_cases c30 : (ji28) ≤ (x4_2.length : Int)
                ·rw [if_pos c30] at H; have c30b0 := eq_true c30; have c30b1 : decide ((ji28) ≤ (x4_2.length : Int)) = true := decide_eq_true c30; clear c30
                 obtain ⟨y121, hy121⟩ : ∃ y_ : List (S62), y_ = (x4_2.drop ((ji28) : Int).toNat) := ⟨_, rfl⟩
                 replace H : (if y118.length + y121.length < 2932031007402 then (Qaf.l1 k3 (y118 ++ y121) y111) else (none)) = some r := by first | (rw [hy121]; with_reducible exact H) | (have H2_ := (Option.bind_some _ _).symm.trans H; rw [hy121]; with_reducible exact H2_) | (have H2_ := (Option.bind_some _ _).symm.trans H; with_reducible exact H2_) | with_reducible exact H | (rw [hy121]; exact H) | exact H
                 have Ny121 := Qaa.mk hy121; clear hy121
                 by_cases c31 : y118.length + y121.length < 2932031007402
                 ·rw [if_pos c31] at H; have LMc31 := Qaa.mk c31; clear c31
                  obtain ⟨y125, hy125⟩ : ∃ y_ : List (S62), y_ = (y118 ++ y121) := ⟨_, rfl⟩
                  replace H : (Qaf.l1 k3 y125 y111) = some r := by first | (rw [hy125]; with_reducible exact H) | (have H2_ := (Option.bind_some _ _).symm.trans H; rw [hy125]; with_reducible exact H2_) | (have H2_ := (Option.bind_some _ _).symm.trans H; with_reducible exact H2_) | with_reducible exact H | (rw [hy125]; exact H) | exact H
                  have Ny125 := Qaa.mk hy125; clear hy125; have H' := Qaa.mk H; clear H; have p110 : 0 ≤ (x7_3 : Int) := dd_; have q110 : x7_3 < (x4_2.length : Int) := dd_; obtain ⟨ad110, e110, hx110_0, hx110_1, hx110_2⟩ := QbL (Kd.QaW HO_4.out).2.2 x7_3 p110 q110; cases e110; replace p110 := eq_true p110; replace q110 := eq_true q110
                  go_wp2_with (first | ((with_reducible refine QaY (b := .append) (xs := #[.tmp 40, .tmp 45]) rfl ?_); at_builtin; refine Kd.QbG k62 (w0 := w) w.heap.size rfl (.tmp 40) (.tmp 45) 59 62 (.agg #[(.string ⟨#[]⟩), (.string ⟨#[]⟩), (.string ⟨#[]⟩)]) 48 rfl Tryz.underlying59 info62 rfl (by decide) (by omega) u6 x6_2 (⟨(⟨(Qah x4_2 x7_3).f0.f0, (Qah x4_2 x7_3).f0.f1⟩ : S33), (Qah x4_2 x7_3).f1⟩ : S62) [.string ((Qah x4_2 x7_3).f0.f0), .string ((Qah x4_2 x7_3).f0.f1), .string ((Qah x4_2 x7_3).f1)] (fun k_ => some k_ ≠ (.slice (some ad110) x4_2.length co11 : Value).ownBlock) (fun _ => False) rfl rfl ?aP (fun _ hk => hk.elim) ?aF ?aO ?aB ?aS ?aL ?_; (case aP => exact k62_mkM _ _ _ (⟨(⟨(Qah x4_2 x7_3).f0.f0, (Qah x4_2 x7_3).f0.f1⟩ : S33), (Qah x4_2 x7_3).f1⟩ : S62)); (case aB => exact bw_); (case aF => exact (fun k_ hk => Kd.fresh' (Kd.R_lt (ro_ HO_4)) k_ hk)); (case aO => exact (ro_ HO_6)); (case aS => exact (QaI bw_)); (case aL => have := LMc24.out; omega); intro v112 w32 ho hb hg hat; rw [← Ny111.out] at ho; have n0_ := Qaa.mk (Kd.R_after (ok := (fun _ => True)) (by (with_reducible repeat (first | apply Kd.QaN | apply Kd.QaQ | apply Kd.QaO)); exact Kd.Qbf HO_4.out (fun _ hk => ⟨trivial, hk⟩)) hg hat); have n1_ := Qaa.mk (hb); have n2_ := Qaa.mk (ho); clear HO_4; clear HB; clear HO_6; have HO_4 := n0_; have HB := n1_; have HO113 := n2_; clear n0_ n1_ n2_; clear ho hb hg hat; have q33 : (x7_3 : Int) ≤ ((x4_2.length : Int) : Int) := dd_; obtain ⟨i033, hi033, _, hsz33, _⟩ := info_parts info62; have hroom33 : x4_2.length ≤ co11 := (Kd.QaW HO_4.out).2.1; have hC33 : Kd.C k62 _ (some ad110) x4_2.length x4_2 := (Kd.QaW HO_4.out).2.2; have hcut33 := cut_to (P := Tryz.prog) 59 62 .i64 Tryz.underlying59 hi033 (some ad110) x4_2.length co11 x7_3 (dd_) q33 hroom33; have hr33 := Kd.C_take (m := (x7_3 : Int).toNat) hC33 (by omega); have hy33 : y114.length = (x7_3 : Int).toNat := (by rw [Ny114.out, List.length_take]; omega); rw [← Ny114.out] at hr33; rw [← hy33] at hcut33; have HR117 := Qaa.mk hr33; have HC117 := Qaa.mk (show y114.length ≤ co11 from by omega); clear hr33 hC33 hroom33 hi033 hsz33; have KY33 := Qaa.mk hy33; clear hy33; have KL33 := Qaa.mk (show (x7_3 : Int).toNat ≤ x4_2.length from by omega); replace q33 := eq_true q33) | ((with_reducible refine QaY (b := .append) (xs := #[.tmp 47, .tmp 50]) rfl ?_); at_builtin; refine Kd.QbN k62 (w0 := w) w.heap.size rfl (.tmp 47) (.tmp 50) 59 62 (.agg #[(.string ⟨#[]⟩), (.string ⟨#[]⟩), (.string ⟨#[]⟩)]) 48 rfl Tryz.underlying59 info62 rfl (by decide) (by omega) (.slice none 0 0) ([] : List (S62)) y114 _ _ _ (fun k_ => some k_ ≠ (.slice (some ad110) x4_2.length co11 : Value).ownBlock ∧ some k_ ≠ (v112 : Value).ownBlock) (fun _ => False) rfl rfl ?aO ?aR (fun _ _ h => h) (fun _ h => h.elim) ?aF ?aB ?aS ?aL ?_; (case aR => repeat (first | exact (by repeat (first | (with_reducible exact HR117.out) | (with_reducible refine Kd.C_alloc ?_ _) | (with_reducible refine Kd.C_drewN ?_ _) | (with_reducible refine Kd.C_drew ?_) | exact HR117.out)) | (with_reducible refine Kd.C_alloc ?_ _) | (with_reducible refine Kd.C_drewN ?_ _) | (with_reducible refine Kd.C_drew ?_))); (case aB => exact bw_); (case aF => exact (fun k_ hk => ⟨Kd.fresh' (Kd.R_lt (ro_ HO_4)) k_ hk, Kd.fresh' (Kd.R_lt (ro_ HO113)) k_ hk⟩)); (case aO => exact ((Kd.R_nil _ _ _ _ (fun k_ => some k_ ≠ (.slice (some ad110) x4_2.length co11 : Value).ownBlock ∧ some k_ ≠ (v112 : Value).ownBlock)))); (case aS => exact (QaI bw_)); (case aL => have := LMc27.out; omega); intro v119 w34 ho hb hg hat; rw [← Ny118.out] at ho; have n0_ := Qaa.mk (Kd.R_after (Kd.R_apart_nil (ro_ HO_4)) hg hat); have n1_ := Qaa.mk (Kd.R_after (Kd.R_apart_nil (ro_ HO113)) hg hat); have n2_ := Qaa.mk (hb); have n3_ := Qaa.mk ((show Kd.C k62 w34 (some ad110) y114.length y114 from by rw [Ny114.out]; exact Kd.C_take (m := (x7_3 : Int).toNat) ((Kd.QaW (Kd.R_after (Kd.R_apart_nil (ro_ HO_4)) hg hat)).2.2) KL33.out)); have n4_ := Qaa.mk (ho); clear HO_4; clear HO113; clear HB; clear HR117; have HO_4 := n0_; have HO113 := n1_; have HB := n2_; have HR117 := n3_; have HO120 := n4_; clear n0_ n1_ n2_ n3_ n4_; clear ho hb hg hat; have q35 : ((ji28) : Int) ≤ ((x4_2.length : Int) : Int) := dd_; obtain ⟨i035, hi035, _, hsz35, _⟩ := info_parts info62; have hroom35 : x4_2.length ≤ co11 := (Kd.QaW HO_4.out).2.1; have hC35 : Kd.C k62 _ (some ad110) x4_2.length x4_2 := (Kd.QaW HO_4.out).2.2; have q035 : (0 : Int) ≤ ((ji28) : Int) := dd_; have hcut35 := cut_from (P := Tryz.prog) 59 62 .i64 Tryz.underlying59 hi035 3 hsz35 (some ad110) x4_2.length co11 (ji28) q035 q35; have hr35 := Kd.C_drop (m := ((ji28) : Int).toNat) (c := co11) hC35 (by omega) hroom35; obtain ⟨A35, hA35⟩ : ∃ A1, A1 = (if co11 = ((ji28) : Int).toNat then (some ad110) else ((some ad110) : Option Addr).map (·.add (((ji28) : Int).toNat * 3))) := ⟨_, rfl⟩; obtain ⟨c35, hc35⟩ : ∃ c1, c1 = co11 - ((ji28) : Int).toNat := ⟨_, rfl⟩; have hy35 : y121.length = x4_2.length - ((ji28) : Int).toNat := (by rw [Ny121.out, List.length_drop] <;> omega); rw [show (x4_2).drop ((ji28) : Int).toNat = y121 from Ny121.out.symm] at hr35; replace hr35 : Kd.C k62 _ A35 y121.length y121 := (by rw [hA35]; exact hr35); rw [← hy35, ← hA35, ← hc35] at hcut35; have HR124 := Qaa.mk hr35; have HC124 := Qaa.mk (show y121.length ≤ c35 from by rw [hy35, hc35]; exact Nat.sub_le_sub_right hroom35 _); clear hr35 hC35 hroom35 hi035 hsz35 hc35; have KY35 := Qaa.mk hy35; have KA35 := Qaa.mk hA35; clear hy35 hA35; have KL35 := Qaa.mk (show ((ji28) : Int).toNat ≤ x4_2.length from by omega); replace q35 := eq_true q35) | ((with_reducible refine QaY (b := .append) (xs := #[.tmp 52, .tmp 56]) rfl ?_); at_builtin; refine Kd.QbN k62 (w0 := w) w.heap.size rfl (.tmp 52) (.tmp 56) 59 62 (.agg #[(.string ⟨#[]⟩), (.string ⟨#[]⟩), (.string ⟨#[]⟩)]) 48 rfl Tryz.underlying59 info62 rfl (by decide) (by omega) v119 y118 y121 _ _ _ (fun k_ => some k_ ≠ (.slice (some ad110) x4_2.length co11 : Value).ownBlock ∧ some k_ ≠ (v112 : Value).ownBlock) (fun _ => False) rfl rfl ?aO ?aR (fun _ _ h => h) (fun _ h => h.elim) ?aF ?aB ?aS ?aL ?_; (case aR => repeat (first | exact (by repeat (first | (with_reducible exact HR124.out) | (with_reducible refine Kd.C_alloc ?_ _) | (with_reducible refine Kd.C_drewN ?_ _) | (with_reducible refine Kd.C_drew ?_) | exact HR124.out)) | (with_reducible refine Kd.C_alloc ?_ _) | (with_reducible refine Kd.C_drewN ?_ _) | (with_reducible refine Kd.C_drew ?_))); (case aB => exact bw_); (case aF => exact (fun k_ hk => ⟨Kd.fresh' (Kd.R_lt (ro_ HO_4)) k_ hk, Kd.fresh' (Kd.R_lt (ro_ HO113)) k_ hk⟩)); (case aO => exact (ro_ HO120)); (case aS => exact (QaI bw_)); (case aL => have := LMc31.out; omega); intro v126 w36 ho hb hg hat; rw [← Ny125.out] at ho; have n0_ := Qaa.mk (Kd.R_after (ok := (fun k_ => some k_ ≠ (v112 : Value).ownBlock)) (by (with_reducible repeat (first | apply Kd.QaN | apply Kd.QaQ | apply Kd.QaO)); exact Kd.Qbf HO_4.out (fun _ hk => ⟨hk.1.2, hk.2⟩)) hg hat); have n1_ := Qaa.mk (Kd.R_after (ok := (fun k_ => some k_ ≠ (.slice (some ad110) x4_2.length co11 : Value).ownBlock)) (ro_ HO113) hg hat); have n2_ := Qaa.mk (hb); have n3_ := Qaa.mk ((show Kd.C k62 w36 (some ad110) y114.length y114 from by rw [Ny114.out]; exact Kd.C_take (m := (x7_3 : Int).toNat) ((Kd.QaW (Kd.R_after (ok := (fun k_ => some k_ ≠ (v112 : Value).ownBlock)) (by (with_reducible repeat (first | apply Kd.QaN | apply Kd.QaQ | apply Kd.QaO)); exact Kd.Qbf HO_4.out (fun _ hk => ⟨hk.1.2, hk.2⟩)) hg hat)).2.2) KL33.out)); have n4_ := Qaa.mk ((show Kd.C k62 w36 A35 y121.length y121 from by rw [Ny121.out, KA35.out]; exact Kd.C_drop (m := ((ji28) : Int).toNat) (c := co11) ((Kd.QaW (Kd.R_after (ok := (fun k_ => some k_ ≠ (v112 : Value).ownBlock)) (by (with_reducible repeat (first | apply Kd.QaN | apply Kd.QaQ | apply Kd.QaO)); exact Kd.Qbf HO_4.out (fun _ hk => ⟨hk.1.2, hk.2⟩)) hg hat)).2.2) KL35.out ((Kd.QaW (Kd.R_after (ok := (fun k_ => some k_ ≠ (v112 : Value).ownBlock)) (by (with_reducible repeat (first | apply Kd.QaN | apply Kd.QaQ | apply Kd.QaO)); exact Kd.Qbf HO_4.out (fun _ hk => ⟨hk.1.2, hk.2⟩)) hg hat)).2.1))); have n5_ := Qaa.mk (ho); clear HO_4; clear HO113; clear HB; clear HR117; clear HR124; clear HO120; have HO_4 := n0_; have HO113 := n1_; have HB := n2_; have HR117 := n3_; have HR124 := n4_; have HO127 := n5_; clear n0_ n1_ n2_ n3_ n4_ n5_; clear ho hb hg hat))
                  go_roundg k3
                  case measure => have := HK1.out; have := HK2.out; have := HK3.out; omega
                  case rel => exact ⟨(y125), (y111), H', ⟨by have := HK1.out; have := HK2.out; have := HK3.out; omega⟩, ⟨by (with_reducible repeat (first | apply Kd.QaN | apply Kd.QaQ | apply Kd.QaO)); exact Kd.Qbf HO127.out (fun _ hk => hk.2)⟩, ⟨by (with_reducible repeat (first | apply Kd.QaN | apply Kd.QaQ | apply Kd.QaO)); exact Kd.Qbf HO113.out (fun _ hk => hk.2)⟩, ⟨bw_⟩⟩
                 ·rw [if_neg c31] at H; exact absurd H (by simp)
                ·rw [if_neg c30] at H; exact absurd H (by simp)
               ·rw [if_neg c29] at H; exact absurd H (by simp)
              ·rw [if_neg c27] at H; exact absurd H (by simp)
             ·rw [if_neg c26] at H; exact absurd H (by simp)
            ·rw [if_neg c24] at H; exact absurd H (by simp)
           ·rw [if_neg c23] at H; exact absurd H (by simp)
          ·rw [if_neg c22] at H; exact absurd H (by simp)
      ·rw [if_neg c10] at H; have c10b0 : decide (0 < (x4_2.length : Int)) = false := decide_eq_false c10; have c10b1 : decide (0 < x4_2.length) = false := decide_eq_false (by omega); clear c10; obtain rfl := Option.some.inj H; obtain ⟨Ao37, co37, eo37⟩ := Kd.Qbd HO_4.out; subst eo37; go_wp2; go_ret; exact ⟨_, by first | rfl | (simp [Qap, Qao] <;> rfl) | (simp [*, Qap, Qao] <;> rfl), by (with_reducible repeat (first | apply Kd.QaN | apply Kd.QaQ | apply Kd.QaO)); exact Kd.Qbf HO_6.out (fun _ hk => trivial), bw_⟩
   ·rw [if_neg c5] at H; have c5b0 : ((t104.length : Int) == (x4_1.length : Int)) = false := beq_eq_false_iff_ne.mpr c5; have c5b1 : ((t104.length : Int) != (x4_1.length : Int)) = true := bne_iff_ne.mpr c5
    have c5b2 : (t104.length == x4_1.length) = false := by first | simpa using c5 | (simp at c5 ⊢; omega)
    have H' := Qaa.mk H; clear H; obtain ⟨Ao38, co38, eo38⟩ := Kd.Qbd HO_3.out; subst eo38; obtain ⟨Ao39, co39, eo39⟩ := Kd.Qbd HO_4.out; subst eo39
    go_wp2_with (first | ((with_reducible refine QaT (f := 31) rfl ?_); refine gL 14 Tryz.func31 #[.slice Ao38 t101.length co38, .slice Ao39 x4_1.length co39] ?_; (with_reducible refine (Qar.calls k1 _ _ t101 _ _ x4_1 t104 _ ?side1 ?side2 ?side3 ?side4 A4.out).mono ?_); (case side1 => exact kd_ ((Kd.QaW HO_3.out).2.2)); (case side2 => exact (Kd.QaW HO_3.out).2.1); (case side3 => exact kd_ ((Kd.QaW HO_4.out).2.2)); (case side4 => exact (Kd.QaW HO_4.out).2.1); rintro e w40 ⟨v105, rfl, ho0, hb⟩; refine ⟨_, rfl, ?_⟩; have HO106 := Qaa.mk (Kd.QbW (Kd.R_new' ho0 (Kd.R_lt (ro_ HO_4))) (QaI bw_)); replace HO_3 := Qaa.mk (Kd.Qa3 (ro_ HO_3) hb); replace HO_4 := Qaa.mk (Kd.R_elder' (ro_ HO_4) (Kd.R_base ho0) hb); replace HB := Qaa.mk (Qac bw_ hb); (try clear hb); (try clear hb2); (try clear hk); (try clear hi); (try clear ho0); obtain ⟨Ao41, co41, eo41⟩ := Kd.Qbd HO106.out; subst eo41))
    go_roundg k1
    case measure => have := HK1.out; omega
    case rel => exact ⟨(t104), H', ⟨by have := HK1.out; omega⟩, ⟨by (with_reducible repeat (first | apply Kd.QaN | apply Kd.QaQ | apply Kd.QaO)); exact HO_3.out⟩, ⟨by (with_reducible repeat (first | apply Kd.QaN | apply Kd.QaQ | apply Kd.QaO)); exact Kd.Qbf HO106.out (fun _ hk => trivial)⟩, ⟨bw_⟩⟩

def QbM.f (k : Nat) (l0 : List (S35)) (a1 : ByteArray) (a2_0 : ByteArray) (a2_1 : ByteArray) : Option (Bool) := (Qaf.f k l0).bind fun t102 => ((Qay.f k t102 a2_0 a2_1 a1).bind fun t105 => (some t105))
set_option maxHeartbeats 8000000 in
set_option maxRecDepth 100000 in
theorem QbM.calls (k : Nat) (A0 : Option Addr) (c0 : Nat) (l0 : List (S35)) (a1 : ByteArray) (a2_0 : ByteArray) (a2_1 : ByteArray) (r : Bool) (w : World) (hr0 : Kd.C k35 w A0 l0.length l0) (hc0 : l0.length ≤ c0) (h : QbM.f k l0 a1 a2_0 a2_1 = some r) :
  Calls Tryz.prog 9 #[.slice A0 l0.length c0, .string a1, .agg #[.string a2_0, .string a2_1]] w fun e w' => e = .returned (.bool r) ∧ Below w.heap.size w w' := by
 have hu33 := Tryz.underlying33; have hu62 := Tryz.underlying62; have HR0 := Qaa.mk hr0; have HC0 := Qaa.mk hc0; clear hr0 hc0; have HB := Qaa.mk (Below.refl w.heap.size w); have H : ((Qaf.f k l0).bind fun t102 => ((Qay.f k t102 a2_0 a2_1 a1).bind fun t105 => (some t105))) = some r := h; clear h; replace H := Option.bind_eq_some_iff.mp H; obtain ⟨t102, A40, H⟩ := H; replace H : ((Qay.f k t102 a2_0 a2_1 a1).bind fun t105 => (some t105)) = some r := H; have A4 := Qaa.mk A40; clear A40; replace H := Option.bind_eq_some_iff.mp H; obtain ⟨t105, A50, H⟩ := H; replace H : (some t105) = some r := H; have A5 := Qaa.mk A50; clear A50; obtain rfl := Option.some.inj H; go_enter Tryz.func9, Tryz.ntmps9
 try go_wp2_with (first | ((with_reducible refine QaA (N := 5) rfl ?_); refine Qax ?hg (N := 5) ?hd (cs := #[.string a2_0, .string a2_1]) (t := 33) ?hr ?_; (case hd => rfl); (case hg => rfl); (case hr => first | (go_simp; done) | (go_simp; rfl)); intro gb101 hg w6 hbox hb; have BK101 := Qaa.mk (hbox); have GW101 := (gz_ hg : Qaa (w.heap.size ≤ gb101)); have GE101 := (gz_ hg : Qaa (w.heap.size ≤ gb101)); replace HB := Qaa.mk (Qac bw_ hb); clear hb hbox hg))
 replace BK101 := Qaa.mk (Qan BK101.out); replace HB := Qaa.mk (Qau HB.out); refine Qbo (n := 7) (S := fun w' => cgl_ss w' gb101 a2_0 a2_1) (ds := []) #[ff,ff,ff,ff,ff,ff,ff] (by kernel_rfl) rfl rfl (cl_2 BK101.out) (fun hHeld => ?_)
 generalize w6.drew = w7 at BK101 HB hHeld ⊢
 refine kz 0 7 ?_; refine kz 3 10 ?_; refine kk2 2 9 ?_; refine kz 4 11 ?_; refine one_ (i := 1) (N := some 8) #[tt,tt,tt,tt,tt,ff,ff] rfl rfl (by kernel_rfl) (by decide) (fun K hK => ?_); refine goes_ Tryz.func14 (by kernel_rfl) rfl #[.slice A0 l0.length c0] (by rfl) rfl rfl (by (try simp only [List.map_toArray, List.map_cons, List.map_nil]); first | done | rfl | (simp only [List.length_drop, List.length_take]; rfl)) ?_
 with_reducible refine (Qaf.calls k _ _ l0 t102 _ ?side1 ?side2 A4.out).mono ?_
 (case side1 => exact kd_ (Kd.Qa8 HR0.out HB.out))
 (case side2 => exact HC0.out)
 rintro e w8 ⟨v103, rfl, ho0, hb⟩; refine ⟨_, rfl, ?_⟩; have HO104 := Qaa.mk (Kd.QbW ho0 (QaI bw_)); replace BK101 := Qaa.mk (Qad (g := gb101) bk_ hb); replace HB := Qaa.mk (Qac bw_ hb)
 (try clear hb)
 (try clear hb2)
 (try clear hk)
 (try clear hi)
 (try clear ho0)
 obtain ⟨Ao9, co9, eo9⟩ := Kd.Qbd HO104.out
 (first | subst eo9 | (injection eo9 with f1_ f2_ f3_; have f4_ := f1_.symm; have f5_ := f3_.symm; clear f1_ f2_ f3_; subst f4_; subst f5_))
 refine hK.out _ _ (cl_2 BK101.out) (fun hHeld => ?_); clear hK K; refine norm_ (a' := ?_) ?_ ?_; rotate_left
 ·show Act.put _ (some 8) _ = _
  simp only [Act.put, put_, Qbe, Qbh]; rfl
 refine one_ (i := 5) (N := some 12) #[tt,tt,tt,tt,tt,tt,ff] rfl rfl (by kernel_rfl) (by decide) (fun K hK => ?_); refine goes_ Tryz.func13 (by kernel_rfl) rfl #[.slice Ao9 t102.length co9, .agg #[.string a2_0, .string a2_1, .string a1]] (by rfl) rfl rfl (by (try simp only [List.map_toArray, List.map_cons, List.map_nil]); first | done | rfl | (simp only [List.length_drop, List.length_take]; rfl)) ?_
 with_reducible refine (Qay.calls k _ _ t102 a2_0 a2_1 a1 t105 _ ?side1 ?side2 A5.out).mono ?_
 (case side1 => exact kd_ ((Kd.QaW HO104.out).2.2))
 (case side2 => exact (Kd.QaW HO104.out).2.1)
 rintro e w10 ⟨rfl, hb⟩; refine ⟨_, rfl, ?_⟩; replace HO104 := Qaa.mk (Kd.Qa3 (ro_ HO104) hb); replace BK101 := Qaa.mk (Qad (g := gb101) bk_ hb); replace HB := Qaa.mk (Qac bw_ hb)
 (try clear hb)
 (try clear hb2)
 (try clear hk)
 (try clear hi)
 refine hK.out _ _ (cl_2 BK101.out) (fun hHeld => ?_); clear hK K; refine norm_ (a' := ?_) ?_ ?_; rotate_left
 ·show Act.put _ (some 12) _ = _
  simp only [Act.put, put_, Qbe, Qbh]; rfl
 refine kz 6 6 ?_; refine QbS (by kernel_rfl) ?_
 try go_wp2
 go_ret; exact ⟨by first | rfl | (simp [Qap, Qao] <;> rfl) | (simp [*, Qap, Qao] <;> rfl), bw_⟩


end
theorem toList_iff (x y : ByteArray) : x.toList = y.toList ↔ x = y := by
  rw [← Lib.bytes_beq_iff, beq_iff_eq]
theorem domName_ne {n : Int} (h : 1 ≤ n) (h' : n ≤ 16) : domName n ≠ ⟨#[]⟩ := by
  have : n = 1 ∨ n = 2 ∨ n = 3 ∨ n = 4 ∨ n = 5 ∨ n = 6 ∨ n = 7 ∨ n = 8 ∨ n = 9 ∨ n = 10 ∨ n = 11 ∨ n = 12 ∨ n = 13 ∨ n = 14 ∨ n = 15 ∨ n = 16 := by omega
  rcases this with rfl | rfl | rfl | rfl | rfl | rfl | rfl | rfl | rfl | rfl | rfl | rfl | rfl | rfl | rfl | rfl <;> decide
def numFrom (s : ByteArray) : Nat → Int → Int
  | 0, _ => 0
  | k + 1, n => if n ≤ 16 then (if domName n = s then n else numFrom s k (n + 1)) else 0
def numName (s : ByteArray) : Int := numFrom s 17 1
theorem number_from (s : ByteArray) : ∀ (k : Nat) (n : Int), 1 ≤ n → n ≤ 17 → 17 - n < k → QaX.l0 k s n = some (numFrom s k n)
  | 0, n, _, _, h => by omega
  | k + 1, n, h0, h1, h2 => by
    rw [QaX.l0, numFrom]
    by_cases c : n ≤ 16
    · rw [if_pos c, if_pos c]
      show (Option.bind (some (domName n)) _) = _
      rw [Option.bind_some]
      by_cases e : domName n = s
      · rw [if_pos ((toList_iff _ _).mpr e), if_pos e]
      · rw [if_neg (fun h => e ((toList_iff _ _).mp h)), if_neg e]
        have hw : wrap64 (n + 1) = n + 1 := by unfold wrap64; omega
        rw [hw]; exact number_from s k (n + 1) (by omega) (by omega) (by omega)
    · rw [if_neg c, if_neg c]
theorem numFrom_more (s : ByteArray) : ∀ (k : Nat) (n : Int), 17 - n < k → numFrom s (k + 1) n = numFrom s k n
  | 0, n, h => by
    rw [numFrom, numFrom, if_neg (by omega)]
  | k + 1, n, h => by
    rw [numFrom]
    conv => rhs; rw [numFrom]
    by_cases c : n ≤ 16
    · rw [if_pos c, if_pos c]
      by_cases e : domName n = s
      · rw [if_pos e, if_pos e]
      · rw [if_neg e, if_neg e]
        exact numFrom_more s k (n + 1) (by omega)
    · rw [if_neg c, if_neg c]
theorem number_is (s : ByteArray) : ∀ k, 17 ≤ k → QaX.f k s = some (numName s) := by
  intro k hk; unfold QaX.f; rw [number_from s k 1 (by omega) (by omega) (by omega)]
  congr 1
  unfold numName; obtain ⟨j, rfl⟩ := Nat.le.dest hk; clear hk
  induction j with
  | zero => rfl
  | succ j ih => rw [← ih]; exact numFrom_more s (17 + j) 1 (by omega)
theorem numFrom_spec (s : ByteArray) : ∀ (k : Nat) (n : Int), 17 - n ≤ k → (∃ m, n ≤ m ∧ m ≤ 16 ∧ domName m = s ∧ numFrom s k n = m) ∨ ((∀ m, n ≤ m → m ≤ 16 → domName m ≠ s) ∧ numFrom s k n = 0)
  | 0, n, h => .inr ⟨fun m _ _ => by omega, rfl⟩
  | k + 1, n, h => by
    rw [numFrom]
    by_cases c : n ≤ 16
    · rw [if_pos c]
      by_cases e : domName n = s
      · rw [if_pos e]
        exact .inl ⟨n, by omega, c, e, rfl⟩
      · rw [if_neg e]
        rcases numFrom_spec s k (n + 1) (by omega) with ⟨m, h1, h2, h3, h4⟩ | ⟨h1, h2⟩
        · exact .inl ⟨m, by omega, h2, h3, h4⟩
        · refine .inr ⟨fun m hm hm' => ?_, h2⟩
          by_cases e2 : m = n
          · rw [e2]; exact e
          · exact h1 m (by omega) hm'
    · rw [if_neg c]
      exact .inr ⟨fun m _ _ => by omega, rfl⟩
theorem numName_spec (s : ByteArray) : (∃ m, 1 ≤ m ∧ m ≤ 16 ∧ domName m = s ∧ numName s = m) ∨ ((∀ m, 1 ≤ m → m ≤ 16 → domName m ≠ s) ∧ numName s = 0) := numFrom_spec s 17 1 (by omega)
theorem refDomain_is (n : Int) (k : Nat) : QaG.f (k + 1) n = some (domName n) := by
  unfold QaG.f
  by_cases h0 : n < 1
  · rw [if_pos h0, domName_out n (.inl h0)]
    rfl
  · rw [if_neg h0]
    by_cases h1 : n > 16
    · rw [decide_eq_true h1, domName_out n (.inr h1)]
      rfl
    · rw [decide_eq_false h1]
      have : n = 1 ∨ n = 2 ∨ n = 3 ∨ n = 4 ∨ n = 5 ∨ n = 6 ∨ n = 7 ∨ n = 8 ∨ n = 9 ∨ n = 10 ∨ n = 11 ∨ n = 12 ∨ n = 13 ∨ n = 14 ∨ n = 15 ∨ n = 16 := by omega
      rcases this with rfl | rfl | rfl | rfl | rfl | rfl | rfl | rfl | rfl | rfl | rfl | rfl | rfl | rfl | rfl | rfl <;> (show _ = some _; kernel_rfl)
theorem bt_data (s : ByteArray) (i : Nat) (h : i < s.size) : bt s (i : Int) = ((s.data.getD i 0).toNat : Int) := by
  unfold bt; rw [dif_pos (by rw [Int.toNat_natCast]; exact h)]
  have : s.data.getD i 0 = s[i] := by
    rw [Array.getD, dif_pos (show i < s.data.size from h)]; rfl
  rw [this]; rfl
theorem size_two {s : ByteArray} (h : s.size = 2) (t : ByteArray) (ht : t.size = 2) (h0 : bt s 0 = bt t 0) (h1 : bt s 1 = bt t 1) : s = t := by
  apply ByteArray.ext
  apply Array.ext
  · exact h.trans ht.symm
  · intro i hi hi'
    have hs : i < 2 := by have : s.data.size = 2 := h; omega
    have e : bt s (i : Int) = bt t (i : Int) := by
      have : i = 0 ∨ i = 1 := by omega
      rcases this with rfl | rfl
      · exact h0
      · exact h1
    rw [bt_data s i (by omega), bt_data t i (by omega)] at e; rw [Array.getD, dif_pos hi, Array.getD, dif_pos hi'] at e; exact UInt8.toNat_inj.mp (by exact_mod_cast e)
theorem size_three {s : ByteArray} (h : s.size = 3) (t : ByteArray) (ht : t.size = 3) (h0 : bt s 0 = bt t 0) (h1 : bt s 1 = bt t 1) (h2 : bt s 2 = bt t 2) : s = t := by
  apply ByteArray.ext
  apply Array.ext
  · exact h.trans ht.symm
  · intro i hi hi'
    have hs : i < 3 := by have : s.data.size = 3 := h; omega
    have e : bt s (i : Int) = bt t (i : Int) := by
      have : i = 0 ∨ i = 1 ∨ i = 2 := by omega
      rcases this with rfl | rfl | rfl
      · exact h0
      · exact h1
      · exact h2
    rw [bt_data s i (by omega), bt_data t i (by omega)] at e; rw [Array.getD, dif_pos hi, Array.getD, dif_pos hi'] at e; exact UInt8.toNat_inj.mp (by exact_mod_cast e)
theorem refNumber_dom (m : Int) (h : 1 ≤ m) (h' : m ≤ 16) (k : Nat) : Qaj.f (k + 2) (domName m) = some m := by
  have : m = 1 ∨ m = 2 ∨ m = 3 ∨ m = 4 ∨ m = 5 ∨ m = 6 ∨ m = 7 ∨ m = 8 ∨ m = 9 ∨ m = 10 ∨ m = 11 ∨ m = 12 ∨ m = 13 ∨ m = 14 ∨ m = 15 ∨ m = 16 := by omega
  rcases this with rfl | rfl | rfl | rfl | rfl | rfl | rfl | rfl | rfl | rfl | rfl | rfl | rfl | rfl | rfl | rfl <;> (show _ = some _; kernel_rfl)
theorem refNumber_none (s : ByteArray) (hn : ∀ m, 1 ≤ m → m ≤ 16 → domName m ≠ s) (k : Nat) : Qaj.f (k + 2) s = some 0 := by
  have j0t : Qaj.j0 (k + 2) s true = some 0 := by rw [Qaj.j0, if_pos rfl]
  have j1t : ∀ x, Qaj.j1 (k + 1) s x true = some 0 := fun x => by rw [Qaj.j1, if_pos rfl]
  unfold Qaj.f
  by_cases c1 : (s.size : Int) < 2
  · rw [if_pos c1, j0t]
  · rw [if_neg c1]
    by_cases c2 : (s.size : Int) > 3
    · rw [if_pos c2, j0t]
    · rw [if_neg c2, if_pos (by omega)]
      by_cases c3 : bt s 0 = 100
      · rw [if_pos c3, if_pos (by omega)]
        by_cases c4 : bt s 1 < 49
        · rw [if_pos c4, j0t]
        · rw [if_neg c4]
          by_cases c5 : bt s 1 > 57
          · rw [decide_eq_true c5, j0t]
          · rw [decide_eq_false c5, Qaj.j0, if_neg (by decide), if_pos (by omega)]
            by_cases c6 : (s.size : Int) = 3
            · rw [if_pos c6, if_pos (by omega)]
              by_cases c7 : bt s 2 < 48
              · rw [if_pos c7, j1t]
              · rw [if_neg c7]
                by_cases c8 : bt s 2 > 57
                · rw [decide_eq_true c8, j1t]
                · rw [decide_eq_false c8, Qaj.j1, if_neg (by decide), if_pos (by omega)]
                  by_cases c9 : 10 * ((bt s 1 - 48) % 256) + (bt s 2 - 48) % 256 > 16
                  · rw [if_pos c9]
                  · exfalso
                    have e1 : bt s 1 = 49 := by omega
                    have hv : bt s 2 = 48 ∨ bt s 2 = 49 ∨ bt s 2 = 50 ∨ bt s 2 = 51 ∨ bt s 2 = 52 ∨ bt s 2 = 53 ∨ bt s 2 = 54 := by omega
                    rcases hv with e | e | e | e | e | e | e
                    · exact hn 10 (by omega) (by omega) (size_three (by omega) (domName 10) rfl (c3.trans rfl) (e1.trans rfl) (e.trans rfl)).symm
                    · exact hn 11 (by omega) (by omega) (size_three (by omega) (domName 11) rfl (c3.trans rfl) (e1.trans rfl) (e.trans rfl)).symm
                    · exact hn 12 (by omega) (by omega) (size_three (by omega) (domName 12) rfl (c3.trans rfl) (e1.trans rfl) (e.trans rfl)).symm
                    · exact hn 13 (by omega) (by omega) (size_three (by omega) (domName 13) rfl (c3.trans rfl) (e1.trans rfl) (e.trans rfl)).symm
                    · exact hn 14 (by omega) (by omega) (size_three (by omega) (domName 14) rfl (c3.trans rfl) (e1.trans rfl) (e.trans rfl)).symm
                    · exact hn 15 (by omega) (by omega) (size_three (by omega) (domName 15) rfl (c3.trans rfl) (e1.trans rfl) (e.trans rfl)).symm
                    · exact hn 16 (by omega) (by omega) (size_three (by omega) (domName 16) rfl (c3.trans rfl) (e1.trans rfl) (e.trans rfl)).symm
            · rw [if_neg c6, if_neg (by omega)]
              exfalso
              have hv : bt s 1 = 49 ∨ bt s 1 = 50 ∨ bt s 1 = 51 ∨ bt s 1 = 52 ∨ bt s 1 = 53 ∨ bt s 1 = 54 ∨ bt s 1 = 55 ∨ bt s 1 = 56 ∨ bt s 1 = 57 := by omega
              rcases hv with e | e | e | e | e | e | e | e | e
              · exact hn 1 (by omega) (by omega) (size_two (by omega) (domName 1) rfl (c3.trans rfl) (e.trans rfl)).symm
              · exact hn 2 (by omega) (by omega) (size_two (by omega) (domName 2) rfl (c3.trans rfl) (e.trans rfl)).symm
              · exact hn 3 (by omega) (by omega) (size_two (by omega) (domName 3) rfl (c3.trans rfl) (e.trans rfl)).symm
              · exact hn 4 (by omega) (by omega) (size_two (by omega) (domName 4) rfl (c3.trans rfl) (e.trans rfl)).symm
              · exact hn 5 (by omega) (by omega) (size_two (by omega) (domName 5) rfl (c3.trans rfl) (e.trans rfl)).symm
              · exact hn 6 (by omega) (by omega) (size_two (by omega) (domName 6) rfl (c3.trans rfl) (e.trans rfl)).symm
              · exact hn 7 (by omega) (by omega) (size_two (by omega) (domName 7) rfl (c3.trans rfl) (e.trans rfl)).symm
              · exact hn 8 (by omega) (by omega) (size_two (by omega) (domName 8) rfl (c3.trans rfl) (e.trans rfl)).symm
              · exact hn 9 (by omega) (by omega) (size_two (by omega) (domName 9) rfl (c3.trans rfl) (e.trans rfl)).symm
      · rw [if_neg c3, j0t]
theorem refNumber_is (s : ByteArray) (k : Nat) : Qaj.f (k + 2) s = some (numName s) := by
  rcases numName_spec s with ⟨m, h1, h2, h3, h4⟩ | ⟨h1, h2⟩
  · rw [h4, ← h3, refNumber_dom m h1 h2]
  · rw [h2, refNumber_none s h1]
theorem mayAt_bt {s : ByteArray} {i : Nat} (h : i < s.size) (hi : i ≠ 0) : mayAt i (s.data.getD i 0).toNat = true ↔ (97 ≤ bt s i ∧ bt s i ≤ 122) ∨ (48 ≤ bt s i ∧ bt s i ≤ 57) := by
  rw [bt_data s i h]; unfold mayAt; simp [hi]; omega
theorem refMay_loop (s : ByteArray) (h8 : s.size ≤ 8) : ∀ (k i : Nat), 1 ≤ i → i ≤ s.size → s.size - i < k → mayUpto s i = true → Qas.l0 k s (i : Int) = some (mayUpto s s.size)
  | 0, i, _, _, h, _ => by omega
  | k + 1, i, h1, h2, h3, hm => by
    rw [Qas.l0]
    by_cases c : (i : Int) < (s.size : Int)
    · rw [if_pos c, if_pos (by omega)]
      have hlt : i < s.size := by omega
      have hw : wrap64 ((i : Int) + 1) = ((i + 1 : Nat) : Int) := by unfold wrap64; omega
      have ih := fun hy : mayAt i (s.data.getD i 0).toNat = true => refMay_loop s h8 k (i + 1) (by omega) hlt (by omega) (by rw [mayUpto, hm, hy]; rfl)
      rw [mayAt_bt hlt (by omega)] at ih
      have no := fun hn : mayAt i (s.data.getD i 0).toNat = false => may_stop s i hn s.size hlt
      have hno : ¬ ((97 ≤ bt s i ∧ bt s i ≤ 122) ∨ (48 ≤ bt s i ∧ bt s i ≤ 57)) → mayUpto s s.size = false := fun hn => no (by rw [Bool.eq_false_iff, Ne, mayAt_bt hlt (by omega)]; exact hn)
      rw [hw]
      by_cases a1 : bt s i ≥ 97
      · rw [if_pos a1, if_pos (by omega)]
        by_cases a2 : bt s i ≤ 122
        · rw [if_pos a2]
          exact ih (.inl ⟨a1, a2⟩)
        · rw [if_neg a2, if_neg (by omega), hno (by omega)]
      · rw [if_neg a1]
        by_cases a3 : bt s i ≥ 48
        · rw [if_pos a3]
          by_cases a4 : bt s i ≤ 57
          · rw [if_pos a4]
            exact ih (.inr ⟨a3, a4⟩)
          · rw [if_neg a4, hno (by omega)]
        · rw [if_neg a3, hno (by omega)]
    · rw [if_neg c, show s.size = i by omega, hm]
theorem refMay_is (s : ByteArray) (k : Nat) (hk : 10 ≤ k) : Qas.f k s = some (mayName s) := by
  obtain ⟨k, rfl⟩ : ∃ j, k = j + 1 := ⟨k - 1, by omega⟩
  have jt : Qas.j0 (k + 1) s true = some false := by rw [Qas.j0, if_pos rfl]
  unfold Qas.f mayName
  by_cases c1 : (s.size : Int) < 1
  · rw [if_pos c1, jt, decide_eq_false (p := 0 < s.size) (by omega)]
    simp
  · rw [if_neg c1]
    by_cases c2 : (s.size : Int) > 8
    · rw [if_pos c2, jt, decide_eq_false (p := s.size ≤ 8) (by omega)]
      simp
    · rw [if_neg c2, if_pos (by omega), decide_eq_true (p := 0 < s.size) (by omega), decide_eq_true (p := s.size ≤ 8) (by omega), Bool.and_true, Bool.and_true]
      have h0 : bt s 0 = ((s.data.getD 0 0).toNat : Int) := bt_data s 0 (by omega)
      generalize hd : (s.data.getD 0 0).toNat = d at h0
      by_cases c3 : bt s 0 < 97
      · rw [if_pos c3, jt, may_stop s 0 (by rw [hd]; unfold mayAt; simp; omega) s.size (by omega)]
      · rw [if_neg c3]
        by_cases c4 : bt s 0 > 122
        · rw [decide_eq_true c4, jt, may_stop s 0 (by rw [hd]; unfold mayAt; simp; omega) s.size (by omega)]
        · rw [decide_eq_false c4, Qas.j0, if_neg (by decide)]
          exact refMay_loop s (by omega) k 1 (Nat.le_refl _) (by omega) (by omega) (by rw [mayUpto, mayUpto, hd]; unfold mayAt; simp; omega)
theorem empty_iff (x : ByteArray) : x.toList = [] ↔ x = ⟨#[]⟩ := by
  rw [← toList_iff, show (⟨#[]⟩ : ByteArray).toList = [] by unfold ByteArray.toList; rw [ByteArray.toList.loop]; rfl]
def roleOk (r : Role) : Bool := decide (numName r.f0 > 0) && mayName r.f1
def bareOk (r : Role) : Bool := noText r.f0 && mayName r.f1
def credMay (c : Cred) : Bool :=
  (decide (1 ≤ c.f0.f0 ∧ c.f0.f0 ≤ 16) && decide (1 ≤ c.f0.f1 ∧ c.f0.f1 ≤ 4000) && mayName c.f1) &&
  (if c.f2 = 1 then mayName c.f3 && (noRole c.f4 && noRole c.f5) else if c.f2 = 2 then roleOk c.f4 && (noRole c.f5 && noText c.f3)
    else if c.f2 = 3 then bareOk c.f4 && (bareOk c.f5 && noText c.f3) else if c.f2 = 4 then roleOk c.f4 && (roleOk c.f5 && noText c.f3) else false)
def okCred (c : Cred) : Prop := c.f1.size ≤ maxLen ∧ c.f3.size ≤ maxLen ∧ (c.f4.f0.size ≤ maxLen ∧ c.f4.f1.size ≤ maxLen) ∧ c.f5.f0.size ≤ maxLen ∧ c.f5.f1.size ≤ maxLen
theorem may_is {s : ByteArray} (h : s.size ≤ maxLen) : Qa6.f s = some (mayName s) := by
  unfold Qa6.f; rw [if_pos h]
theorem role_is (r : Role) (h : r.f1.size ≤ maxLen) (k : Nat) (hk : 17 ≤ k) : Qa5.f k r.f0 r.f1 = some (roleOk r) := by
  unfold Qa5.f roleOk; rw [number_is _ k hk, Option.bind_some, may_is h, Option.bind_some]
  by_cases c : numName r.f0 > 0
  · rw [if_pos c, decide_eq_true c]; rfl
  · rw [if_neg c, decide_eq_false c]; rfl
theorem bare_is (r : Role) (h : r.f1.size ≤ maxLen) : QbA.f r.f0 r.f1 = some (bareOk r) := by
  unfold QbA.f bareOk noText; rw [may_is h, Option.bind_some]
  by_cases c : r.f0.toList = []
  · rw [if_pos c, c]; rfl
  · rw [if_neg c, beq_eq_false_iff_ne.mpr c]; rfl
theorem and3_is (x y z : Bool) : and3 (some x) (some y) (some z) = some (x && (y && z)) := by
  cases x <;> cases y <;> rfl
theorem credMay_is (c : Cred) (h : okCred c) : cred_May.f c.f0.f0 c.f0.f1 c.f1 c.f2 c.f3 c.f4.f0 c.f4.f1 c.f5.f0 c.f5.f1 = some (credMay c) := by
  obtain ⟨h1, h3, ⟨h40, h41⟩, h50, h51⟩ := h
  show mayF c = some (credMay c)
  unfold mayF credMay
  by_cases d : 1 ≤ c.f0.f0 ∧ c.f0.f0 ≤ 16
  · have hn : ¬ noText (domName c.f0.f0) = true := fun e => domName_ne d.1 d.2 ((empty_iff _).mp (beq_iff_eq.mp e))
    rw [if_neg hn, decide_eq_true d]
    by_cases s1 : c.f0.f1 < 1
    · rw [if_pos s1, decide_eq_false (p := 1 ≤ c.f0.f1 ∧ c.f0.f1 ≤ 4000) (by omega)]; rfl
    · rw [if_neg s1]
      by_cases s2 : c.f0.f1 > 4000
      · rw [if_pos s2, decide_eq_false (p := 1 ≤ c.f0.f1 ∧ c.f0.f1 ≤ 4000) (by omega)]; rfl
      · rw [if_neg s2, decide_eq_true (p := 1 ≤ c.f0.f1 ∧ c.f0.f1 ≤ 4000) (by omega), may_is h1, Option.bind_some]
        cases hm : mayName c.f1
        · rfl
        · rw [if_pos rfl]
          unfold mayKind
          by_cases k1 : c.f2 = 1
          · rw [if_pos k1, if_pos k1, may_is h3, and3_is]; rfl
          · rw [if_neg k1, if_neg k1]
            by_cases k2 : c.f2 = 2
            · rw [if_pos k2, if_pos k2, role_is c.f4 h41 20 (by omega), and3_is]; rfl
            · rw [if_neg k2, if_neg k2]
              by_cases k3 : c.f2 = 3
              · rw [if_pos k3, if_pos k3, bare_is c.f4 h41, bare_is c.f5 h51, and3_is]; rfl
              · rw [if_neg k3, if_neg k3]
                by_cases k4 : c.f2 = 4
                · rw [if_pos k4, if_pos k4, role_is c.f4 h41 20 (by omega), role_is c.f5 h51 20 (by omega), and3_is]; rfl
                · rw [if_neg k4, if_neg k4]; rfl
  · have e : domName c.f0.f0 = ⟨#[]⟩ := domName_out _ (by omega)
    rw [if_pos (show noText (domName c.f0.f0) = true from beq_iff_eq.mpr ((empty_iff _).mpr e)), decide_eq_false d]; rfl
section
open Go.RowKit Go.ChangeShapes Go.WideShapes Go.Proofs.YtbjjonpkmplhbaaGreatDoorW.PrintWords Go.Proofs.YtbjjonpkmplhbaaGreatDoorW.PrintLast Go.Proofs.YtbjjonpkmplhbaaGreatDoorW.PrintMore
def Opens {α : Type} (P : Program) (e : TypeId) (d : Kd α) (Q : α → Prop) : Prop :=
  ∀ (H : Type) (enc : TypeId × Value → H) (w : World) (base : Nat) (spare : Nat → Bool) (held : Bool) (fuel : Nat) (cs : List Value) (x : DataW H × List MemPlace), DataW.trod enc P w base spare held fuel e cs = some x → ∃ a, d.K w a cs ∧ Q a
section
variable {H : Type} {enc : TypeId × Value → H} {P : Program} {w : World} {base : Nat} {spare : Nat → Bool} {held : Bool}
theorem field_at {t : TypeId} {fs : Array Field} {fuel : Nat} {cs : List Value} {x : DataW H × List MemPlace} (ht : P.underlying t = some (.struct fs)) (h : DataW.trod enc P w base spare held fuel t cs = some x) :
    cs.length = P.cellsOf t ∧ ∃ n, ∀ (i : Nat) (f : Field), fs[i]? = some f → ∃ y, DataW.trod enc P w base spare held n f.type ((cs.drop f.offset).take (P.cellsOf f.type)) = some y := by
  obtain ⟨xs, n, _, _, hl, hx, hf⟩ := DataW.trod_struct ht h; refine ⟨hl, n, fun i f hi => ?_⟩; have hi' : i < fs.size := (Array.getElem?_eq_some_iff.mp hi).1; exact ⟨xs[i]'(by omega), (hf i f hi).trans (List.getElem?_eq_getElem (by omega))⟩
theorem list_of {α : Type} {R : Nat → α → Prop} : ∀ n, (∀ i, i < n → ∃ y, R i y) → ∃ xs : List α, xs.length = n ∧ ∀ i y, xs[i]? = some y → R i y
  | 0, _ => ⟨[], rfl, fun i y h => by simp at h⟩
  | n + 1, h => by
    obtain ⟨xs, hl, hx⟩ := list_of n (fun i hi => h i (by omega)); obtain ⟨y, hy⟩ := h n (by omega); refine ⟨xs ++ [y], by simp [hl], fun i z hz => ?_⟩
    by_cases hi : i < n
    · rw [List.getElem?_append_left (by omega)] at hz
      exact hx i z hz
    · rw [List.getElem?_append_right (by omega)] at hz
      have hi2 : i - xs.length = 0 := by
        have := (List.getElem?_eq_some_iff.mp hz).1; simp at this; omega
      rw [hi2] at hz
      have : y = z := by simpa using hz
      rw [show i = n by omega, ← this]; exact hy
theorem cells_at {a : Addr} {n : Nat} {cs : List Value} (h : w.cells? base a n = some cs) : cs.length = n ∧ ∀ i u, cs[i]? = some u → w.cell? (a.add i) = some u := by
  unfold World.cells? at h
  split at h
  · have hl := mapM_some_length h
    rw [List.length_range] at hl; refine ⟨hl, fun i u hu => ?_⟩
    have hi : i < n := by have := (List.getElem?_eq_some_iff.mp hu).1; omega
    have := mapM_some_get h i i (by simp [hi]); rw [this, hu]
  · cases h
theorem open_row {α : Type} {d : Kd α} {Q : α → Prop} {t e : TypeId} {fuel : Nat} {a : Option Addr} {len cap : Nat} {x : DataW H × List MemPlace} (ht : P.underlying t = some (.slice e)) (hc : P.cellsOf e = d.sz) (ho : Opens P e d Q)
    (h : DataW.trod enc P w base spare held fuel t [.slice a len cap] = some x) : ∃ xs : List α, xs.length = len ∧ d.C w a xs.length xs ∧ xs.length ≤ cap ∧ ∀ y ∈ xs, Q y := by
  rcases DataW.trod_slice ht h with ⟨hcs, _⟩ | ⟨a', len', cap', elems, rest, n, _, hcs, _, hb, hl, hm, hlen, hel, _, _⟩
  · simp only [List.cons.injEq, Value.slice.injEq, and_true] at hcs
    obtain ⟨rfl, rfl, rfl⟩ := hcs; exact ⟨[], rfl, ⟨rfl, Nat.zero_le _, fun h => absurd h (Nat.lt_irrefl _)⟩, Nat.le_refl _, fun y hy => by cases hy⟩
  · simp only [List.cons.injEq, Value.slice.injEq, and_true] at hcs
    obtain ⟨rfl, rfl, rfl⟩ := hcs
    obtain ⟨xs, hxl, hx⟩ := list_of (R := fun i y => ∃ cs, w.cells? base (a'.add (i * P.cellsOf e)) (P.cellsOf e) = some cs ∧ d.K w y cs ∧ Q y) len (fun i hi => by
      have h1 := hel i hi; rw [List.getElem?_eq_getElem (by omega)] at h1; obtain ⟨cs, hcs, hy⟩ := Option.bind_eq_some_iff.mp h1; obtain ⟨y, hk, hq⟩ := ho _ _ _ _ _ _ _ _ _ hy
      exact ⟨y, cs, hcs, hk, hq⟩)
    refine ⟨xs, hxl, ⟨rfl, ?_, fun _ => ⟨a', rfl, fun j p hj => ?_⟩⟩, by omega, fun y hy => ?_⟩
    · have : maxLen = 9223372036854775807 := by decide
      omega
    · obtain ⟨cs, h1, h2, _⟩ := hx j p hj
      obtain ⟨hl1, hl2⟩ := cells_at h1; refine ⟨cs, by omega, h2, fun i u hu => ?_⟩; rw [← hc, ← Addr.add_add]; exact hl2 i u hu
    · obtain ⟨i, hi, e⟩ := List.getElem_of_mem hy
      obtain ⟨_, _, _, hq⟩ := hx i y (by rw [List.getElem?_eq_getElem hi, e]); exact hq
end
theorem list2 {α : Type} : ∀ {l : List α}, l.length = 2 → ∃ a b, l = [a, b]
  | [a, b], _ => ⟨a, b, rfl⟩
theorem list9 {α : Type} : ∀ {l : List α}, l.length = 9 → ∃ a b c d e f g h i, l = [a, b, c, d, e, f, g, h, i]
  | [a, b, c, d, e, f, g, h, i], _ => ⟨a, b, c, d, e, f, g, h, i, rfl⟩
theorem opens_role : Opens Tryz.prog 33 k33 (fun r => r.f0.size ≤ maxLen ∧ r.f1.size ≤ maxLen) := by
  intro H enc w base spare held fuel cs x h; obtain ⟨hl, n, hf⟩ := field_at Tryz.underlying33 h; rw [Tryz.cellsRole] at hl; obtain ⟨y0, h0⟩ : ∃ y, DataW.trod enc Tryz.prog w base spare held n 9 ((cs.drop 0).take (Tryz.prog.cellsOf 9)) = some y := hf 0 _ rfl; obtain ⟨y1, h1⟩ : ∃ y, DataW.trod enc Tryz.prog w base spare held n 9 ((cs.drop 1).take (Tryz.prog.cellsOf 9)) = some y := hf 1 _ rfl; rw [Tryz.cellsStr] at h0 h1; obtain ⟨c0, c1, rfl⟩ := list2 hl; obtain ⟨s0, e0, _, z0⟩ := DataW.trod_string Tryz.underlying9 h0; obtain ⟨s1, e1, _, z1⟩ := DataW.trod_string Tryz.underlying9 h1
  obtain rfl : c0 = .string s0 := by simpa using e0
  obtain rfl : c1 = .string s1 := by simpa using e1
  exact ⟨⟨s0, s1⟩, k33_mk w ⟨s0, s1⟩, z0, z1⟩
theorem Tryz.cellsInt : Tryz.prog.cellsOf 3 = 1 := by kernel_rfl
theorem Tryz.cellsID : Tryz.prog.cellsOf 31 = 2 := by kernel_rfl
theorem Tryz.cellsCred : Tryz.prog.cellsOf 35 = 9 := by kernel_rfl
theorem opens_id : Opens Tryz.prog 31 k31 (fun _ => True) := by
  intro H enc w base spare held fuel cs x h; obtain ⟨hl, n, hf⟩ := field_at Tryz.underlying31 h; rw [Tryz.cellsID] at hl; obtain ⟨y0, h0⟩ : ∃ y, DataW.trod enc Tryz.prog w base spare held n 3 ((cs.drop 0).take (Tryz.prog.cellsOf 3)) = some y := hf 0 _ rfl; obtain ⟨y1, h1⟩ : ∃ y, DataW.trod enc Tryz.prog w base spare held n 3 ((cs.drop 1).take (Tryz.prog.cellsOf 3)) = some y := hf 1 _ rfl; rw [Tryz.cellsInt] at h0 h1; obtain ⟨c0, c1, rfl⟩ := list2 hl; obtain ⟨s0, e0, _, z0⟩ := DataW.trod_int Tryz.underlying3 h0; obtain ⟨s1, e1, _, z1⟩ := DataW.trod_int Tryz.underlying3 h1
  obtain rfl : c0 = .int .i64 s0 := by simpa using e0
  obtain rfl : c1 = .int .i64 s1 := by simpa using e1
  exact ⟨⟨s0, s1⟩, k31_mk w ⟨s0, s1⟩, trivial⟩
theorem opens_cred : Opens Tryz.prog 35 k35 okCred := by
  intro H enc w base spare held fuel cs x h; obtain ⟨hl, n, hf⟩ := field_at Tryz.underlying35 h; rw [Tryz.cellsCred] at hl; obtain ⟨y0, h0⟩ : ∃ y, DataW.trod enc Tryz.prog w base spare held n 31 ((cs.drop 0).take (Tryz.prog.cellsOf 31)) = some y := hf 0 _ rfl; obtain ⟨y1, h1⟩ : ∃ y, DataW.trod enc Tryz.prog w base spare held n 9 ((cs.drop 2).take (Tryz.prog.cellsOf 9)) = some y := hf 1 _ rfl; obtain ⟨y2, h2⟩ : ∃ y, DataW.trod enc Tryz.prog w base spare held n 3 ((cs.drop 3).take (Tryz.prog.cellsOf 3)) = some y := hf 2 _ rfl; obtain ⟨y3, h3⟩ : ∃ y, DataW.trod enc Tryz.prog w base spare held n 9 ((cs.drop 4).take (Tryz.prog.cellsOf 9)) = some y := hf 3 _ rfl; obtain ⟨y4, h4⟩ : ∃ y, DataW.trod enc Tryz.prog w base spare held n 33 ((cs.drop 5).take (Tryz.prog.cellsOf 33)) = some y := hf 4 _ rfl; obtain ⟨y5, h5⟩ : ∃ y, DataW.trod enc Tryz.prog w base spare held n 33 ((cs.drop 7).take (Tryz.prog.cellsOf 33)) = some y := hf 5 _ rfl; rw [Tryz.cellsID] at h0; rw [Tryz.cellsStr] at h1 h3; rw [Tryz.cellsInt] at h2; rw [Tryz.cellsRole] at h4 h5; obtain ⟨c0, c1, c2, c3, c4, c5, c6, c7, c8, rfl⟩ := list9 hl; obtain ⟨a, ka, _⟩ := opens_id _ _ _ _ _ _ _ _ _ h0
  obtain ⟨rfl, rfl⟩ : c0 = .int .i64 a.f0 ∧ c1 = .int .i64 a.f1 := by simpa using k31_open ka
  obtain ⟨s1, e1, _, z1⟩ := DataW.trod_string Tryz.underlying9 h1; obtain ⟨s2, e2, _, z2⟩ := DataW.trod_int Tryz.underlying3 h2; obtain ⟨s3, e3, _, z3⟩ := DataW.trod_string Tryz.underlying9 h3
  obtain rfl : c2 = .string s1 := by simpa using e1
  obtain rfl : c3 = .int .i64 s2 := by simpa using e2
  obtain rfl : c4 = .string s3 := by simpa using e3
  obtain ⟨r4, k4, z4⟩ := opens_role _ _ _ _ _ _ _ _ _ h4
  obtain ⟨rfl, rfl⟩ : c5 = .string r4.f0 ∧ c6 = .string r4.f1 := by simpa using k33_open k4
  obtain ⟨r5, k5, z5⟩ := opens_role _ _ _ _ _ _ _ _ _ h5
  obtain ⟨rfl, rfl⟩ : c7 = .string r5.f0 ∧ c8 = .string r5.f1 := by simpa using k33_open k5
  exact ⟨⟨a, s1, s2, s3, r4, r5⟩, k35_mk w ⟨a, s1, s2, s3, r4, r5⟩, z1, z3, z4, z5⟩
end
theorem neRole_is (a b : Role) : ((!(a.f0.toList == b.f0.toList)) || (!(a.f1.toList == b.f1.toList))) = !decide (a = b) := by
  rw [Bool.eq_iff_iff]; simp only [Bool.or_eq_true, Bool.not_eq_true', decide_eq_false_iff_not, Lib.bytes_beq_false_iff]; refine ⟨fun h e => ?_, fun h => ?_⟩
  · subst e
    rcases h with h | h <;> exact h rfl
  · by_cases h0 : a.f0 = b.f0
    · exact .inr (fun h1 => h (role_ext h0 h1))
    · exact .inl h0
theorem eqRole_is (a b : Role) : ((a.f0.toList == b.f0.toList) && (a.f1.toList == b.f1.toList)) = decide (a = b) := by
  have h := congrArg (fun x => !x) (neRole_is a b)
  simpa using h
theorem drop_cons_at {α : Type} (l : List α) (z : α) (i : Nat) (h : i < l.length) : l.drop i = l.getD i z :: l.drop (i + 1) := by
  rw [List.drop_eq_getElem_cons h]; simp [List.getD, List.getElem?_eq_getElem h]
theorem equalRole_l0 (l l' : List Role) (hl : l.length = l'.length) (hm : l.length ≤ 9223372036854775807) : ∀ (n i : Nat), n + i = l.length → Ev (fun k => Qbc.l0 k l l' (l.length : Int) (i : Int)) (decide (l.drop i = l'.drop i))
  | 0, i, hn => by
    refine Ev.step (g := fun _ => some true) (fun k => ?_) ?_
    · show (if (i : Int) < (l.length : Int) then _ else some true) = some true
      rw [if_neg (by omega)]
    · rw [List.drop_eq_nil_of_le (show l.length ≤ i by omega), List.drop_eq_nil_of_le (show l'.length ≤ i by omega)]
      exact Ev.pure _
  | n + 1, i, hn => by
    have hi : i < l.length := by omega
    have ih := equalRole_l0 l l' hl hm n (i + 1) (by omega)
    have hw : wrap64 ((i : Int) + 1) = ((i + 1 : Nat) : Int) := by unfold wrap64; omega
    rw [drop_cons_at l z33 i hi, drop_cons_at l' z33 i (by omega)]; have ht : (i : Int).toNat = i := rfl
    by_cases e : l.getD i z33 = l'.getD i z33
    · have hd : decide (l.getD i z33 :: l.drop (i + 1) = l'.getD i z33 :: l'.drop (i + 1)) = decide (l.drop (i + 1) = l'.drop (i + 1)) := by
        rw [e]; exact decide_eq_decide.mpr ⟨fun h => (List.cons.inj h).2, fun h => by rw [h]⟩
      rw [hd]; refine Ev.step (fun k => ?_) ih; have hne := neRole_is (l.getD i z33) (l'.getD i z33); rw [decide_eq_true e] at hne
      show (if (i : Int) < (l.length : Int) then _ else _) = _
      rw [if_pos (by omega), if_pos (by omega), if_pos (by omega), if_pos (by omega), hw]; unfold Qa7; rw [ht, hne]; rfl
    · have hd : decide (l.getD i z33 :: l.drop (i + 1) = l'.getD i z33 :: l'.drop (i + 1)) = false := decide_eq_false (fun h => e (List.cons.inj h).1)
      rw [hd]; refine Ev.step (g := fun _ => some false) (fun k => ?_) (Ev.pure _); have hne := neRole_is (l.getD i z33) (l'.getD i z33); rw [decide_eq_false e] at hne
      show (if (i : Int) < (l.length : Int) then _ else _) = _
      rw [if_pos (by omega), if_pos (by omega), if_pos (by omega), if_pos (by omega)]; unfold Qa7; rw [ht, hne]; rfl
theorem equalRole_ev (l l' : List Role) (hm : l.length ≤ 9223372036854775807) : Ev (fun k => Qbc.f k l l') (decide (l = l')) := by
  unfold Qbc.f
  by_cases hl : l.length = l'.length
  · simp only [show ((l.length : Int) = (l'.length : Int)) = True from eq_true (by omega), if_true]
    exact equalRole_l0 l l' hl hm l.length 0 (by omega)
  · simp only [show ((l.length : Int) = (l'.length : Int)) = False from eq_false (by omega), if_false]
    rw [decide_eq_false (fun e => hl (by rw [e]))]; exact Ev.pure _
theorem equalID_l0 (l l' : List ID) (hl : l.length = l'.length) (hm : l.length ≤ 9223372036854775807) : ∀ (n i : Nat), n + i = l.length → Ev (fun k => api_ID.l0 k l l' (l.length : Int) (i : Int)) (decide (l.drop i = l'.drop i))
  | 0, i, hn => by
    refine Ev.step (g := fun _ => some true) (fun k => ?_) ?_
    · show (if (i : Int) < (l.length : Int) then _ else some true) = some true
      rw [if_neg (by omega)]
    · rw [List.drop_eq_nil_of_le (show l.length ≤ i by omega), List.drop_eq_nil_of_le (show l'.length ≤ i by omega)]
      exact Ev.pure _
  | n + 1, i, hn => by
    have hi : i < l.length := by omega
    have ih := equalID_l0 l l' hl hm n (i + 1) (by omega)
    have hw : wrap64 ((i : Int) + 1) = ((i + 1 : Nat) : Int) := by unfold wrap64; omega
    rw [drop_cons_at l z31 i hi, drop_cons_at l' z31 i (by omega)]; have ht : (i : Int).toNat = i := rfl
    by_cases e : l.getD i z31 = l'.getD i z31
    · have hd : decide (l.getD i z31 :: l.drop (i + 1) = l'.getD i z31 :: l'.drop (i + 1)) = decide (l.drop (i + 1) = l'.drop (i + 1)) := by
        rw [e]; exact decide_eq_decide.mpr ⟨fun h => (List.cons.inj h).2, fun h => by rw [h]⟩
      rw [hd]; refine Ev.step (fun k => ?_) ih; have hne := neID_f e
      show (if (i : Int) < (l.length : Int) then _ else _) = _
      rw [if_pos (by omega), if_pos (by omega), if_pos (by omega), if_pos (by omega), hw]; unfold QbH; rw [ht, hne]; rfl
    · have hd : decide (l.getD i z31 :: l.drop (i + 1) = l'.getD i z31 :: l'.drop (i + 1)) = false := decide_eq_false (fun h => e (List.cons.inj h).1)
      rw [hd]; refine Ev.step (g := fun _ => some false) (fun k => ?_) (Ev.pure _); have hne := neID_t e
      show (if (i : Int) < (l.length : Int) then _ else _) = _
      rw [if_pos (by omega), if_pos (by omega), if_pos (by omega), if_pos (by omega)]; unfold QbH; rw [ht, hne]; rfl
theorem equalID_ev (l l' : List ID) (hm : l.length ≤ 9223372036854775807) : Ev (fun k => api_ID.f k l l') (decide (l = l')) := by
  unfold api_ID.f
  by_cases hl : l.length = l'.length
  · simp only [show ((l.length : Int) = (l'.length : Int)) = True from eq_true (by omega), if_true]
    exact equalID_l0 l l' hl hm l.length 0 (by omega)
  · simp only [show ((l.length : Int) = (l'.length : Int)) = False from eq_false (by omega), if_false]
    rw [decide_eq_false (fun e => hl (by rw [e]))]; exact Ev.pure _
theorem indexRole_l0 (l : List Role) (hm : l.length ≤ 9223372036854775807) (r : Role) : ∀ (n i : Nat), n + i = l.length → ∃ v : Int, Ev (fun k => Qbb.l0 k l (l.length : Int) (i : Int) r.f0 r.f1) v ∧ (v ≥ 0 ↔ r ∈ l.drop i)
  | 0, i, hn => by
    refine ⟨-1, Ev.step (g := fun _ => some (-1)) (fun k => ?_) (Ev.pure _), ?_⟩
    · show (if (i : Int) < (l.length : Int) then _ else some (-1)) = some (-1)
      rw [if_neg (by omega)]
    · rw [List.drop_eq_nil_of_le (show l.length ≤ i by omega)]
      simp
  | n + 1, i, hn => by
    have hi : i < l.length := by omega
    have hw : wrap64 ((i : Int) + 1) = ((i + 1 : Nat) : Int) := by unfold wrap64; omega
    rw [drop_cons_at l z33 i hi]; have ht : (i : Int).toNat = i := rfl; have hq := eqRole_is r (l.getD i z33)
    by_cases e : r = l.getD i z33
    · rw [decide_eq_true e] at hq
      refine ⟨i, Ev.step (g := fun _ => some (i : Int)) (fun k => ?_) (Ev.pure _), ⟨fun _ => by rw [← e]; simp, fun _ => by omega⟩⟩
      show (if (i : Int) < (l.length : Int) then _ else _) = _
      rw [if_pos (by omega), if_pos (by omega), if_pos (by omega)]; unfold Qa7; rw [ht, hq]; rfl
    · rw [decide_eq_false e] at hq
      obtain ⟨v, h1, h2⟩ := indexRole_l0 l hm r n (i + 1) (by omega); refine ⟨v, Ev.step (fun k => ?_) h1, ?_⟩
      · show (if (i : Int) < (l.length : Int) then _ else _) = _
        rw [if_pos (by omega), if_pos (by omega), if_pos (by omega), hw]; unfold Qa7; rw [ht, hq]; rfl
      · rw [h2]
        exact ⟨fun h => List.mem_cons_of_mem _ h, fun h => (List.mem_cons.mp h).resolve_left e⟩
theorem containsRole_ev (l : List Role) (hm : l.length ≤ 9223372036854775807) (r : Role) : Ev (fun k => api_Role_40.f k l r.f0 r.f1) (decide (r ∈ l)) := by
  obtain ⟨v, h1, h2⟩ := indexRole_l0 l hm r l.length 0 (by omega); rw [List.drop_zero] at h2; unfold api_Role_40.f Qbb.f; refine Ev.bind h1 ?_; rw [show decide (r ∈ l) = decide (v ≥ 0) from decide_eq_decide.mpr h2.symm]; exact Ev.pure _
abbrev Tok := S41
abbrev Evt := S47
abbrev kTok := k41
def TokA (w : World) (t : Tok) (T : Array Value) : Prop := kTok.K w t T.toList
abbrev tokV (t : Tok) (A4 : Option Addr) (c4 : Nat) (A6 : Option Addr) (c6 : Nat) (A7 : Option Addr) (c7 : Nat) (A8 : Option Addr) (c8 : Nat) : Array Value := #[.int .i64 t.f0, .int .i64 t.f1, .int .i64 t.f2, .string t.f3, .slice A4 t.f4.length c4, .int .i64 t.f5, .slice A6 t.f6.length c6, .slice A7 t.f7.length c7, .slice A8 t.f8.length c8]
theorem TokA.size {w : World} {t : Tok} {T : Array Value} (h : TokA w t T) : T.size = 9 := by
  have := kTok.K_len h; rw [Array.length_toList] at this; exact this
theorem TokA.below {w w' : World} {t : Tok} {T : Array Value} (h : TokA w t T) (hb : Below w.heap.size w w') : TokA w' t T := kTok.K_below hb h
theorem TokA.form {w : World} {t : Tok} {T : Array Value} (h : TokA w t T) : ∃ A4 c4 A6 c6 A7 c7 A8 c8, T = tokV t A4 c4 A6 c6 A7 c7 A8 c8 ∧ t.f4.length ≤ c4 ∧ k33.C w A4 t.f4.length t.f4 ∧ t.f6.length ≤ c6 ∧ k31.C w A6 t.f6.length t.f6 ∧ t.f7.length ≤ c7 ∧ k64.C w A7 t.f7.length t.f7 ∧ t.f8.length ≤ c8 ∧ (Kd.int .u8).C w A8 t.f8.length t.f8 := by
  obtain ⟨A4, c4, A6, c6, A7, c7, A8, c8, hc, r⟩ := k41_open h; exact ⟨A4, c4, A6, c6, A7, c7, A8, c8, by rw [← Array.toArray_toList (xs := T), hc], r⟩
theorem tok_cells {w : World} {b : Nat} {t : Tok} {A4 : Option Addr} {c4 : Nat} {A6 : Option Addr} {c6 : Nat} {A7 : Option Addr} {c7 : Nat} {A8 : Option Addr} {c8 : Nat} {ty : TypeId} (h : w.heap[b]? = some (.cells (tokV t A4 c4 A6 c6 A7 c7 A8 c8) ty (0, 0))) :
    w.cell? ⟨b, 0, none⟩ = some (.int .i64 t.f0) ∧ w.cell? ⟨b, 1, none⟩ = some (.int .i64 t.f1) ∧ w.cell? ⟨b, 2, none⟩ = some (.int .i64 t.f2) ∧ w.cell? ⟨b, 3, none⟩ = some (.string t.f3) ∧ w.cell? ⟨b, 4, none⟩ = some (.slice A4 t.f4.length c4) ∧ w.cell? ⟨b, 5, none⟩ = some (.int .i64 t.f5) ∧ w.cell? ⟨b, 6, none⟩ = some (.slice A6 t.f6.length c6) :=
  ⟨(Qak h 0).trans rfl, (Qak h 1).trans rfl, (Qak h 2).trans rfl, (Qak h 3).trans rfl, (Qak h 4).trans rfl, (Qak h 5).trans rfl, (Qak h 6).trans rfl⟩
def headB (t u : Tok) : Bool := decide (t.f0 = u.f0) && (decide (t.f1 = u.f1) && (decide (t.f2 = u.f2) && (decide (t.f5 = u.f5) && (decide (t.f3 = u.f3) && (decide (t.f4 = u.f4) && decide (t.f6 = u.f6))))))
theorem head_cases (t u : Tok) :
    (headB t u = false ∧ (t.f0 == u.f0) = false) ∨ (headB t u = false ∧ (t.f0 == u.f0) = true ∧ (t.f1 == u.f1) = false) ∨ (headB t u = false ∧ (t.f0 == u.f0) = true ∧ (t.f1 == u.f1) = true ∧ (t.f2 == u.f2) = false)
    ∨ (headB t u = false ∧ (t.f0 == u.f0) = true ∧ (t.f1 == u.f1) = true ∧ (t.f2 == u.f2) = true ∧ (t.f5 == u.f5) = false) ∨ (headB t u = false ∧ (t.f0 == u.f0) = true ∧ (t.f1 == u.f1) = true ∧ (t.f2 == u.f2) = true ∧ (t.f5 == u.f5) = true ∧ (t.f3.toList == u.f3.toList) = false)
    ∨ (headB t u = false ∧ (t.f0 == u.f0) = true ∧ (t.f1 == u.f1) = true ∧ (t.f2 == u.f2) = true ∧ (t.f5 == u.f5) = true ∧ (t.f3.toList == u.f3.toList) = true ∧ decide (t.f4 = u.f4) = false)
    ∨ (headB t u = decide (t.f6 = u.f6) ∧ (t.f0 == u.f0) = true ∧ (t.f1 == u.f1) = true ∧ (t.f2 == u.f2) = true ∧ (t.f5 == u.f5) = true ∧ (t.f3.toList == u.f3.toList) = true ∧ decide (t.f4 = u.f4) = true) := by
  have e3 : (t.f3.toList == u.f3.toList) = decide (t.f3 = u.f3) := by rw [Bool.eq_iff_iff, Lib.bytes_beq_iff, decide_eq_true_eq]
  have e (a b : Int) : (a == b) = decide (a = b) := rfl; unfold headB; rw [e3]; simp only [e]
  cases decide (t.f0 = u.f0) <;> cases decide (t.f1 = u.f1) <;> cases decide (t.f2 = u.f2) <;> cases decide (t.f5 = u.f5) <;> cases decide (t.f3 = u.f3) <;> cases decide (t.f4 = u.f4) <;> cases decide (t.f6 = u.f6) <;> simp
set_option maxRecDepth 100000 in
set_option maxHeartbeats 4000000 in
theorem head_calls (w : World) (t u : Tok) (T U : Array Value) (hT : TokA w t T) (hU : TokA w u U) :
    Calls Tryz.prog 39 #[.agg T, .agg U] w fun e w' => e = .returned (.bool (headB t u)) ∧ Below w.heap.size w w' := by
  obtain ⟨A4, c4, A6, c6, A7, c7, A8, c8, rfl, l4, g4, l6, g6, -, -, -, -⟩ := hT.form; obtain ⟨B4, d4, B6, d6, B7, d7, B8, d8, rfl, m4, h4, m6, h6, -, -, -, -⟩ := hU.form; obtain ⟨K4, k4⟩ := equalRole_ev t.f4 u.f4 (g4.2.1); obtain ⟨K6, k6⟩ := equalID_ev t.f6 u.f6 (g6.2.1); have k4 := k4 K4 (Nat.le_refl _); have k6 := k6 K6 (Nat.le_refl _); have HK4 := Lib.hid k4; have HK6 := Lib.hid k6; have G4 := Lib.hid (And.intro l4 (And.intro m4 (And.intro g4 h4))); have G6 := Lib.hid (And.intro l6 (And.intro m6 (And.intro g6 h6))); have hcs := head_cases t u; clear l4 g4 l6 g6 m4 h4 m6 h6 k4 k6 hT hU; go_enter Tryz.func39, Tryz.ntmps39
  rcases hcs with ⟨e, f0⟩ | ⟨e, f0, f1⟩ | ⟨e, f0, f1, f2⟩ | ⟨e, f0, f1, f2, f3⟩ | ⟨e, f0, f1, f2, f3, f4⟩ | ⟨e, f0, f1, f2, f3, f4, f5⟩ | ⟨e, f0, f1, f2, f3, f4, f5⟩
  all_goals
    rw [e]; clear e
    go_wp2_with (first | (go_at_call 35; refine (Qbc.calls K4 _ _ t.f4 _ _ u.f4 _ _ (Kd.Qa8 G4.out.2.2.1 (Qai (Qai (Below.refl _ _) _) _)) G4.out.1 (Kd.Qa8 G4.out.2.2.2 (Qai (Qai (Below.refl _ _) _) _)) G4.out.2.1 HK4.out).mono ?_; rintro e w3 ⟨rfl, m, rfl⟩) | (go_at_call 58; refine (api_ID.calls K6 _ _ t.f6 _ _ u.f6 _ _ (Kd.Qa8 G6.out.2.2.1 (QaK (Qai (Qai (Below.refl _ _) _) _) _)) G6.out.1 (Kd.Qa8 G6.out.2.2.2 (QaK (Qai (Qai (Below.refl _ _) _) _) _)) G6.out.2.1 HK6.out).mono ?_; rintro e w4 ⟨rfl, m', rfl⟩))
    go_ret; exact ⟨rfl, by repeat (first | exact Below.refl _ _ | apply QaK | apply Qau | apply Qai)⟩
theorem verify1_calls (w : World) (b : Nat) (t u : Tok) (T U : Array Value) (hb : w.heap[b]? = some (.cells T 41 (0, 0))) (hT : TokA w t T) (hU : TokA w u U) :
    Calls Tryz.prog 38 #[.agg U, .pointer (some ⟨b, 0, none⟩)] w fun e w' => e = .returned (.bool (headB t u)) ∧ Below w.heap.size w w' := by
  have HH := Lib.hid (head_calls (w.alloc (.cells U 41 (0, 0))) t u T U (hT.below (Qai (Below.refl _ _) _)) (hU.below (Qai (Below.refl _ _) _))); have sT := hT.size; have sU := hU.size; have h1 := Lib.hid (range_block (Qam hb (.cells U 41 (0, 0))) 0 9); have h2 := Lib.hid (range_block (Qa1 w (.cells U 41 (0, 0))) 0 9); rw [show T.extract 0 (0 + 9) = T by rw [← sT]; simp] at h1; rw [show U.extract 0 (0 + 9) = U by rw [← sU]; simp] at h2; go_enter Tryz.func38, Tryz.ntmps38
  go_wp2_with (first | (refine QaF rfl 41 (.tmp 1) rfl _ rfl T _ h1.out Tryz.underlying41 rfl (by rw [sT]; kernel_rfl) ?_) | (refine QaF rfl 41 (.tmp 2) rfl _ rfl U _ h2.out Tryz.underlying41 rfl (by rw [sU]; kernel_rfl) ?_) | (go_at_call 39; refine HH.out.mono ?_; rintro e w3 ⟨rfl, hb3⟩; have HB3 := Lib.hid hb3; clear hb3))
  go_ret; exact ⟨rfl, Qac (Qai (Below.refl _ _) _) HB3.out⟩
def kRaw (n : Nat) : Kd (Array Value) where
  sz := n
  E := []
  K := fun _ x cs => cs = x.toList ∧ x.size = n ∧ ∀ u ∈ x.toList, u.oneCell' = true
  M := fun _ _ _ x cs => cs = x.toList ∧ x.size = n ∧ ∀ u ∈ x.toList, u.oneCell' = true
  K_len := by rintro _ x cs ⟨rfl, h, _⟩; simpa using h
  K_one := by rintro _ x cs ⟨rfl, _, h⟩; exact h
  K_below := fun _ h => h
  K_of_M := fun h => h
  M_mono := fun _ h => h
  M_bound := fun h => h
  M_move := fun _ h => h
  M_lower := fun _ h => h
theorem raw_get {n : Nat} {w : World} {A : Option Addr} {Ts : List (Array Value)} (h : Kd.C (kRaw n) w A Ts.length Ts) (i : Nat) (hi : i < Ts.length) : ∃ ad T, A = some ad ∧ Ts[i]? = some T ∧ T ∈ Ts ∧ Ts.take (i + 1) = Ts.take i ++ [T] ∧ T.size = n ∧ ∀ j v, T[j]? = some v → w.cell? ((ad.add (i * n)).add j) = some v := by
  obtain ⟨ad, c, e, _, hK, hc0⟩ := Kd.C_get h #[] (i : Int) (by omega) (by omega)
  have e1 : Ts.getD (i : Int).toNat #[] = Ts[i] := by rw [show (i : Int).toNat = i from rfl]; simp [List.getD, List.getElem?_eq_getElem hi]
  rw [e1] at hK; obtain ⟨rfl, h2, _⟩ := hK; exact ⟨ad, Ts[i], e, List.getElem?_eq_getElem hi, List.getElem_mem hi, by rw [List.take_add_one, List.getElem?_eq_getElem hi]; rfl, h2, fun j v hv => by rw [Addr.add_add]; exact hc0 j v (by rw [Array.getElem?_toList]; exact hv)⟩
set_option maxRecDepth 100000 in
set_option maxHeartbeats 4000000 in
theorem indexTok_calls (w : World) (A : Option Addr) (c b : Nat) (Ts : List (Array Value)) (fs : List Bool) (hfl : fs.length = Ts.length) (hC : Kd.C (kRaw 9) w A Ts.length Ts) (hc : Ts.length ≤ c)
    (hF : ∀ W, Below w.heap.size w W → ∀ (i : Nat) (T : Array Value) (y : Bool), Ts[i]? = some T → fs[i]? = some y → Calls Tryz.prog 38 #[.agg T, .pointer (some ⟨b, 0, none⟩)] W fun e w' => e = .returned (.bool y) ∧ Below W.heap.size W w') :
    Calls Tryz.prog 57 #[.slice A Ts.length c, .func (.func 38) #[] #[.pointer (some ⟨b, 0, none⟩)]] w fun e w' => ∃ v : Int, e = .returned (.int .i64 v) ∧ (v ≥ 0 ↔ fs.any id = true) ∧ Below w.heap.size w w' := by
  have HC := Lib.hid hC; have HF := Lib.hid hF; have hm := hC.2.1; clear hC hF; go_enter Tryz.func57, Tryz.ntmps57
  go_wp2_with fail
  go_loopg [8] (Ts.length + 1) (fun kq v8 w' => ∃ i : Nat, v8 = .int .i64 i ∧ Hid (kq = Ts.length + 1 - i) ∧ Hid (i ≤ Ts.length) ∧ Hid ((fs.take i).any id = false) ∧ Hid (Below w.heap.size w w'))
  case atStart => exact ⟨0, rfl, Lib.hid rfl, Lib.hid (Nat.zero_le _), Lib.hid rfl, Lib.hid (by repeat (first | exact Below.refl _ _ | apply QaK | apply Qau))⟩
  case round =>
    obtain ⟨i, rfl, HKq, HI, HN, HB⟩ := hrel
    by_cases hi : i < Ts.length
    · have d1 : decide ((i : Int) < (Ts.length : Int)) = true := decide_eq_true (by omega)
      have d2 : decide (i < Ts.length) = true := decide_eq_true hi
      have wrapI : wrap64 ((i : Int) + 1) = ((i + 1 : Nat) : Int) := by unfold wrap64; omega
      obtain ⟨ad, T, rfl, hget, hmem, htk, sT, hcell⟩ := raw_get (Kd.Qa8 HC.out HB.out) i hi; have HCell := Lib.hid hcell
      have q1 : (0 : Int) ≤ (i : Int) := by omega
      have q2 : (i : Int) < (Ts.length : Int) := by omega
      have HI2 := Lib.hid hi; clear hcell
      obtain ⟨y, hy⟩ : ∃ y, fs[i]? = some y := ⟨_, List.getElem?_eq_getElem (by omega)⟩
      have hst : (fs.take (i + 1)).any id = y := by
        rw [List.take_add_one, hy, List.any_append, HN.out]; simp
      have HSt := Lib.hid hst; have HAny := Lib.hid (show y = true → fs.any id = true from fun h => List.any_eq_true.mpr ⟨_, List.mem_of_getElem? hy, h⟩); have HT := Lib.hid (HF.out wr HB.out i T y hget hy); clear hst hi hmem htk hget hy
      cases y with
      | true =>
        go_wp2_with (first | (refine QaF rfl 41 (.tmp 14) rfl _ rfl T _ HCell.out Tryz.underlying41 rfl (by rw [sT]; kernel_rfl) ?_) | (go_at_call 38; refine HT.out.mono ?_; rintro e w3 ⟨rfl, hb3⟩; have HB3 := Lib.hid (Qac HB.out hb3); clear hb3))
        go_ret; exact ⟨(i : Int), rfl, ⟨fun _ => by first | exact HAny.out rfl | exact HAny.out trivial, fun _ => q1⟩, HB3.out⟩
      | false =>
        go_wp2_with (first | (refine QaF rfl 41 (.tmp 14) rfl _ rfl T _ HCell.out Tryz.underlying41 rfl (by rw [sT]; kernel_rfl) ?_) | (go_at_call 38; refine HT.out.mono ?_; rintro e w3 ⟨rfl, hb3⟩; have HB3 := Lib.hid (Qac HB.out hb3); clear hb3))
        go_roundg (Ts.length + 1 - (i + 1))
        case measure => have := HKq.out; have := HI2.out; omega
        case rel => exact ⟨i + 1, by first | rfl | exact congrArg _ wrapI, Lib.hid rfl, Lib.hid HI2.out, HSt, HB3⟩
    · have d1 : decide ((i : Int) < (Ts.length : Int)) = false := decide_eq_false (by omega)
      have d2 : decide (i < Ts.length) = false := decide_eq_false hi; have hN := HN.out; rw [List.take_of_length_le (by omega)] at hN; have HN2 := Lib.hid hN; clear hi hN
      go_wp2_with fail
      go_ret; exact ⟨-1, rfl, ⟨fun h => absurd h (by decide), fun h => by rw [HN2.out] at h; cases h⟩, HB.out⟩
set_option maxRecDepth 100000 in
set_option maxHeartbeats 4000000 in
theorem containsTok_calls (w : World) (A : Option Addr) (c b : Nat) (Ts : List (Array Value)) (fs : List Bool) (hfl : fs.length = Ts.length) (hC : Kd.C (kRaw 9) w A Ts.length Ts) (hc : Ts.length ≤ c)
    (hF : ∀ W, Below w.heap.size w W → ∀ (i : Nat) (T : Array Value) (y : Bool), Ts[i]? = some T → fs[i]? = some y → Calls Tryz.prog 38 #[.agg T, .pointer (some ⟨b, 0, none⟩)] W fun e w' => e = .returned (.bool y) ∧ Below W.heap.size W w') :
    Calls Tryz.prog 37 #[.slice A Ts.length c, .func (.func 38) #[] #[.pointer (some ⟨b, 0, none⟩)]] w fun e w' => e = .returned (.bool (fs.any id)) ∧ Below w.heap.size w w' := by
  have HI := Lib.hid (indexTok_calls w A c b Ts fs hfl hC hc hF); clear hC hF hc; go_enter Tryz.func37, Tryz.ntmps37
  go_wp2_with (go_at_call 57; refine HI.out.mono ?_; rintro e w3 ⟨v, rfl, hv, hb3⟩; have HV := Lib.hid hv; have HB3 := Lib.hid hb3; clear hb3 hv)
  go_ret
  have e : decide (0 ≤ v) = fs.any id := by
    rw [Bool.eq_iff_iff, decide_eq_true_eq, ← HV.out]
  exact ⟨congrArg (fun b => Ending.returned (.bool b)) e, HB3.out⟩
set_option maxRecDepth 100000 in
set_option maxHeartbeats 4000000 in
theorem indexRol_calls (w : World) (A : Option Addr) (c b b2 : Nat) (Ts : List (Array Value)) (fs : List Bool) (hfl : fs.length = Ts.length) (hC : Kd.C (kRaw 2) w A Ts.length Ts) (hc : Ts.length ≤ c)
    (hF : ∀ W, Below w.heap.size w W → ∀ (i : Nat) (T : Array Value) (y : Bool), Ts[i]? = some T → fs[i]? = some y → Calls Tryz.prog 55 #[.agg T, .pointer (some ⟨b, 0, none⟩), .pointer (some ⟨b2, 0, none⟩)] W fun e w' => e = .returned (.bool y) ∧ Below W.heap.size W w') :
    Calls Tryz.prog 66 #[.slice A Ts.length c, .func (.func 55) #[] #[.pointer (some ⟨b, 0, none⟩), .pointer (some ⟨b2, 0, none⟩)]] w fun e w' => ∃ v : Int, e = .returned (.int .i64 v) ∧ (v ≥ 0 ↔ fs.any id = true) ∧ Below w.heap.size w w' := by
  have HC := Lib.hid hC; have HF := Lib.hid hF; have hm := hC.2.1; clear hC hF; go_enter Tryz.func66, Tryz.ntmps66
  go_wp2_with fail
  go_loopg [8] (Ts.length + 1) (fun kq v8 w' => ∃ i : Nat, v8 = .int .i64 i ∧ Hid (kq = Ts.length + 1 - i) ∧ Hid (i ≤ Ts.length) ∧ Hid ((fs.take i).any id = false) ∧ Hid (Below w.heap.size w w'))
  case atStart => exact ⟨0, rfl, Lib.hid rfl, Lib.hid (Nat.zero_le _), Lib.hid rfl, Lib.hid (by repeat (first | exact Below.refl _ _ | apply QaK | apply Qau))⟩
  case round =>
    obtain ⟨i, rfl, HKq, HI, HN, HB⟩ := hrel
    by_cases hi : i < Ts.length
    · have d1 : decide ((i : Int) < (Ts.length : Int)) = true := decide_eq_true (by omega)
      have d2 : decide (i < Ts.length) = true := decide_eq_true hi
      have wrapI : wrap64 ((i : Int) + 1) = ((i + 1 : Nat) : Int) := by unfold wrap64; omega
      obtain ⟨ad, T, rfl, hget, hmem, htk, sT, hcell⟩ := raw_get (Kd.Qa8 HC.out HB.out) i hi; have HCell := Lib.hid hcell
      have q1 : (0 : Int) ≤ (i : Int) := by omega
      have q2 : (i : Int) < (Ts.length : Int) := by omega
      have HI2 := Lib.hid hi; clear hcell
      obtain ⟨y, hy⟩ : ∃ y, fs[i]? = some y := ⟨_, List.getElem?_eq_getElem (by omega)⟩
      have hst : (fs.take (i + 1)).any id = y := by
        rw [List.take_add_one, hy, List.any_append, HN.out]; simp
      have HSt := Lib.hid hst; have HAny := Lib.hid (show y = true → fs.any id = true from fun h => List.any_eq_true.mpr ⟨_, List.mem_of_getElem? hy, h⟩); have HT := Lib.hid (HF.out wr HB.out i T y hget hy); clear hst hi hmem htk hget hy
      cases y with
      | true =>
        go_wp2_with (first | (refine QaF rfl 33 (.tmp 14) rfl _ rfl T _ HCell.out Tryz.underlying33 rfl (by rw [sT]; kernel_rfl) ?_) | (go_at_call 55; refine HT.out.mono ?_; rintro e w3 ⟨rfl, hb3⟩; have HB3 := Lib.hid (Qac HB.out hb3); clear hb3))
        go_ret; exact ⟨(i : Int), rfl, ⟨fun _ => by first | exact HAny.out rfl | exact HAny.out trivial, fun _ => q1⟩, HB3.out⟩
      | false =>
        go_wp2_with (first | (refine QaF rfl 33 (.tmp 14) rfl _ rfl T _ HCell.out Tryz.underlying33 rfl (by rw [sT]; kernel_rfl) ?_) | (go_at_call 55; refine HT.out.mono ?_; rintro e w3 ⟨rfl, hb3⟩; have HB3 := Lib.hid (Qac HB.out hb3); clear hb3))
        go_roundg (Ts.length + 1 - (i + 1))
        case measure => have := HKq.out; have := HI2.out; omega
        case rel => exact ⟨i + 1, by first | rfl | exact congrArg _ wrapI, Lib.hid rfl, Lib.hid HI2.out, HSt, HB3⟩
    · have d1 : decide ((i : Int) < (Ts.length : Int)) = false := decide_eq_false (by omega)
      have d2 : decide (i < Ts.length) = false := decide_eq_false hi; have hN := HN.out; rw [List.take_of_length_le (by omega)] at hN; have HN2 := Lib.hid hN; clear hi hN
      go_wp2_with fail
      go_ret; exact ⟨-1, rfl, ⟨fun h => absurd h (by decide), fun h => by rw [HN2.out] at h; cases h⟩, HB.out⟩
set_option maxRecDepth 100000 in
set_option maxHeartbeats 4000000 in
theorem containsRol_calls (w : World) (A : Option Addr) (c b b2 : Nat) (Ts : List (Array Value)) (fs : List Bool) (hfl : fs.length = Ts.length) (hC : Kd.C (kRaw 2) w A Ts.length Ts) (hc : Ts.length ≤ c)
    (hF : ∀ W, Below w.heap.size w W → ∀ (i : Nat) (T : Array Value) (y : Bool), Ts[i]? = some T → fs[i]? = some y → Calls Tryz.prog 55 #[.agg T, .pointer (some ⟨b, 0, none⟩), .pointer (some ⟨b2, 0, none⟩)] W fun e w' => e = .returned (.bool y) ∧ Below W.heap.size W w') :
    Calls Tryz.prog 54 #[.slice A Ts.length c, .func (.func 55) #[] #[.pointer (some ⟨b, 0, none⟩), .pointer (some ⟨b2, 0, none⟩)]] w fun e w' => e = .returned (.bool (fs.any id)) ∧ Below w.heap.size w w' := by
  have HI := Lib.hid (indexRol_calls w A c b b2 Ts fs hfl hC hc hF); clear hC hF hc; go_enter Tryz.func54, Tryz.ntmps54
  go_wp2_with (go_at_call 66; refine HI.out.mono ?_; rintro e w3 ⟨v, rfl, hv, hb3⟩; have HV := Lib.hid hv; have HB3 := Lib.hid hb3; clear hb3 hv)
  go_ret
  have e : decide (0 ≤ v) = fs.any id := by
    rw [Bool.eq_iff_iff, decide_eq_true_eq, ← HV.out]
  exact ⟨congrArg (fun b => Ending.returned (.bool b)) e, HB3.out⟩
inductive Said (cs : List Cred) : Pair → Prop
  | member {c : Cred} : c ∈ cs → c.f2 = 1 → Said cs ⟨credRole c, c.f3⟩
  | incl {c : Cred} {u : ByteArray} : c ∈ cs → c.f2 = 2 → Said cs ⟨c.f4, u⟩ → Said cs ⟨credRole c, u⟩
  | link {c : Cred} {u v : ByteArray} : c ∈ cs → c.f2 = 3 → Said cs ⟨linkFirst c, u⟩ → numName u > 0 → Said cs ⟨⟨u, c.f5.f1⟩, v⟩ → Said cs ⟨credRole c, v⟩
  | both {c : Cred} {u : ByteArray} : c ∈ cs → c.f2 = 4 → Said cs ⟨c.f4, u⟩ → Said cs ⟨c.f5, u⟩ → Said cs ⟨credRole c, u⟩
def small (s : ByteArray) : Prop := s.size ≤ 8
def smallR (r : Role) : Prop := small r.f0 ∧ small r.f1
theorem Qb2 {s : ByteArray} (h : small s) : s.size ≤ maxLen := Nat.le_trans h (by decide)
theorem mayName_small {s : ByteArray} (h : mayName s = true) : small s := by
  unfold mayName at h; simp only [Bool.and_eq_true, decide_eq_true_eq] at h; unfold small; omega
theorem domName_small (n : Int) : small (domName n) := by
  by_cases h : 1 ≤ n ∧ n ≤ 16
  · obtain ⟨h, h'⟩ := h
    have : n = 1 ∨ n = 2 ∨ n = 3 ∨ n = 4 ∨ n = 5 ∨ n = 6 ∨ n = 7 ∨ n = 8 ∨ n = 9 ∨ n = 10 ∨ n = 11 ∨ n = 12 ∨ n = 13 ∨ n = 14 ∨ n = 15 ∨ n = 16 := by omega
    rcases this with rfl | rfl | rfl | rfl | rfl | rfl | rfl | rfl | rfl | rfl | rfl | rfl | rfl | rfl | rfl | rfl <;> (unfold small; decide)
  · rw [domName_out n (by omega)]
    unfold small
    decide
theorem numName_small {s : ByteArray} (h : numName s > 0) : small s := by
  rcases numName_spec s with ⟨m, _, _, h3, _⟩ | ⟨_, h2⟩
  · rw [← h3]; exact domName_small m
  · omega
theorem numName_dom {n : Int} (h : 1 ≤ n) (h' : n ≤ 16) : numName (domName n) > 0 := by
  rcases numName_spec (domName n) with ⟨m, h1, _, _, h4⟩ | ⟨h1, _⟩
  · omega
  · exact absurd rfl (h1 n h h')
theorem roleOk_small {r : Role} (h : roleOk r = true) : smallR r := by
  unfold roleOk at h; rw [Bool.and_eq_true, decide_eq_true_eq] at h; exact ⟨numName_small h.1, mayName_small h.2⟩
theorem bareOk_small {r : Role} (h : bareOk r = true) : small r.f1 := by
  unfold bareOk at h; rw [Bool.and_eq_true] at h; exact mayName_small h.2
theorem QbD {c : Cred} (h : credMay c = true) : (1 ≤ c.f0.f0 ∧ c.f0.f0 ≤ 16) ∧ small c.f1 ∧ ((c.f2 = 1 ∧ small c.f3) ∨ (c.f2 = 2 ∧ smallR c.f4) ∨ (c.f2 = 3 ∧ small c.f4.f1 ∧ small c.f5.f1) ∨ (c.f2 = 4 ∧ smallR c.f4 ∧ smallR c.f5)) := by
  unfold credMay at h; rw [Bool.and_eq_true, Bool.and_eq_true, Bool.and_eq_true, decide_eq_true_eq] at h; refine ⟨h.1.1.1, mayName_small h.1.2, ?_⟩; have h2 := h.2
  by_cases k1 : c.f2 = 1
  · rw [if_pos k1, Bool.and_eq_true] at h2
    exact .inl ⟨k1, mayName_small h2.1⟩
  rw [if_neg k1] at h2
  by_cases k2 : c.f2 = 2
  · rw [if_pos k2, Bool.and_eq_true] at h2
    exact .inr (.inl ⟨k2, roleOk_small h2.1⟩)
  rw [if_neg k2] at h2
  by_cases k3 : c.f2 = 3
  · rw [if_pos k3, Bool.and_eq_true, Bool.and_eq_true] at h2
    exact .inr (.inr (.inl ⟨k3, bareOk_small h2.1, bareOk_small h2.2.1⟩))
  rw [if_neg k3] at h2
  by_cases k4 : c.f2 = 4
  · rw [if_pos k4, Bool.and_eq_true, Bool.and_eq_true] at h2
    exact .inr (.inr (.inr ⟨k4, roleOk_small h2.1, roleOk_small h2.2.1⟩))
  rw [if_neg k4] at h2; cases h2
def Mays (cs : List Cred) : Prop := ∀ c ∈ cs, credMay c = true
theorem Said.within {cs : List Cred} {p : Pair} (h : Said cs p) : (∃ c ∈ cs, p.f0 = credRole c) ∧ ∃ c ∈ cs, c.f2 = 1 ∧ p.f1 = c.f3 := by
  induction h with
  | member hc hk => exact ⟨⟨_, hc, rfl⟩, _, hc, hk, rfl⟩
  | incl hc hk _ ih => exact ⟨⟨_, hc, rfl⟩, ih.2⟩
  | link hc hk _ _ _ _ ih => exact ⟨⟨_, hc, rfl⟩, ih.2⟩
  | both hc hk _ _ ih _ => exact ⟨⟨_, hc, rfl⟩, ih.2⟩
theorem Said.smalls {cs : List Cred} (hm : Mays cs) {p : Pair} (h : Said cs p) : smallR p.f0 ∧ small p.f1 := by
  obtain ⟨⟨c, hc, e⟩, c', hc', hk, e'⟩ := h.within; obtain ⟨_, h1, _⟩ := QbD (hm c hc); obtain ⟨_, _, h2⟩ := QbD (hm c' hc'); rw [e, e']; refine ⟨⟨domName_small _, h1⟩, ?_⟩
  rcases h2 with h2 | h2 | h2 | h2
  · exact h2.2
  · omega
  · omega
  · omega
theorem Said.okPair {cs : List Cred} (hm : Mays cs) {p : Pair} (h : Said cs p) : okPair p := by
  obtain ⟨⟨h0, h1⟩, h2⟩ := h.smalls hm; exact ⟨Qb2 h0, Qb2 h1, Qb2 h2⟩
theorem Said.owner {cs : List Cred} (hm : Mays cs) {p : Pair} (h : Said cs p) : numName p.f0.f0 > 0 := by
  obtain ⟨⟨c, hc, e⟩, _⟩ := h.within; obtain ⟨h0, _⟩ := QbD (hm c hc); rw [e]; exact numName_dom h0.1 h0.2
theorem flatMap_len {α β : Type} (f : α → List β) (n : Nat) (h : ∀ c, (f c).length = n) : ∀ l : List α, (l.flatMap f).length = l.length * n
  | [] => by simp
  | a :: l => by rw [List.flatMap_cons, List.length_append, h a, flatMap_len f n h l, List.length_cons, Nat.succ_mul, Nat.add_comm]
theorem said_all {cs : List Cred} {l : List Pair} (hn : l.Nodup) (h : ∀ p ∈ l, Said cs p) : l.length ≤ cs.length * cs.length := by
  have := nodup_le (m := cs.flatMap fun c => cs.map fun c' => (⟨credRole c, c'.f3⟩ : Pair)) hn (fun p hp => by
    obtain ⟨⟨c, hc, e⟩, c', hc', _, e'⟩ := (h p hp).within
    exact List.mem_flatMap.mpr ⟨c, hc, List.mem_map.mpr ⟨c', hc', Qbw e.symm e'.symm⟩⟩)
  exact Nat.le_trans this (Nat.le_of_eq (flatMap_len _ cs.length (fun c => by simp) cs))
theorem said_400 {cs : List Cred} (hl : cs.length ≤ 20) {l : List Pair} (hn : l.Nodup) (h : ∀ p ∈ l, Said cs p) : l.length ≤ 400 :=
  Nat.le_trans (said_all hn h) (Nat.mul_le_mul hl hl)
theorem Said.mono {cs cs' : List Cred} (h : ∀ c ∈ cs, c ∈ cs') {p : Pair} (hp : Said cs p) : Said cs' p := by
  induction hp with
  | member hc hk => exact .member (h _ hc) hk
  | incl hc hk _ ih => exact .incl (h _ hc) hk ih
  | link hc hk _ hn _ ih1 ih2 => exact .link (h _ hc) hk ih1 hn ih2
  | both hc hk _ _ ih1 ih2 => exact .both (h _ hc) hk ih1 ih2
structure Good (cs : List Cred) (s : St) : Prop where
  nodup : s.known.Nodup
  said : ∀ p ∈ s.known, Said cs p
  suffix : ∃ done, s.known = done ++ s.waits
def Grows (s s' : St) : Prop := ∃ l, s'.known = s.known ++ l ∧ s'.waits = s.waits ++ l
theorem Grows.refl (s : St) : Grows s s := ⟨[], by simp, by simp⟩
theorem Grows.trans {s s' s'' : St} (h : Grows s s') (h' : Grows s' s'') : Grows s s'' := by
  obtain ⟨l, h1, h2⟩ := h; obtain ⟨l', h3, h4⟩ := h'; exact ⟨l ++ l', by rw [h3, h1, List.append_assoc], by rw [h4, h2, List.append_assoc]⟩
theorem Grows.mem {s s' : St} (h : Grows s s') {p : Pair} (hp : p ∈ s.known) : p ∈ s'.known := by
  obtain ⟨l, h1, _⟩ := h; rw [h1]; exact List.mem_append_left _ hp
def Runs (cs : List Cred) (s : St) (r : Option St) (W : Pair → Prop) : Prop := ∃ s', r = some s' ∧ Good cs s' ∧ Grows s s' ∧ ∀ q, W q → q ∈ s'.known
theorem Runs.none {cs : List Cred} {s : St} {W : Pair → Prop} (h : Good cs s) (hW : ∀ q, ¬ W q) : Runs cs s (some s) W := ⟨s, rfl, h, .refl s, fun q hq => absurd hq (hW q)⟩
theorem Runs.bind {cs : List Cred} {s : St} {r : Option St} {f : St → Option St} {W1 W2 W : Pair → Prop} (h : Runs cs s r W1) (hf : ∀ s', Good cs s' → Grows s s' → Runs cs s' (f s') W2) (hW : ∀ q, W q → W1 q ∨ W2 q) : Runs cs s (r.bind f) W := by
  obtain ⟨s1, rfl, g1, gr1, w1⟩ := h; obtain ⟨s2, e2, g2, gr2, w2⟩ := hf s1 g1 gr1; exact ⟨s2, e2, g2, gr1.trans gr2, fun q hq => (hW q hq).elim (fun h => gr2.mem (w1 q h)) (w2 q)⟩
theorem Runs.imp {cs : List Cred} {s : St} {r : Option St} {W W' : Pair → Prop} (h : Runs cs s r W) (hW : ∀ q, W' q → W q) : Runs cs s r W' := by
  obtain ⟨s1, e, g1, gr1, w1⟩ := h; exact ⟨s1, e, g1, gr1, fun q hq => w1 q (hW q hq)⟩
theorem learn_runs {cs : List Cred} (hm : Mays cs) (hl : cs.length ≤ 20) {s : St} (g : Good cs s) {p : Pair} (hp : Said cs p) : Runs cs s (s.learn p) (fun q => q = p) := by
  unfold St.learn
  by_cases hin : p ∈ s.known
  · rw [if_pos hin]
    exact ⟨s, rfl, g, .refl s, fun q e => e ▸ hin⟩
  · have h400 := said_400 hl g.nodup g.said
    obtain ⟨done, hd⟩ := g.suffix
    have hw : s.waits.length ≤ 400 := by
      have := congrArg List.length hd; rw [List.length_append] at this; omega
    rw [if_neg hin, if_pos ⟨by omega, by omega, hp.okPair hm⟩]; refine ⟨_, rfl, ⟨?_, ?_, done, ?_⟩, ⟨[p], rfl, rfl⟩, fun q e => ?_⟩
    · show (s.known ++ [p]).Nodup
      rw [List.nodup_append]; refine ⟨g.nodup, by simp, ?_⟩; intro a ha b hb e; rw [List.mem_singleton] at hb; exact hin (hb ▸ e ▸ ha)
    · intro q hq
      rcases List.mem_append.mp hq with h | h
      · exact g.said q h
      · rw [List.mem_singleton.mp h]; exact hp
    · show s.known ++ [p] = done ++ (s.waits ++ [p])
      rw [hd, List.append_assoc]
    · subst e
      exact List.mem_append_right _ (by simp)
theorem members_runs {cs : List Cred} (hm : Mays cs) (hl : cs.length ≤ 20) : ∀ (l : List Cred) (s : St), (∀ c ∈ l, c ∈ cs) → Good cs s → Runs cs s (membersF l s) (fun q => ∃ c ∈ l, c.f2 = 1 ∧ q = ⟨credRole c, c.f3⟩)
  | [], s, _, g => .none g (fun q h => by obtain ⟨c, hc, _⟩ := h; cases hc)
  | c :: l, s, hs, g => by
    rw [membersF]
    by_cases k : c.f2 = 1
    · rw [if_pos k]
      refine (learn_runs hm hl g (.member (hs c (List.mem_cons_self ..)) k)).bind (fun s' g' _ => members_runs hm hl l s' (fun x hx => hs x (List.mem_cons_of_mem _ hx)) g') ?_; rintro q ⟨c', hc', hk', e⟩
      rcases List.mem_cons.mp hc' with rfl | h
      · exact .inl e
      · exact .inr ⟨c', h, hk', e⟩
    · rw [if_neg k]
      refine (members_runs hm hl l s (fun x hx => hs x (List.mem_cons_of_mem _ hx)) g).imp ?_; rintro q ⟨c', hc', hk', e⟩
      rcases List.mem_cons.mp hc' with rfl | h
      · exact absurd hk' k
      · exact ⟨c', h, hk', e⟩
theorem learnMany_runs {cs : List Cred} (hm : Mays cs) (hl : cs.length ≤ 20) (c : Cred) (second : Role) : ∀ (l : List Pair) (s : St), (∀ q ∈ l, q.f0 = second → Said cs ⟨credRole c, q.f1⟩) → Good cs s → Runs cs s (learnMany c second l s) (fun r => ∃ q ∈ l, q.f0 = second ∧ r = ⟨credRole c, q.f1⟩)
  | [], s, _, g => .none g (fun q h => by obtain ⟨c, hc, _⟩ := h; cases hc)
  | q :: l, s, hs, g => by
    rw [learnMany]
    by_cases k : q.f0 = second
    · rw [if_pos k]
      refine (learn_runs hm hl g (hs q (List.mem_cons_self ..) k)).bind (fun s' g' _ => learnMany_runs hm hl c second l s' (fun x hx => hs x (List.mem_cons_of_mem _ hx)) g') ?_; rintro r ⟨q', hq', hk', e⟩
      rcases List.mem_cons.mp hq' with rfl | h
      · exact .inl e
      · exact .inr ⟨q', h, hk', e⟩
    · rw [if_neg k]
      refine (learnMany_runs hm hl c second l s (fun x hx => hs x (List.mem_cons_of_mem _ hx)) g).imp ?_; rintro r ⟨q', hq', hk', e⟩
      rcases List.mem_cons.mp hq' with rfl | h
      · exact absurd hk' k
      · exact ⟨q', h, hk', e⟩
theorem sortPairs_mem {l : List Pair} {p : Pair} : p ∈ sortPairs l ↔ p ∈ l := (List.mergeSort_perm l _).mem_iff
inductive Rule (c : Cred) (p : Pair) (K : List Pair) : Pair → Prop
  | incl : c.f2 = 2 → p.f0 = c.f4 → Rule c p K ⟨credRole c, p.f1⟩
  | linkA {v : ByteArray} : c.f2 = 3 → p.f0 = linkFirst c → numName p.f1 > 0 → (⟨⟨p.f1, c.f5.f1⟩, v⟩ : Pair) ∈ K → Rule c p K ⟨credRole c, v⟩
  | linkB : c.f2 = 3 → p.f0.f1 = c.f5.f1 → (⟨linkFirst c, p.f0.f0⟩ : Pair) ∈ K → Rule c p K ⟨credRole c, p.f1⟩
  | bothA : c.f2 = 4 → p.f0 = c.f4 → (⟨c.f5, p.f1⟩ : Pair) ∈ K → Rule c p K ⟨credRole c, p.f1⟩
  | bothB : c.f2 = 4 → p.f0 = c.f5 → (⟨c.f4, p.f1⟩ : Pair) ∈ K → Rule c p K ⟨credRole c, p.f1⟩
theorem Rule.mono {c : Cred} {p : Pair} {K K' : List Pair} (h : ∀ x ∈ K, x ∈ K') {r : Pair} (hr : Rule c p K r) : Rule c p K' r := by
  cases hr with
  | incl a b => exact .incl a b
  | linkA a b d e => exact .linkA a b d (h _ e)
  | linkB a b d => exact .linkB a b (h _ d)
  | bothA a b d => exact .bothA a b (h _ d)
  | bothB a b d => exact .bothB a b (h _ d)
theorem linkA_runs {cs : List Cred} (hm : Mays cs) (hl : cs.length ≤ 20) {c : Cred} (hc : c ∈ cs) (k : c.f2 = 3) {p : Pair} (s : St) (hp : p ∈ s.known) (g : Good cs s) : Runs cs s (linkA c p s) (fun r => p.f0 = linkFirst c ∧ numName p.f1 > 0 ∧ ∃ v, (⟨⟨p.f1, c.f5.f1⟩, v⟩ : Pair) ∈ s.known ∧ r = ⟨credRole c, v⟩) := by
  unfold linkA
  by_cases e1 : p.f0 = linkFirst c
  · rw [if_pos e1, number_is _ 20 (by omega), Option.bind_some]
    by_cases hn : numName p.f1 > 0
    · have h400 := said_400 hl g.nodup g.said
      rw [if_pos hn, if_pos (by omega)]; refine (learnMany_runs hm hl c _ _ s ?_ g).imp ?_
      · intro q hq e
        have hq' := g.said q (sortPairs_mem.mp hq); have hp' := g.said p hp; have eq : q = ⟨⟨p.f1, c.f5.f1⟩, q.f1⟩ := Qbw e rfl; have ep : p = ⟨linkFirst c, p.f1⟩ := Qbw e1 rfl; rw [ep] at hp'; rw [eq] at hq'; exact .link hc k hp' hn hq'
      · rintro r ⟨_, _, v, hv, e⟩
        exact ⟨_, sortPairs_mem.mpr hv, rfl, e⟩
    · rw [if_neg hn]
      exact .none g (fun q h => hn h.2.1)
  · rw [if_neg e1]
    exact .none g (fun q h => e1 h.1)
theorem linkB_runs {cs : List Cred} (hm : Mays cs) (hl : cs.length ≤ 20) {c : Cred} (hc : c ∈ cs) (k : c.f2 = 3) {p : Pair} (s : St) (hp : p ∈ s.known) (g : Good cs s) : Runs cs s (linkB c p s) (fun r => p.f0.f1 = c.f5.f1 ∧ (⟨linkFirst c, p.f0.f0⟩ : Pair) ∈ s.known ∧ r = ⟨credRole c, p.f1⟩) := by
  unfold linkB; have hp' := g.said p hp
  by_cases e1 : p.f0.f1 = c.f5.f1
  · obtain ⟨_, h1, h2⟩ := QbD (hm c hc)
    have hok : okPair ⟨linkFirst c, p.f0.f0⟩ := by
      refine ⟨Qb2 (domName_small _), ?_, (hp'.okPair hm).1⟩
      rcases h2 with h2 | h2 | h2 | h2
      · omega
      · omega
      · exact Qb2 h2.2.1
      · omega
    rw [if_pos e1, if_pos hok]
    by_cases hin : (⟨linkFirst c, p.f0.f0⟩ : Pair) ∈ s.known
    · rw [if_pos hin]
      refine (learn_runs hm hl g ?_).imp ?_
      · have ep : p = ⟨⟨p.f0.f0, c.f5.f1⟩, p.f1⟩ := Qbw (role_ext rfl e1) rfl
        have hn := hp'.owner hm; have hp2 := hp'; rw [ep] at hp2; exact .link hc k (g.said _ hin) hn hp2
      · rintro r ⟨_, _, e⟩
        exact e
    · rw [if_neg hin]
      exact .none g (fun q h => hin h.2.1)
  · rw [if_neg e1]
    exact .none g (fun q h => e1 h.1)
theorem bothS_runs {cs : List Cred} (hm : Mays cs) (hl : cs.length ≤ 20) {c : Cred} (hc : c ∈ cs) (k : c.f2 = 4) {p : Pair} (s : St) (hp : p ∈ s.known) (g : Good cs s) : Runs cs s (bothSecond c p s) (fun r => p.f0 = c.f5 ∧ (⟨c.f4, p.f1⟩ : Pair) ∈ s.known ∧ r = ⟨credRole c, p.f1⟩) := by
  unfold bothSecond; have hp' := g.said p hp
  by_cases e1 : p.f0 = c.f5
  · obtain ⟨_, h1, h2⟩ := QbD (hm c hc)
    have hok : okPair ⟨c.f4, p.f1⟩ := by
      rcases h2 with h2 | h2 | h2 | h2
      · omega
      · omega
      · omega
      · exact ⟨Qb2 h2.2.1.1, Qb2 h2.2.1.2, (hp'.okPair hm).2.2⟩
    rw [if_pos e1, if_pos hok]
    by_cases hin : (⟨c.f4, p.f1⟩ : Pair) ∈ s.known
    · rw [if_pos hin]
      refine (learn_runs hm hl g ?_).imp ?_
      · have ep : p = ⟨c.f5, p.f1⟩ := Qbw e1 rfl
        have hp2 := hp'; rw [ep] at hp2; exact .both hc k (g.said _ hin) hp2
      · rintro r ⟨_, _, e⟩
        exact e
    · rw [if_neg hin]
      exact .none g (fun q h => hin h.2.1)
  · rw [if_neg e1]
    exact .none g (fun q h => e1 h.1)
theorem both_runs {cs : List Cred} (hm : Mays cs) (hl : cs.length ≤ 20) {c : Cred} (hc : c ∈ cs) (k : c.f2 = 4) {p : Pair} (s : St) (hp : p ∈ s.known) (g : Good cs s) : Runs cs s (bothF c p s) (fun r => Rule c p s.known r) := by
  unfold bothF; have hp' := g.said p hp; have key : Runs cs s (bothSecond c p s) (fun r => p.f0 = c.f5 ∧ (⟨c.f4, p.f1⟩ : Pair) ∈ s.known ∧ r = ⟨credRole c, p.f1⟩) := bothS_runs hm hl hc k s hp g
  have other : ∀ r, Rule c p s.known r → (¬ (p.f0 = c.f4 ∧ (⟨c.f5, p.f1⟩ : Pair) ∈ s.known)) → p.f0 = c.f5 ∧ (⟨c.f4, p.f1⟩ : Pair) ∈ s.known ∧ r = ⟨credRole c, p.f1⟩ := by
    intro r hr hno
    cases hr with
    | incl a b => omega
    | linkA a b d e => omega
    | linkB a b d => omega
    | bothA a b d => exact absurd ⟨b, d⟩ hno
    | bothB a b d => exact ⟨b, d, rfl⟩
  by_cases e1 : p.f0 = c.f4
  · obtain ⟨_, h1, h2⟩ := QbD (hm c hc)
    have hok : okPair ⟨c.f5, p.f1⟩ := by
      rcases h2 with h2 | h2 | h2 | h2
      · omega
      · omega
      · omega
      · exact ⟨Qb2 h2.2.2.1, Qb2 h2.2.2.2, (hp'.okPair hm).2.2⟩
    rw [if_pos e1, if_pos hok]
    by_cases hin : (⟨c.f5, p.f1⟩ : Pair) ∈ s.known
    · rw [if_pos hin]
      refine (learn_runs hm hl g ?_).imp ?_
      · have ep : p = ⟨c.f4, p.f1⟩ := Qbw e1 rfl
        have hp2 := hp'; rw [ep] at hp2; exact .both hc k hp2 (g.said _ hin)
      · intro r hr
        cases hr with
        | incl a b => omega
        | linkA a b d e => omega
        | linkB a b d => omega
        | bothA a b d => rfl
        | bothB a b d => rfl
    · rw [if_neg hin]
      exact key.imp fun r hr => other r hr (fun h => hin h.2)
  · rw [if_neg e1]
    exact key.imp fun r hr => other r hr (fun h => e1 h.1)
theorem step_runs {cs : List Cred} (hm : Mays cs) (hl : cs.length ≤ 20) {c : Cred} (hc : c ∈ cs) {p : Pair} (s : St) (hp : p ∈ s.known) (g : Good cs s) : Runs cs s (stepF p c s) (fun r => Rule c p s.known r) := by
  unfold stepF
  by_cases k1 : c.f2 = 1
  · rw [if_pos k1]
    refine .none g (fun q h => ?_)
    cases h <;> omega
  rw [if_neg k1]
  by_cases k3 : c.f2 = 3
  · rw [if_pos k3]
    unfold linkF; refine (linkA_runs hm hl hc k3 s hp g).bind (W2 := fun r => p.f0.f1 = c.f5.f1 ∧ (⟨linkFirst c, p.f0.f0⟩ : Pair) ∈ s.known ∧ r = ⟨credRole c, p.f1⟩) (fun s' g' gr => (linkB_runs hm hl hc k3 s' (gr.mem hp) g').imp (fun q h => ⟨h.1, gr.mem h.2.1, h.2.2⟩)) ?_; intro r hr
    cases hr with
    | incl a b => omega
    | linkA a b d e => exact .inl ⟨b, d, _, e, rfl⟩
    | linkB a b d => exact .inr ⟨b, d, rfl⟩
    | bothA a b d => omega
    | bothB a b d => omega
  rw [if_neg k3]
  by_cases k4 : c.f2 = 4
  · rw [if_pos k4]
    exact both_runs hm hl hc k4 s hp g
  rw [if_neg k4]
  have k2 : c.f2 = 2 := by
    obtain ⟨_, _, h2⟩ := QbD (hm c hc)
    rcases h2 with h2 | h2 | h2 | h2
    · omega
    · exact h2.1
    · omega
    · omega
  unfold includeF
  by_cases e1 : p.f0 = c.f4
  · rw [if_pos e1]
    refine (learn_runs hm hl g ?_).imp ?_
    · have ep : p = ⟨c.f4, p.f1⟩ := Qbw e1 rfl
      have hp2 := g.said p hp; rw [ep] at hp2; exact .incl hc k2 hp2
    · intro r hr
      cases hr with
      | incl a b => rfl
      | linkA a b d e => omega
      | linkB a b d => omega
      | bothA a b d => omega
      | bothB a b d => omega
  · rw [if_neg e1]
    refine .none g (fun r hr => ?_)
    cases hr with
    | incl a b => exact e1 b
    | linkA a b d e => omega
    | linkB a b d => omega
    | bothA a b d => omega
    | bothB a b d => omega
theorem steps_runs {cs : List Cred} (hm : Mays cs) (hl : cs.length ≤ 20) {p : Pair} (K : List Pair) : ∀ (l : List Cred) (s : St), (∀ c ∈ l, c ∈ cs) → p ∈ s.known → (∀ x ∈ K, x ∈ s.known) → Good cs s → Runs cs s (stepsF p l s) (fun r => ∃ c ∈ l, Rule c p K r)
  | [], s, _, _, _, g => .none g (fun q h => by obtain ⟨c, hc, _⟩ := h; cases hc)
  | c :: l, s, hs, hp, hK, g => by
    rw [stepsF]; refine (step_runs hm hl (hs c (List.mem_cons_self ..)) s hp g).bind (fun s' g' gr => steps_runs hm hl K l s' (fun x hx => hs x (List.mem_cons_of_mem _ hx)) (gr.mem hp) (fun x hx => gr.mem (hK x hx)) g') ?_; rintro r ⟨c', hc', hr⟩
    rcases List.mem_cons.mp hc' with rfl | h
    · exact .inl (hr.mono hK)
    · exact .inr ⟨c', h, hr⟩
def Dealt (cs : List Cred) (s : St) : Prop := (∀ c ∈ cs, c.f2 = 1 → (⟨credRole c, c.f3⟩ : Pair) ∈ s.known) ∧ ∃ done, s.known = done ++ s.waits ∧ ∀ a ∈ done, ∀ c ∈ cs, ∀ r, Rule c a done r → r ∈ s.known
theorem dealt_step {cs : List Cred} (hm : Mays cs) (hl : cs.length ≤ 20) {s : St} (g : Good cs s) (d : Dealt cs s) {p : Pair} {ws : List Pair} (e : s.waits = p :: ws) :
    ∃ s', stepsF p cs ⟨s.known, ws⟩ = some s' ∧ Good cs s' ∧ Dealt cs s' ∧ s'.known.length - s'.waits.length = s.known.length - s.waits.length + 1 ∧ s'.waits.length ≤ s'.known.length := by
  obtain ⟨hM, done, hd, hC⟩ := d
  have hd2 : s.known = (done ++ [p]) ++ ws := by rw [hd, e]; simp
  have g1 : Good cs ⟨s.known, ws⟩ := ⟨g.nodup, g.said, done ++ [p], hd2⟩
  have hpk : p ∈ s.known := by rw [hd2]; simp
  have hsub : ∀ x ∈ done ++ [p], x ∈ s.known := fun x hx => by rw [hd2]; exact List.mem_append_left _ hx
  obtain ⟨s', es, g', ⟨l, hk, hw⟩, hW⟩ := steps_runs hm hl (p := p) (done ++ [p]) cs ⟨s.known, ws⟩ (fun c h => h) hpk hsub g1; have hk' : s'.known = s.known ++ l := hk; have hw' : s'.waits = ws ++ l := hw
  have up : ∀ x ∈ s.known, x ∈ s'.known := fun x hx => by rw [hk']; exact List.mem_append_left _ hx
  refine ⟨s', es, g', ⟨fun c hc k => up _ (hM c hc k), done ++ [p], by rw [hk', hw', hd2]; simp, ?_⟩, ?_, ?_⟩
  · intro a ha c hc r hr
    by_cases eap : a = p
    · subst eap
      exact hW r ⟨c, hc, hr⟩
    · have had : a ∈ done := by
        rcases List.mem_append.mp ha with h | h
        · exact h
        · exact absurd (List.mem_singleton.mp h) eap
      have sa : Said cs a := g.said a (hsub a ha)
      have split : ∀ x, x ∈ done ++ [p] → x ∈ done ∨ x = p := fun x hx => (List.mem_append.mp hx).imp id (fun h => List.mem_singleton.mp h)
      cases hr with
      | incl k b => exact up _ (hC a had c hc _ (.incl k b))
      | linkA k b n h =>
        rcases split _ h with h | h
        · exact up _ (hC a had c hc _ (.linkA k b n h))
        · have e0 : p.f0.f0 = a.f1 := by rw [← h]
          have e1 : p.f0.f1 = c.f5.f1 := by rw [← h]
          have e2 := congrArg S102.f1 h; have := Rule.linkB (c := c) (p := p) (K := done ++ [p]) k e1 (by rw [e0, show (⟨linkFirst c, a.f1⟩ : Pair) = a from Qbw b.symm rfl]; exact ha); rw [← e2] at this; exact hW _ ⟨c, hc, this⟩
      | linkB k b h =>
        rcases split _ h with h | h
        · exact up _ (hC a had c hc _ (.linkB k b h))
        · have e0 : p.f0 = linkFirst c := by rw [← h]
          have e1 : p.f1 = a.f0.f0 := by rw [← h]
          have := Rule.linkA (c := c) (p := p) (K := done ++ [p]) (v := a.f1) k e0 (by rw [e1]; exact sa.owner hm) (by rw [e1, show (⟨⟨a.f0.f0, c.f5.f1⟩, a.f1⟩ : Pair) = a from Qbw (role_ext rfl b.symm) rfl]; exact ha); exact hW _ ⟨c, hc, this⟩
      | bothA k b h =>
        rcases split _ h with h | h
        · exact up _ (hC a had c hc _ (.bothA k b h))
        · have e0 : p.f0 = c.f5 := by rw [← h]
          have e1 : p.f1 = a.f1 := by rw [← h]
          have := Rule.bothB (c := c) (p := p) (K := done ++ [p]) k e0 (by rw [e1, show (⟨c.f4, a.f1⟩ : Pair) = a from Qbw b.symm rfl]; exact ha); rw [e1] at this; exact hW _ ⟨c, hc, this⟩
      | bothB k b h =>
        rcases split _ h with h | h
        · exact up _ (hC a had c hc _ (.bothB k b h))
        · have e0 : p.f0 = c.f4 := by rw [← h]
          have e1 : p.f1 = a.f1 := by rw [← h]
          have := Rule.bothA (c := c) (p := p) (K := done ++ [p]) k e0 (by rw [e1, show (⟨c.f5, a.f1⟩ : Pair) = a from Qbw b.symm rfl]; exact ha); rw [e1] at this; exact hW _ ⟨c, hc, this⟩
  · rw [hk', hw', hd2, e]
    simp; omega
  · rw [hk', hw', hd2]
    simp; omega
theorem loop_said {cs : List Cred} (hm : Mays cs) (hl : cs.length ≤ 20) : ∀ (k : Nat) (s : St), Good cs s → Dealt cs s → s.waits.length ≤ s.known.length → 401 - (s.known.length - s.waits.length) ≤ k → 1 ≤ k → ∃ s', loopF cs k s = some s' ∧ Good cs s' ∧ Dealt cs s' ∧ s'.waits = []
  | 0, s, _, _, _, _, h => by omega
  | k + 1, s, g, d, hle, hk, _ => by
    rw [loopF]
    cases e : s.waits with
    | nil => exact ⟨s, rfl, g, d, e⟩
    | cons p ws =>
      obtain ⟨s1, e1, g1, d1, h1, h2⟩ := dealt_step hm hl g d e; have h400 := said_400 hl g1.nodup g1.said
      show ∃ s', ((stepsF p cs ⟨s.known, ws⟩).bind (loopF cs k)) = some s' ∧ _
      rw [e1, Option.bind_some]; exact loop_said hm hl k s1 g1 d1 h2 (by omega) (by omega)
theorem run_said {cs : List Cred} (hm : Mays cs) (hl : cs.length ≤ 20) : ∃ s, runF 2000 cs = some s ∧ s.known.Nodup ∧ (∀ p, p ∈ s.known ↔ Said cs p) := by
  have g0 : Good cs ⟨[], []⟩ := ⟨List.nodup_nil, fun p hp => by (cases hp), [], rfl⟩
  obtain ⟨s1, e1, g1, ⟨l, hk, hw⟩, hW⟩ := members_runs hm hl cs ⟨[], []⟩ (fun c h => h) g0; have hk' : s1.known = l := hk; have hw' : s1.waits = l := hw
  have d1 : Dealt cs s1 := ⟨fun c hc k => hW _ ⟨c, hc, k, rfl⟩, [], by rw [hk', hw']; rfl, fun a ha => by (cases ha)⟩
  obtain ⟨s2, e2, g2, ⟨hM, done, hd, hC⟩, hws⟩ := loop_said hm hl 2000 s1 g1 d1 (by rw [hk', hw']; exact Nat.le_refl _) (by omega) (by omega); refine ⟨s2, ?_, g2.nodup, fun p => ⟨g2.said p, fun h => ?_⟩⟩
  · unfold runF
    rw [e1, Option.bind_some, e2]
  · rw [hws, List.append_nil] at hd
    rw [hd] at hM hC ⊢
    induction h with
    | member hc k => exact hM _ hc k
    | incl hc k _ ih => exact hC _ ih _ hc _ (.incl (p := ⟨_, _⟩) k rfl)
    | link hc k _ n _ ih1 ih2 => exact hC _ ih1 _ hc _ (.linkA (p := ⟨_, _⟩) k rfl n ih2)
    | both hc k _ _ ih1 ih2 => exact hC _ ih1 _ hc _ (.bothA (p := ⟨_, _⟩) k rfl ih2)
def sameID (a b : Cred) : Bool := decide (a.f0.f0 = b.f0.f0) && decide (a.f0.f1 = b.f0.f1)
theorem Qbr {a b : Cred} : sameID a b = true ↔ a.f0.f0 = b.f0.f0 ∧ a.f0.f1 = b.f0.f1 := by
  unfold sameID; rw [Bool.and_eq_true, decide_eq_true_eq, decide_eq_true_eq]
def credLess (a b : Cred) : Prop := a.f0.f0 < b.f0.f0 ∨ (a.f0.f0 = b.f0.f0 ∧ a.f0.f1 < b.f0.f1)
theorem credLess_irrefl (a : Cred) : ¬ credLess a a := by unfold credLess; omega
theorem credLess_trans (a b c : Cred) (h : credLess a b) (h' : credLess b c) : credLess a c := by unfold credLess at *; omega
def First (l : List Cred) (c : Cred) : Prop := l.find? (fun d => credMay d && sameID d c) = some c
structure Counts (l R : List Cred) : Prop where
  sorted : R.Pairwise credLess
  mem : ∀ c, c ∈ R ↔ First l c
theorem Counts.unique {l R R' : List Cred} (h : Counts l R) (h' : Counts l R') : R = R' :=
  sorted_eq credLess_irrefl credLess_trans h.sorted h'.sorted (fun c => (h.mem c).trans (h'.mem c).symm)
theorem First.may {l : List Cred} {c : Cred} (h : First l c) : credMay c = true := by
  have := List.find?_some h; rw [Bool.and_eq_true] at this; exact this.1
theorem First.mem {l : List Cred} {c : Cred} (h : First l c) : c ∈ l := List.mem_of_find?_eq_some h
def firsts (out : List Cred) : List Cred → List Cred
  | [] => out
  | c :: l => if credMay c && !(out.any fun d => sameID d c) then firsts (out ++ [c]) l else firsts out l
theorem firsts_mem (c : Cred) : ∀ (l out : List Cred), c ∈ firsts out l ↔ c ∈ out ∨ ((∀ d ∈ out, sameID d c = false) ∧ First l c)
  | [], out => by
    rw [firsts]; unfold First; simp
  | x :: l, out => by
    rw [firsts]; unfold First; rw [List.find?_cons]
    by_cases h : (credMay x && !(out.any fun d => sameID d x)) = true
    · rw [if_pos h, firsts_mem c l (out ++ [x])]
      rw [Bool.and_eq_true, Bool.not_eq_true', List.any_eq_false] at h
      by_cases hx : sameID x c = true
      · rw [h.1, hx]
        simp only [Bool.and_self, Option.some.injEq, List.mem_append, List.mem_singleton]; constructor
        · rintro ((h1 | h1) | ⟨h1, _⟩)
          · exact .inl h1
          · exact .inr ⟨fun d hd => by rw [h1]; simpa using h.2 d hd, h1.symm⟩
          · have := h1 x (by simp)
            rw [hx] at this; cases this
        · rintro (h1 | ⟨_, h1⟩)
          · exact .inl (.inl h1)
          · exact .inl (.inr h1.symm)
      · rw [Bool.not_eq_true] at hx
        rw [hx, Bool.and_false]; simp only [List.mem_append, List.mem_singleton]; unfold First; constructor
        · rintro ((h1 | h1) | ⟨h1, h2⟩)
          · exact .inl h1
          · subst h1
            rw [Bool.eq_false_iff] at hx; exact absurd (Qbr.mpr ⟨rfl, rfl⟩) hx
          · exact .inr ⟨fun d hd => h1 d (.inl hd), h2⟩
        · rintro (h1 | ⟨h1, h2⟩)
          · exact .inl (.inl h1)
          · refine .inr ⟨fun d hd => ?_, h2⟩
            rcases hd with hd | hd
            · exact h1 d hd
            · rw [hd]; exact hx
    · rw [if_neg h, firsts_mem c l out]
      by_cases hx : sameID x c = true
      · by_cases hm : credMay x = true
        · have hany : (out.any fun d => sameID d x) = true := by
            rw [hm, Bool.true_and] at h
            simpa using h
          obtain ⟨d, hd, hdx⟩ := List.any_eq_true.mp hany
          have hdc : sameID d c = true := by
            rw [Qbr] at *; omega
          have no : ∀ P : Prop, ¬ ((∀ d ∈ out, sameID d c = false) ∧ P) := fun P hP => by
            have := hP.1 d hd; rw [hdc] at this; cases this
          simp only [no]
        · rw [Bool.not_eq_true] at hm
          rw [hm, Bool.false_and]; rfl
      · rw [Bool.not_eq_true] at hx
        rw [hx, Bool.and_false]; rfl
theorem firsts_apart : ∀ (l out : List Cred), out.Pairwise (fun a b => sameID a b = false) → (firsts out l).Pairwise (fun a b => sameID a b = false)
  | [], out, h => h
  | x :: l, out, h => by
    rw [firsts]
    split
    · rename_i hc
      rw [Bool.and_eq_true, Bool.not_eq_true', List.any_eq_false] at hc; refine firsts_apart l _ ?_; rw [List.pairwise_append]; exact ⟨h, List.pairwise_singleton _ _, fun a ha b hb => by rw [List.mem_singleton.mp hb]; simpa using hc.2 a ha⟩
    · exact firsts_apart l out h
theorem firsts_sorted : ∀ (l out : List Cred), out.Pairwise credLess → (∀ d ∈ out, ∀ c ∈ l, ¬ credLess c d) → l.Pairwise (fun x y => ¬ credLess y x) → (firsts out l).Pairwise credLess
  | [], out, h, _, _ => h
  | x :: l, out, h, hol, hl => by
    rw [firsts]; rw [List.pairwise_cons] at hl
    split
    · rename_i hc
      rw [Bool.and_eq_true, Bool.not_eq_true', List.any_eq_false] at hc; refine firsts_sorted l _ ?_ ?_ hl.2
      · rw [List.pairwise_append]
        refine ⟨h, List.pairwise_singleton _ _, fun a ha b hb => ?_⟩; rw [List.mem_singleton.mp hb]; have h1 := hol a ha x (List.mem_cons_self ..); have h2 := hc.2 a ha; rw [Qbr] at h2; unfold credLess at *; omega
      · intro d hd c hcl
        rcases List.mem_append.mp hd with h1 | h1
        · exact hol d h1 c (List.mem_cons_of_mem _ hcl)
        · rw [List.mem_singleton.mp h1]
          exact hl.1 c hcl
    · exact firsts_sorted l out h (fun d hd c hcl => hol d hd c (List.mem_cons_of_mem _ hcl)) hl.2
theorem sortCreds_filter (q : Cred → Bool) (hq : ∀ x y, q x = true → q y = true → sameID x y = true) (l : List Cred) : (sortCreds l).filter q = l.filter q := by
  refine insertion_filter _ q (fun x y h hx hy => ?_) l; have := hq x y hx hy; rw [credCmp_lt] at h; rw [Qbr] at this; omega
theorem sortCreds_sorted (l : List Cred) : (sortCreds l).Pairwise (fun x y => ¬ credLess y x) := by
  refine (insertion_sorted _ credSWO l).imp fun {a b} h => ?_
  rw [Bool.eq_false_iff, Ne, credCmp_lt] at h; exact h
theorem find_filter {α : Type} (p : α → Bool) (l : List α) : l.find? p = (l.filter p).head? := by
  rw [List.head?_filter]
theorem sortCreds_first (l : List Cred) (c : Cred) : First (sortCreds l) c ↔ First l c := by
  unfold First; rw [find_filter, find_filter]
  have e : ∀ m : List Cred, m.filter (fun d => credMay d && sameID d c) = (m.filter (fun d => sameID d c)).filter credMay := fun m => by rw [List.filter_filter]
  rw [e, e, sortCreds_filter _ (fun x y hx hy => by rw [Qbr] at *; omega)]
theorem prog_counts (l : List Cred) : Counts l (firsts [] (sortCreds l)) where
  sorted := firsts_sorted _ _ List.Pairwise.nil (fun d hd => by cases hd) (sortCreds_sorted l)
  mem c := by
    rw [firsts_mem, sortCreds_first]; simp
theorem firsts_length : ∀ (l out : List Cred), (firsts out l).length ≤ out.length + l.length
  | [], out => by rw [firsts]; simp
  | x :: l, out => by
    rw [firsts]
    split
    · have := firsts_length l (out ++ [x])
      simp at *; omega
    · have := firsts_length l out
      simp; omega
theorem numName_nonneg (s : ByteArray) : 0 ≤ numName s := by
  rcases numName_spec s with ⟨m, _, _, _, _⟩ | ⟨_, _⟩ <;> omega
theorem refRole_is (r : Role) (k : Nat) (hk : 10 ≤ k) : QaV.f k r.f0 r.f1 = some (roleOk r) := by
  obtain ⟨j, rfl⟩ : ∃ j, k = j + 2 := ⟨k - 2, by omega⟩
  unfold QaV.f roleOk; rw [refMay_is _ _ hk, Option.bind_some]; have := numName_nonneg r.f0; cases mayName r.f1
  · simp
  · rw [if_pos rfl, refNumber_is, Option.bind_some]
    by_cases e : numName r.f0 = 0
    · rw [e]; rfl
    · rw [decide_eq_true (show numName r.f0 > 0 by omega), bne_iff_ne.mpr e]
      rfl
theorem refBare_is (r : Role) (k : Nat) (hk : 10 ≤ k) : QaZ.f k r.f0 r.f1 = some (bareOk r) := by
  unfold QaZ.f bareOk noText; rw [refMay_is _ _ hk, Option.bind_some]; cases mayName r.f1
  · simp
  · simp
theorem refCredMay_is (c : Cred) (k : Nat) (hk : 12 ≤ k) : Qaq.f k c.f0.f0 c.f0.f1 c.f1 c.f2 c.f3 c.f4.f0 c.f4.f1 c.f5.f0 c.f5.f1 = some (credMay c) := by
  obtain ⟨k, rfl⟩ : ∃ j, k = j + 1 := ⟨k - 1, by omega⟩
  unfold Qaq.f credMay; rw [refMay_is _ _ (by omega), refMay_is _ _ (by omega), refRole_is c.f4 _ (by omega), refRole_is c.f5 _ (by omega)]; simp only [Option.bind_some]
  have jt : ∀ a b d, Qaq.j0 (k + 1) a b d true c.f0.f0 c.f0.f1 c.f1 c.f2 c.f3 c.f4.f0 c.f4.f1 c.f5.f0 c.f5.f1 = some false := fun a b d => by rw [Qaq.j0, if_pos rfl]
  by_cases d1 : c.f0.f0 < 1
  · rw [if_pos d1, jt, decide_eq_false (p := 1 ≤ c.f0.f0 ∧ c.f0.f0 ≤ 16) (by omega)]; rfl
  rw [if_neg d1]
  by_cases d2 : c.f0.f0 > 16
  · rw [if_pos d2, jt, decide_eq_false (p := 1 ≤ c.f0.f0 ∧ c.f0.f0 ≤ 16) (by omega)]; rfl
  rw [if_neg d2, decide_eq_true (p := 1 ≤ c.f0.f0 ∧ c.f0.f0 ≤ 16) (by omega)]
  by_cases s1 : c.f0.f1 < 1
  · rw [if_pos s1, jt, decide_eq_false (p := 1 ≤ c.f0.f1 ∧ c.f0.f1 ≤ 4000) (by omega)]; rfl
  rw [if_neg s1]
  by_cases s2 : c.f0.f1 > 4000
  · rw [if_pos s2, jt, decide_eq_false (p := 1 ≤ c.f0.f1 ∧ c.f0.f1 ≤ 4000) (by omega)]; rfl
  rw [if_neg s2, decide_eq_true (p := 1 ≤ c.f0.f1 ∧ c.f0.f1 ≤ 4000) (by omega)]; cases mayName c.f1
  · exact jt _ _ _
  show Qaq.j0 (k + 1) _ _ _ false _ _ _ _ _ _ _ _ _ = _
  rw [Qaq.j0, if_neg (by decide)]
  by_cases k1 : c.f2 = 1
  · rw [if_pos k1, if_pos k1]
    show (if mayName c.f3 = true then if noRole c.f4 = true then some (noRole c.f5) else some false else some false) = _
    cases mayName c.f3 <;> cases noRole c.f4 <;> simp
  rw [if_neg k1, if_neg k1]
  by_cases w : c.f3.toList = []
  · have wt : noText c.f3 = true := by unfold noText; rw [w]; rfl
    rw [if_pos w, wt]
    by_cases k2 : c.f2 = 2
    · rw [if_pos k2, if_pos k2]
      show (if roleOk c.f4 = true then some (noRole c.f5) else some false) = _
      cases roleOk c.f4 <;> simp
    rw [if_neg k2, if_neg k2]
    by_cases k3 : c.f2 = 3
    · rw [if_pos k3, if_pos k3, refBare_is c.f4 k (by omega), refBare_is c.f5 k (by omega), Option.bind_some, Option.bind_some]
      cases bareOk c.f4 <;> cases bareOk c.f5 <;> simp
    rw [if_neg k3, if_neg k3]
    by_cases k4 : c.f2 = 4
    · rw [if_pos k4, if_pos k4]
      cases roleOk c.f4 <;> cases roleOk c.f5 <;> simp
    · rw [if_neg k4, if_neg k4]; rfl
  · have wt : noText c.f3 = false := by unfold noText; exact beq_eq_false_iff_ne.mpr w
    rw [if_neg w, wt]; simp only [Bool.and_false]
    by_cases k2 : c.f2 = 2
    · rw [if_pos k2]; rfl
    rw [if_neg k2]
    by_cases k3 : c.f2 = 3
    · rw [if_pos k3]; rfl
    rw [if_neg k3]
    by_cases k4 : c.f2 = 4
    · rw [if_pos k4]; rfl
    · rw [if_neg k4]; rfl
theorem Qbt {i : Nat} (h : i < 1000000000000) : wrap64 ((i : Int) + 1) = ((i + 1 : Nat) : Int) := by unfold wrap64; omega
theorem rdCred (l : List Cred) (i : Nat) : Qae l (i : Int) = l[i]! := by
  unfold Qae; rw [Int.toNat_natCast, List.getElem!_eq_getElem?_getD, List.getD_eq_getElem?_getD]; rfl
theorem getBang {α : Type} [Inhabited α] {l : List α} {i : Nat} (h : i < l.length) : l[i]! = l[i] := getElem!_pos l i h
theorem drop_bang {α : Type} [Inhabited α] {l : List α} {i : Nat} (h : i < l.length) : l.drop i = l[i]! :: l.drop (i + 1) := by
  rw [getBang h]; exact List.drop_eq_getElem_cons h
theorem last_same {ini : List Cred} {z c : Cred} (hs : (ini ++ [z]).Pairwise credLess) (hc : ∀ d ∈ ini ++ [z], ¬ credLess c d) : ((ini ++ [z]).any fun d => sameID d c) = sameID z c := by
  rw [List.any_append]
  have h0 : (ini.any fun d => sameID d c) = false := by
    rw [List.any_eq_false]; intro d hd h; rw [List.pairwise_append] at hs; have h1 := hs.2.2 d hd z (by simp); have h2 := hc z (by simp); rw [Qbr] at h; unfold credLess at *; omega
  rw [h0]; simp
theorem progCounts_loop : ∀ (S out : List Cred), (∀ c ∈ S, okCred c) → S.Pairwise (fun x y => ¬ credLess y x) → out.Pairwise credLess → (∀ d ∈ out, ∀ c ∈ S, ¬ credLess c d) → countsF S out = some (firsts out S)
  | [], out, _, _, _, _ => by rw [countsF, firsts]
  | c :: S, out, hok, hpw, hs, hd => by
    have hmay := credMay_is c (hok c (List.mem_cons_self ..)); rw [List.pairwise_cons] at hpw
    have rest := fun (out' : List Cred) h2 h3 => progCounts_loop S out' (fun x hx => hok x (List.mem_cons_of_mem _ hx)) hpw.2 h2 h3
    have grown : ∀ (h : out.any (fun d => sameID d c) = false), countsF S (out ++ [c]) = some (firsts (out ++ [c]) S) := fun h => by
      rw [List.any_eq_false] at h; refine rest _ ?_ ?_
      · rw [List.pairwise_append]
        refine ⟨hs, List.pairwise_singleton _ _, fun a ha b hb => ?_⟩; rw [List.mem_singleton.mp hb]; have h1 := hd a ha c (List.mem_cons_self ..); have h2 := h a ha; rw [Qbr] at h2; unfold credLess at *; omega
      · intro d hdm x hx
        rcases List.mem_append.mp hdm with h1 | h1
        · exact hd d h1 x (List.mem_cons_of_mem _ hx)
        · rw [List.mem_singleton.mp h1]
          exact hpw.1 x hx
    have same : countsF S out = some (firsts out S) := rest out hs (fun d hdm x hx => hd d hdm x (List.mem_cons_of_mem _ hx)); rw [countsF, show mayOf c = some (credMay c) from hmay, Option.bind_some, firsts]
    by_cases m : credMay c = true
    · rw [if_pos m, m, Bool.true_and]
      rcases List.eq_nil_or_concat out with e | ⟨ini, z, e⟩
      · subst e
        rw [if_neg (by simp), if_pos (show (!(([] : List Cred).any fun d => sameID d c)) = true from rfl)]; exact grown rfl
      · rw [List.concat_eq_append] at e
        have hany : (out.any fun d => sameID d c) = sameID z c := by
          rw [e] at hs hd ⊢; exact last_same hs (fun d hdm => hd d hdm c (List.mem_cons_self ..))
        have hl : out.getLast?.map (·.f0) = some z.f0 := by rw [e, List.getLast?_concat]; rfl
        rw [hl, hany]; cases hb : sameID z c
        · rw [if_neg (fun h => by have := Option.some.inj h; rw [Bool.eq_false_iff, Ne, Qbr, this] at hb; exact hb ⟨rfl, rfl⟩), if_pos (show (!false) = true from rfl)]
          exact grown (hany.trans hb)
        · rw [if_pos (by obtain ⟨e0, e1⟩ := Qbr.mp hb; rw [id_ext e0 e1]), if_neg (show ¬ (!true) = true by decide)]
          exact same
    · rw [if_neg m]
      rw [Bool.not_eq_true] at m; rw [m, Bool.false_and]; exact same
theorem cred_ext {a b : Cred} (h0 : a.f0.f0 = b.f0.f0) (h0' : a.f0.f1 = b.f0.f1) (h1 : a.f1 = b.f1) (h2 : a.f2 = b.f2) (h3 : a.f3 = b.f3) (h4 : a.f4 = b.f4) (h5 : a.f5 = b.f5) : a = b := by
  obtain ⟨⟨_, _⟩, _, _, _, _, _⟩ := a; obtain ⟨⟨_, _⟩, _, _, _, _, _⟩ := b
  simp_all
instance credDec : DecidableEq Cred := fun a b => decidable_of_iff (a.f0.f0 = b.f0.f0 ∧ a.f0.f1 = b.f0.f1 ∧ a.f1 = b.f1 ∧ a.f2 = b.f2 ∧ a.f3 = b.f3 ∧ a.f4 = b.f4 ∧ a.f5 = b.f5)
  ⟨fun h => cred_ext h.1 h.2.1 h.2.2.1 h.2.2.2.1 h.2.2.2.2.1 h.2.2.2.2.2.1 h.2.2.2.2.2.2, fun h => by rw [h]; exact ⟨rfl, rfl, rfl, rfl, rfl, rfl, rfl⟩⟩
def counts (l : List Cred) : List Cred := firsts [] (sortCreds l)
theorem counts_spec (l : List Cred) : Counts l (counts l) := prog_counts l
theorem sortCreds_mem {l : List Cred} {c : Cred} : c ∈ sortCreds l ↔ c ∈ l := by
  have := sortCreds_filter (fun d => decide (d = c)) (fun x y hx hy => by
    rw [decide_eq_true_eq] at hx hy; rw [hx, hy]
    exact Qbr.mpr ⟨rfl, rfl⟩) l
  constructor
  · intro h
    have h1 : c ∈ (sortCreds l).filter (fun d => decide (d = c)) := List.mem_filter.mpr ⟨h, by simp⟩; rw [this] at h1; exact (List.mem_filter.mp h1).1
  · intro h
    have h1 : c ∈ l.filter (fun d => decide (d = c)) := List.mem_filter.mpr ⟨h, by simp⟩; rw [← this] at h1; exact (List.mem_filter.mp h1).1
theorem progCounts_is (l : List Cred) (hl : l.length < 21) (hok : ∀ c ∈ l, okCred c) : QbV.f l = some (counts l) := by
  unfold QbV.f QbU.f; have hlen := Qbq l; rw [if_pos hl, Option.bind_some, if_pos (by omega)]; exact progCounts_loop (sortCreds l) [] (fun c hc => hok c (sortCreds_mem.mp hc)) (sortCreds_sorted l) List.Pairwise.nil (fun d hd => by cases hd)
def credLessB (a b : Cred) : Bool := if a.f0.f0 = b.f0.f0 then decide (a.f0.f1 < b.f0.f1) else decide (a.f0.f0 < b.f0.f0)
theorem QbE (a b : Cred) : credLessB a b = true ↔ credLess a b := by
  unfold credLessB credLess
  split <;> rw [decide_eq_true_eq] <;> omega
theorem before_is (a b : Cred) : Qba.f a.f0.f0 a.f0.f1 b.f0.f0 b.f0.f1 = some (credLessB a b) := by
  unfold Qba.f credLessB
  split <;> rfl
theorem refSorted_l1 (x : List Cred) (hx : x.length < 1000000) (out : List Cred) (ho : out.length < 1000000) (R : List Cred) : ∀ (n m i : Nat), n + i = x.length → m < x.length →
    Ev (fun k => Qag.l0 k (x.take (selLeast credLessB x n m i) ++ x.drop (selLeast credLessB x n m i + 1)) (out ++ [x[selLeast credLessB x n m i]!])) R → Ev (fun k => Qag.l1 k x out (m : Int) (i : Int)) R
  | 0, m, i, hn, hm, h => by
    rw [selLeast] at h; refine Ev.step (fun k => ?_) h; rw [Qag.l1, if_neg (by omega), if_pos (by omega), if_pos (by omega), if_pos (by omega), if_pos (by omega), Option.bind_some, if_pos (by simp; omega), Option.bind_some, Qbt (by omega), if_pos (by omega), if_pos (by omega), Option.bind_some, if_pos (by simp; omega), rdCred]; rfl
  | n + 1, m, i, hn, hm, h => by
    rw [selLeast] at h
    have e : ∀ k, Qag.l1 (k + 1) x out (m : Int) (i : Int) = Qag.l1 k x out ((if credLessB x[i]! x[m]! then i else m : Nat) : Int) ((i + 1 : Nat) : Int) := fun k => by
      rw [Qag.l1, if_pos (by omega), if_pos (by omega), if_pos (by omega), if_pos (by omega), rdCred, rdCred, before_is, Option.bind_some, Qbt (by omega)]
      cases credLessB x[i]! x[m]! <;> rfl
    exact Ev.step e (refSorted_l1 x hx out ho R n _ (i + 1) (by omega) (by split <;> omega) h)
theorem selLeast_lt {α : Type} [Inhabited α] (less : α → α → Bool) (l : List α) : ∀ (n m i : Nat), n + i = l.length → m < l.length → selLeast less l n m i < l.length
  | 0, m, i, hn, hm => hm
  | n + 1, m, i, hn, hm => by
    rw [selLeast]; exact selLeast_lt less l n _ _ (by omega) (by split <;> omega)
theorem refSorted_l0 : ∀ (n : Nat) (x out : List Cred), x.length ≤ n → x.length + out.length < 1000000 → Ev (fun k => Qag.l0 k x out) (selSort credLessB n x out)
  | 0, x, out, hn, hl => by
    rw [selSort]; refine Ev.step (fun k => ?_) (Ev.pure _); rw [Qag.l0, if_neg (by omega)]
  | n + 1, x, out, hn, hl => by
    rw [selSort]
    by_cases c : x.length > 0
    · rw [if_pos c]
      have hm := selLeast_lt credLessB x (x.length - 1) 0 1 (by omega) c; refine Ev.step (fun k => ?_) (refSorted_l1 x (by omega) out (by omega) _ (x.length - 1) 0 1 (by omega) c (refSorted_l0 n _ _ ?_ ?_))
      · rw [Qag.l0, if_pos (by omega)]
        rfl
      · simp
        omega
      · simp
        omega
    · rw [if_neg c]
      refine Ev.step (fun k => ?_) (Ev.pure _); rw [Qag.l0, if_neg (by omega)]
theorem refCounts_l1 (x : List Cred) (hx : x.length < 1000000) (out : List Cred) (ho : out.length < 1000000) (i : Nat) (hi : i < x.length) (b : Bool) (R : List Cred) : ∀ (n j : Nat) (h : Bool), n + j = out.length →
    Ev (fun k => Qal.l0 k x (if b && !(h || (out.drop j).any fun d => sameID d x[i]!) then out ++ [x[i]!] else out) ((i + 1 : Nat) : Int)) R → Ev (fun k => Qal.l1 k x out (i : Int) b h (j : Int)) R
  | 0, j, h, hn, hR => by
    rw [show out.drop j = [] from List.drop_eq_nil_of_le (by omega)] at hR; refine Ev.step (fun k => ?_) hR; rw [Qal.l1, if_neg (by omega), Qbt (by omega)]; cases b
    · rfl
    · cases h
      · rw [if_pos rfl, if_neg (by decide), if_pos (by omega), if_pos (by omega), if_pos (by omega), rdCred]
        rfl
      · rfl
  | n + 1, j, h, hn, hR => by
    rw [drop_bang (by omega : j < out.length), List.any_cons] at hR
    have e : ∀ k, Qal.l1 (k + 1) x out (i : Int) b h (j : Int) = Qal.l1 k x out (i : Int) b (h || sameID out[j]! x[i]!) ((j + 1 : Nat) : Int) := fun k => by
      rw [Qal.l1, if_pos (by omega), Qbt (by omega)]; cases h
      · rw [if_neg (by decide), if_pos (by omega), if_pos (by omega), if_pos (by omega), rdCred, rdCred]
        rfl
      · rfl
    refine Ev.step e (refCounts_l1 x hx out ho i hi b R n (j + 1) _ (by omega) ?_); rw [Bool.or_assoc]; exact hR
theorem refCounts_l0 (x : List Cred) (hx : x.length < 100000) : ∀ (n i : Nat) (out : List Cred), n + i = x.length → out.length ≤ i → Ev (fun k => Qal.l0 k x out (i : Int)) (selSort credLessB x.length (firsts out (x.drop i)) [])
  | 0, i, out, hn, ho => by
    rw [show x.drop i = [] from List.drop_eq_nil_of_le (by omega), firsts]; refine Ev.step (g := fun k => (Qag.f k out).bind fun t => some t) (fun k => ?_) (Ev.bind (a := selSort credLessB x.length out []) ?_ (Ev.pure _))
    · rw [Qal.l0, if_neg (by omega)]
    · exact refSorted_l0 _ out [] (by omega) (by simp; omega)
  | n + 1, i, out, hn, ho => by
    have hi : i < x.length := by omega
    rw [drop_bang hi, firsts]; refine Ev.step (g := fun k => (Qaq.f k x[i]!.f0.f0 x[i]!.f0.f1 x[i]!.f1 x[i]!.f2 x[i]!.f3 x[i]!.f4.f0 x[i]!.f4.f1 x[i]!.f5.f0 x[i]!.f5.f1).bind fun t => Qal.l1 k x out (i : Int) t false 0) (fun k => ?_) (Ev.bind (.from 12 fun k hk => refCredMay_is _ k hk) (refCounts_l1 x (by omega) out (by omega) i hi _ _ out.length 0 false (by omega) ?_))
    · rw [Qal.l0, if_pos (by omega), if_pos (by omega), rdCred]
    · rw [List.drop_zero, Bool.false_or]
      split
      · exact refCounts_l0 x hx n (i + 1) _ (by omega) (by simp; omega)
      · exact refCounts_l0 x hx n (i + 1) _ (by omega) (by omega)
theorem refCounts_is (l : List Cred) (hl : l.length < 100000) : Ev (fun k => Qal.f k l) (counts l) := by
  have h := refCounts_l0 l hl l.length 0 [] (by omega) (by simp); rw [List.drop_zero] at h; have hlen := firsts_length l []; have hp := firsts_apart l [] List.Pairwise.nil
  obtain ⟨h1, h2⟩ := selSort_spec credLessB (fun x => by rw [Bool.eq_false_iff, Ne, QbE]; exact credLess_irrefl x) (fun x y z => by rw [QbE, QbE, QbE]; exact credLess_trans x y z) l.length (firsts [] l) [] (by simpa using hlen) (by
    rw [List.nil_append]
    refine hp.imp fun {a b} hab => ?_
    rw [QbE, QbE]; rw [Bool.eq_false_iff, Ne, Qbr] at hab; unfold credLess
    omega) List.Pairwise.nil (fun a ha => by cases ha)
  have e : selSort credLessB l.length (firsts [] l) [] = counts l := by
    refine Counts.unique (l := l) ⟨h1.imp fun {a b} hab => (QbE a b).mp hab, fun c => ?_⟩ (counts_spec l); rw [h2, firsts_mem]; simp
  rw [← e]; exact h
theorem counts_length (l : List Cred) : (counts l).length ≤ l.length := by
  unfold counts; have := firsts_length (sortCreds l) []; have h2 := Qbq l; simp at this; omega
structure AllOf (cs : List Cred) (A : List Pair) : Prop where
  sorted : A.Pairwise (fun a b => pairLess a b = true)
  mem : ∀ p, p ∈ A ↔ Said cs p
theorem AllOf.nodup {cs : List Cred} {A : List Pair} (h : AllOf cs A) : A.Nodup := sorted_nodup (R := fun a b => pairLess a b = true) Qby h.sorted
theorem AllOf.length {cs : List Cred} {A : List Pair} (h : AllOf cs A) (hl : cs.length ≤ 20) : A.length ≤ 400 := said_400 hl h.nodup (fun p hp => (h.mem p).mp hp)
theorem sortPairs_sorted {l : List Pair} (hn : l.Nodup) : (sortPairs l).Pairwise (fun a b => pairLess a b = true) := by
  have h1 : (sortPairs l).Pairwise (fun a b => (!(ltOf pairCmp) b a) = true) := by
    unfold sortPairs; refine List.pairwise_mergeSort (le := fun x y => !(ltOf pairCmp) y x) ?_ ?_ l
    · intro a b c h1 h2
      simp only [Bool.not_eq_true'] at *; exact pairSWO.ntrans _ _ _ h2 h1
    · intro a b
      rw [QbJ, QbJ]
      by_cases h1 : pairLess b a = true
      · have : ¬ pairLess a b = true := fun h2 => Qby _ (QbO h1 h2)
        simp_all
      · simp_all
  have h2 : (sortPairs l).Nodup := (List.mergeSort_perm l _).nodup_iff.mpr hn
  refine (h1.and h2).imp fun {a b} hh => ?_
  obtain ⟨h, h'⟩ := hh; simp only [QbJ, Bool.not_eq_true'] at h
  by_cases h3 : pairLess a b = true
  · exact h3
  · exact absurd (QbP h3 (by rw [h]; decide)) h'
theorem run_all {cs : List Cred} (hm : Mays cs) (hl : cs.length ≤ 20) : ∃ s A, runF 2000 cs = some s ∧ s.known.length ≤ 1000000 ∧ sortPairs s.known = A ∧ AllOf cs A := by
  obtain ⟨s, h1, h2, h3⟩ := run_said hm hl; have := said_400 hl h2 (fun p hp => (h3 p).mp hp); exact ⟨s, _, h1, by omega, rfl, sortPairs_sorted h2, fun p => sortPairs_mem.trans (h3 p)⟩
theorem counts_mays (l : List Cred) : Mays (counts l) := fun c hc => (((counts_spec l).mem c).mp hc).may
theorem all_is (l : List Cred) (hl : l.length < 21) (hok : ∀ c ∈ l, okCred c) : ∃ A, Qb1.f l = some A ∧ AllOf (counts l) A := by
  have hlen := counts_length l; obtain ⟨s, A, h1, h2, h3, h4⟩ := run_all (counts_mays l) (by omega); refine ⟨A, ?_, h4⟩; unfold Qb1.f; rw [progCounts_is l hl hok, Option.bind_some, if_pos (by omega), h1, Option.bind_some, if_pos h2, h3]
theorem beqB_dec (a b : ByteArray) : (a.toList == b.toList) = decide (a = b) := by
  rw [Bool.eq_iff_iff, Lib.bytes_beq_iff, decide_eq_true_eq]
theorem rdPair (l : List Pair) (i : Nat) : Qbx l (i : Int) = l[i]! := by
  unfold Qbx; rw [Int.toNat_natCast, List.getElem!_eq_getElem?_getD, List.getD_eq_getElem?_getD]; rfl
theorem pair_beq (p : Pair) (a b c : ByteArray) : ((a.toList == p.f0.f0.toList && (b.toList == p.f0.f1.toList)) && (c.toList == p.f1.toList)) = decide (p = ⟨⟨a, b⟩, c⟩) := by
  rw [beqB_dec, beqB_dec, beqB_dec, Bool.eq_iff_iff, Bool.and_eq_true, Bool.and_eq_true, decide_eq_true_eq, decide_eq_true_eq, decide_eq_true_eq, decide_eq_true_eq]; exact ⟨fun h => Qbw (role_ext h.1.1.symm h.1.2.symm) h.2.symm, fun h => by rw [h]; exact ⟨⟨rfl, rfl⟩, rfl⟩⟩
theorem index_l0 (A : List Pair) (hA : A.length < 1000000) (a b c : ByteArray) : ∀ (n i : Nat), n + i = A.length → ∃ v : Int, Ev (fun k => Qa2.l0 k A (A.length : Int) (i : Int) a b c) v ∧ (v ≥ 0 ↔ (⟨⟨a, b⟩, c⟩ : Pair) ∈ A.drop i)
  | 0, i, hn => by
    rw [show A.drop i = [] from List.drop_eq_nil_of_le (by omega)]; refine ⟨-1, Ev.step (fun k => ?_) (Ev.pure _), by simp⟩; rw [Qa2.l0, if_neg (by omega)]
  | n + 1, i, hn => by
    rw [drop_bang (by omega : i < A.length)]
    by_cases e : A[i]! = ⟨⟨a, b⟩, c⟩
    · refine ⟨(i : Int), Ev.step (fun k => ?_) (Ev.pure _), ⟨fun _ => by rw [e]; exact List.mem_cons_self .., fun _ => by omega⟩⟩
      rw [Qa2.l0, if_pos (by omega), if_pos (by omega), if_pos (by omega), rdPair, pair_beq, decide_eq_true e, if_pos rfl]
    · obtain ⟨v, h1, h2⟩ := index_l0 A hA a b c n (i + 1) (by omega)
      refine ⟨v, Ev.step (fun k => ?_) h1, h2.trans ⟨fun h => List.mem_cons_of_mem _ h, fun h => (List.mem_cons.mp h).resolve_left (fun h => e h.symm)⟩⟩; rw [Qa2.l0, if_pos (by omega), if_pos (by omega), if_pos (by omega), Qbt (by omega), rdPair, pair_beq, decide_eq_false e, if_neg (by decide)]
theorem has_ev {l : List Cred} {A : List Pair} (h : Qb1.f l = some A) (hA : A.length < 1000000) (who : ByteArray) (r : Role) : Ev (fun k => solve_Has.f k l who r.f0 r.f1) (decide ((⟨r, who⟩ : Pair) ∈ A)) := by
  unfold solve_Has.f QbC.f; rw [h]; obtain ⟨v, h1, h2⟩ := index_l0 A hA r.f0 r.f1 who A.length 0 (by omega); rw [List.drop_zero] at h2; refine Ev.bind (a := decide ((⟨r, who⟩ : Pair) ∈ A)) (Ev.bind h1 ?_) (Ev.pure _)
  have e : decide (v ≥ 0) = decide ((⟨r, who⟩ : Pair) ∈ A) := by
    rw [Bool.eq_iff_iff, decide_eq_true_eq, decide_eq_true_eq]; exact h2
  rw [e]; exact Ev.pure _
open Classical in
noncomputable def hasF (l : List Cred) (who : ByteArray) (r : Role) : Bool := decide (Said (counts l) ⟨r, who⟩)
theorem hasF_iff (l : List Cred) (who : ByteArray) (r : Role) : hasF l who r = true ↔ Said (counts l) ⟨r, who⟩ := by
  simp [hasF]
theorem hasF_ev {l : List Cred} (hl : l.length < 21) (hok : ∀ c ∈ l, okCred c) (who : ByteArray) (r : Role) : Ev (fun k => solve_Has.f k l who r.f0 r.f1) (hasF l who r) := by
  obtain ⟨A, h1, h2⟩ := all_is l hl hok; have hc := counts_length l; have hlen := h2.length (by omega)
  have e : hasF l who r = decide ((⟨r, who⟩ : Pair) ∈ A) := by
    rw [Bool.eq_iff_iff, hasF_iff, decide_eq_true_eq]; exact (h2.mem _).symm
  rw [e]; exact has_ev h1 (by omega) who r
section
open Go.Maps
open Go.ChangeMaps (setBlock)
section
variable {κ : Type} [DecidableEq κ]
theorem tget_cons (k : κ) (u : Value) (T : List (κ × Value)) (y : κ) : tget ((k, u) :: T) y = if k = y then some u else tget T y := by
  unfold tget; rw [List.find?_cons]
  by_cases h : k = y
  · simp [h]
  · simp [h]
theorem tget_map_ne (T : List (κ × Value)) (x y : κ) (v : Value) (h : x ≠ y) : tget (T.map fun z => if z.1 = x then (x, v) else z) y = tget T y := by
  induction T with
  | nil => rfl
  | cons a T ih =>
    obtain ⟨k, u⟩ := a; rw [List.map_cons, tget_cons]
    by_cases hk : k = x
    · subst hk
      rw [if_pos rfl, tget_cons, if_neg h, if_neg h, ih]
    · rw [if_neg hk, tget_cons, ih]
theorem tget_map_any (T : List (κ × Value)) (x : κ) (v : Value) (h : T.any (fun y => decide (y.1 = x)) = true) : tget (T.map fun z => if z.1 = x then (x, v) else z) x = some v := by
  induction T with
  | nil => simp at h
  | cons a T ih =>
    obtain ⟨k, u⟩ := a; rw [List.map_cons]
    by_cases hk : k = x
    · subst hk
      rw [if_pos rfl, tget_cons, if_pos rfl]
    · rw [if_neg hk, tget_cons, if_neg hk]
      rw [List.any_cons, Bool.or_eq_true] at h
      rcases h with h | h
      · simp [hk] at h
      · exact ih h
theorem tget_append (T : List (κ × Value)) (x : κ) (v : Value) (y : κ) (h : T.any (fun y => decide (y.1 = x)) = false) : tget (T ++ [(x, v)]) y = if x = y then some v else tget T y := by
  induction T with
  | nil => rw [List.nil_append, tget_cons]
  | cons a T ih =>
    obtain ⟨k, u⟩ := a; rw [List.any_cons, Bool.or_eq_false_iff] at h
    have hk : k ≠ x := by simpa using h.1
    rw [List.cons_append, tget_cons, tget_cons, ih h.2]
    by_cases h1 : k = y
    · subst h1
      rw [if_pos rfl, if_neg (Ne.symm hk), if_pos rfl]
    · rw [if_neg h1, if_neg h1]
theorem tget_tput (T : List (κ × Value)) (x : κ) (v : Value) (y : κ) : tget (tput T x v) y = if x = y then some v else tget T y := by
  unfold tput
  by_cases h : T.any (fun y => decide (y.1 = x)) = true
  · rw [if_pos h]
    by_cases hx : x = y
    · subst hx
      rw [if_pos rfl, tget_map_any T x v h]
    · rw [if_neg hx, tget_map_ne T x y v hx]
  · rw [if_neg h]
    exact tget_append T x v y (Bool.eq_false_iff.mpr h)
theorem tput_len_le (T : List (κ × Value)) (x : κ) (v : Value) : (tput T x v).length ≤ T.length + 1 := by
  unfold tput
  split
  · rw [List.length_map]
    omega
  · rw [List.length_append]
    exact Nat.le_refl _
end
def encI (x : Int) : Value := .int .i64 x
def okI (x : Int) : Prop := (Lit.int .i64 x).wf = true
theorem intKey : KeyK Tryz.prog 3 encI okI where
  keyed := int_keyed Tryz.underlying3
  lit x hx := by
    refine ⟨.int .i64 x, ?_⟩; unfold encI keyOf; rw [Tryz.underlying3]; have h : (Lit.int .i64 x).wf = true := hx; simp [mapKey, Tryz.underlying3, h]
  inj x y _ _ h := by
    unfold encI at h
    injection h
theorem zeroI (w : World) : (zeroValue 3).run Tryz.prog w = .ok (.int .i64 0) w := by kernel_rfl
structure AM where
  time : Int
  given : ID → Option (Cred × Int)
  last : Int → Int
  number : Int → Int
  issued : List Tok
abbrev credV (c : Cred) : Array Value := #[.int .i64 c.f0.f0, .int .i64 c.f0.f1, .string c.f1, .int .i64 c.f2, .string c.f3, .string c.f4.f0, .string c.f4.f1, .string c.f5.f0, .string c.f5.f1]
def encG (g : Cred × Int) : Value := .agg #[.int .i64 g.1.f0.f0, .int .i64 g.1.f0.f1, .string g.1.f1, .int .i64 g.1.f2, .string g.1.f3, .string g.1.f4.f0, .string g.1.f4.f1, .string g.1.f5.f0, .string g.1.f5.f1, .int .i64 g.2]
def zG : Cred × Int := (⟨⟨0, 0⟩, ⟨#[]⟩, 0, ⟨#[]⟩, ⟨⟨#[]⟩, ⟨#[]⟩⟩, ⟨⟨#[]⟩, ⟨#[]⟩⟩⟩, 0)
def GTab (w : World) (b n : Nat) (g : ID → Option (Cred × Int)) : Prop := ∃ T, Tbl encID okID w b T ∧ T.length ≤ n ∧ ∀ i, tget T i = (g i).map encG
def NTab (w : World) (b n : Nat) (g : Int → Int) : Prop := ∃ T, Tbl encI okI w b T ∧ T.length ≤ n ∧ ∀ i, (tget T i).getD (.int .i64 0) = .int .i64 (g i)
def TRows (w0 w : World) (v : Value) (n : Nat) (l : List Tok) : Prop := ∃ Ts : List (Array Value), Kd.R (kRaw 9) 41 w w0.heap.size (fun _ => True) v Ts ∧ Ts.length ≤ n ∧ Ts.length = l.length ∧ ∀ (i : Nat) (t : Tok) (T : Array Value), l[i]? = some t → Ts[i]? = some T → TokA w0 t T
theorem zeroG (w : World) : (zeroValue 81).run Tryz.prog w = .ok (encG zG) w := by kernel_rfl
theorem GTab.same {w w' : World} {b n : Nat} {g : ID → Option (Cred × Int)} (h : GTab w b n g) (hb : w'.heap[b]? = w.heap[b]?) : GTab w' b n g := by
  obtain ⟨T, h1, h2⟩ := h; exact ⟨T, h1.same hb, h2⟩
theorem NTab.same {w w' : World} {b n : Nat} {g : Int → Int} (h : NTab w b n g) (hb : w'.heap[b]? = w.heap[b]?) : NTab w' b n g := by
  obtain ⟨T, h1, h2⟩ := h; exact ⟨T, h1.same hb, h2⟩
theorem GTab.lt {w : World} {b n : Nat} {g : ID → Option (Cred × Int)} (h : GTab w b n g) : b < w.heap.size := by
  obtain ⟨T, h1, _⟩ := h; exact h1.lt
theorem NTab.lt {w : World} {b n : Nat} {g : Int → Int} (h : NTab w b n g) : b < w.heap.size := by
  obtain ⟨T, h1, _⟩ := h; exact h1.lt
theorem GTab.mono {w : World} {b n m : Nat} {g : ID → Option (Cred × Int)} (h : GTab w b n g) (hm : n ≤ m) : GTab w b m g := by
  obtain ⟨T, h1, h2, h3⟩ := h; exact ⟨T, h1, Nat.le_trans h2 hm, h3⟩
theorem NTab.mono {w : World} {b n m : Nat} {g : Int → Int} (h : NTab w b n g) (hm : n ≤ m) : NTab w b m g := by
  obtain ⟨T, h1, h2, h3⟩ := h; exact ⟨T, h1, Nat.le_trans h2 hm, h3⟩
theorem GTab.made (w : World) : GTab (w.alloc (.map #[] 0)) w.heap.size 0 (fun _ => none) := ⟨[], Tbl.made encID okID w, Nat.le_refl _, fun _ => rfl⟩
theorem NTab.made (w : World) : NTab (w.alloc (.map #[] 0)) w.heap.size 0 (fun _ => 0) := ⟨[], Tbl.made encI okI w, Nat.le_refl _, fun _ => rfl⟩
theorem GTab.look {w : World} {b n : Nat} {g : ID → Option (Cred × Int)} (h : GTab w b n g) {i : ID} (hi : okID i) : ∀ W : World, W.heap[b]? = w.heap[b]? → (Instr.lookup 51 (.map (some b)) (encID i) true).run Tryz.prog W = .ok (.tuple #[encG ((g i).getD zG), .bool (g i).isSome]) W := by
  obtain ⟨T, h1, _, h3⟩ := h; intro W hW; have := Tbl.look idKey h1 Tryz.underlying51 zeroG hi true W hW; rw [this, h3 i]
  cases g i <;> rfl
theorem NTab.look {w : World} {b n : Nat} {g : Int → Int} (h : NTab w b n g) {i : Int} (hi : okI i) : ∀ W : World, W.heap[b]? = w.heap[b]? → (Instr.lookup 52 (.map (some b)) (.int .i64 i) false).run Tryz.prog W = .ok (.int .i64 (g i)) W := by
  obtain ⟨T, h1, _, h3⟩ := h; intro W hW; have := Tbl.look intKey h1 Tryz.underlying52 zeroI hi false W hW; rw [h3 i] at this; exact this
theorem GTab.put {w : World} {b n : Nat} {g : ID → Option (Cred × Int)} (h : GTab w b n g) {i : ID} (hi : okID i) (c : Cred × Int) (hn : n < maxLen) :
    ∃ O, (∀ W : World, W.heap[b]? = w.heap[b]? → (Instr.mapUpdate 51 (.map (some b)) (encID i) (encG c)).run Tryz.prog W = .ok () (setBlock W b O)) ∧ ∀ W : World, b < W.heap.size → GTab (setBlock W b O) b (n + 1) (fun j => if i = j then some c else g j) := by
  obtain ⟨T, h1, h2, h3⟩ := h; obtain ⟨O, hr, ht⟩ := Tbl.store idKey h1 Tryz.underlying51 hi (encG c) (by omega); refine ⟨O, hr, fun W hW => ⟨_, ht W hW, by have := tput_len_le T i (encG c); omega, fun j => ?_⟩⟩; rw [tget_tput, h3 j]
  show _ = Option.map encG (if i = j then some c else g j)
  by_cases e : i = j
  · rw [if_pos e, if_pos e]; rfl
  · rw [if_neg e, if_neg e]
theorem NTab.put {w : World} {b n : Nat} {g : Int → Int} (h : NTab w b n g) {i : Int} (hi : okI i) (c : Int) (hn : n < maxLen) :
    ∃ O, (∀ W : World, W.heap[b]? = w.heap[b]? → (Instr.mapUpdate 52 (.map (some b)) (.int .i64 i) (.int .i64 c)).run Tryz.prog W = .ok () (setBlock W b O)) ∧ ∀ W : World, b < W.heap.size → NTab (setBlock W b O) b (n + 1) (fun j => if i = j then c else g j) := by
  obtain ⟨T, h1, h2, h3⟩ := h; obtain ⟨O, hr, ht⟩ := Tbl.store intKey h1 Tryz.underlying52 hi (.int .i64 c) (by omega); refine ⟨O, hr, fun W hW => ⟨_, ht W hW, by have := tput_len_le T i (.int .i64 c); omega, fun j => ?_⟩⟩; rw [tget_tput]
  show _ = Value.int .i64 (if i = j then c else g j)
  by_cases e : i = j
  · rw [if_pos e, if_pos e]; rfl
  · rw [if_neg e, if_neg e]
    exact h3 j
structure CAt (w0 w : World) (c0 bg bl bn : Nat) (v : Value) (n : Nat) (m : AM) : Prop where
  blk : w.heap[c0]? = some (.cells #[.int .i64 m.time, .map (some bg), .map (some bl), .map (some bn), v] 55 (0, 0))
  c0l : w0.heap.size ≤ c0
  bgl : w0.heap.size ≤ bg
  bll : w0.heap.size ≤ bl
  bnl : w0.heap.size ≤ bn
  gl : bg ≠ bl
  gn : bg ≠ bn
  ln : bl ≠ bn
  g : GTab w bg n m.given
  l : NTab w bl n m.last
  k : NTab w bn n m.number
  t : TRows w0 w v n m.issued
  old : Below w0.heap.size w0 w
theorem TRows.same {w0 w w' : World} {v : Value} {n : Nat} {l : List Tok} (h : TRows w0 w v n l) (hm : ∀ k, v.ownBlock = some k → w'.heap[k]? = w.heap[k]?) : TRows w0 w' v n l := by
  obtain ⟨Ts, h1, r⟩ := h; refine ⟨Ts, ?_, r⟩; obtain ⟨_, inner, ho, hr⟩ := h1; exact ⟨fun _ _ => trivial, inner, own_move ho hm, hr.imp_ (fun _ _ hp => hp)⟩
theorem TRows.lt {w0 w : World} {v : Value} {n : Nat} {l : List Tok} (h : TRows w0 w v n l) {k : Nat} (hk : v.ownBlock = some k) : k < w.heap.size ∧ w0.heap.size ≤ k ∧ ∃ cells, w.heap[k]? = some (.cells cells 41 (0, 0)) := by
  obtain ⟨Ts, ⟨_, inner, ho, hr⟩, _⟩ := h; exact ⟨own_lt ho k hk, own_base ho k hk, own_typed ho k hk⟩
theorem CAt.below {w0 w w' : World} {c0 bg bl bn : Nat} {v : Value} {n : Nat} {m : AM} (h : CAt w0 w c0 bg bl bn v n m) (hb : Below w.heap.size w w') : CAt w0 w' c0 bg bl bn v n m :=
  { h with
    blk := Qad h.blk hb
    g := h.g.same (hb.block _ h.g.lt)
    l := h.l.same (hb.block _ h.l.lt)
    k := h.k.same (hb.block _ h.k.lt)
    t := h.t.same (fun k hk => hb.block k (h.t.lt hk).1)
    old := Qac h.old hb }
theorem CAt.mono {w0 w : World} {c0 bg bl bn : Nat} {v : Value} {n n' : Nat} {m : AM} (h : CAt w0 w c0 bg bl bn v n m) (hn : n ≤ n') : CAt w0 w c0 bg bl bn v n' m := by
  obtain ⟨Ts, t1, t2, t3⟩ := h.t; exact { h with g := h.g.mono hn, l := h.l.mono hn, k := h.k.mono hn, t := ⟨Ts, t1, Nat.le_trans t2 hn, t3⟩ }
theorem QbB {w : World} {c0 : Nat} {x : Int} {bg bl bn : Nat} {v : Value} (h : w.heap[c0]? = some (.cells #[.int .i64 x, .map (some bg), .map (some bl), .map (some bn), v] 55 (0, 0))) :
    w.cell? ⟨c0, 0, none⟩ = some (.int .i64 x) ∧ w.cell? ⟨c0, 1, none⟩ = some (.map (some bg)) ∧ w.cell? ⟨c0, 2, none⟩ = some (.map (some bl)) ∧ w.cell? ⟨c0, 3, none⟩ = some (.map (some bn)) ∧ w.cell? ⟨c0, 4, none⟩ = some v :=
  ⟨(Qak h 0).trans rfl, (Qak h 1).trans rfl, (Qak h 2).trans rfl, (Qak h 3).trans rfl, (Qak h 4).trans rfl⟩
end
abbrev roleV (r : Role) : Array Value := #[.string r.f0, .string r.f1]
abbrev idV (i : ID) : Array Value := #[.int .i64 i.f0, .int .i64 i.f1]
theorem stands1_calls (w : World) (bl bt : Nat) (L : List Cred) (A : Option Addr) (c : Nat) (t : Tok) (T : Array Value) (r : Role) (hl : w.heap[bl]? = some (.cells #[.slice A L.length c] 29 (0, 0))) (hb : w.heap[bt]? = some (.cells T 41 (0, 0))) (hT : TokA w t T)
    (hC : Kd.C k35 w A L.length L) (hc : L.length ≤ c) (h21 : L.length < 21) (hok : ∀ x ∈ L, okCred x) :
    Calls Tryz.prog 55 #[.agg (roleV r), .pointer (some ⟨bl, 0, none⟩), .pointer (some ⟨bt, 0, none⟩)] w fun e w' => e = .returned (.bool (!hasF L t.f3 r)) ∧ Below w.heap.size w w' := by
  obtain ⟨K, k⟩ := hasF_ev h21 hok t.f3 r; have k := k K (Nat.le_refl _); obtain ⟨A4, c4, A6, c6, A7, c7, A8, c8, rfl, -⟩ := hT.form; have p0 := bw_alloc ((Qak hl 0).trans rfl : w.cell? ⟨bl, 0, none⟩ = some (.slice A L.length c)) (.cells (roleV r) 33 (0, 0)); have p3 := bw_alloc (tok_cells hb).2.2.2.1 (.cells (roleV r) 33 (0, 0)); have HH := Lib.hid (solve_Has.calls K A c L t.f3 r.f0 r.f1 _ (w.alloc (.cells (roleV r) 33 (0, 0))) (Kd.C_alloc hC _) hc k); clear hl hb hT hC hok k
  obtain ⟨y, hy⟩ : ∃ y, y = hasF L t.f3 r := ⟨_, rfl⟩
  rw [← hy] at HH ⊢; clear hy; go_enter Tryz.func55, Tryz.ntmps55
  go_wp2_with (go_at_call 56; refine HH.out.mono ?_; rintro e w3 ⟨rfl, hb3⟩; have HB3 := Lib.hid hb3; clear hb3)
  go_ret; exact ⟨rfl, Qac (Qai (Below.refl _ _) _) HB3.out⟩
def credOf (m : AM) (i : ID) : Cred := ((m.given i).getD zG).1
def badF (m : AM) (x : Evt) (i : ID) : Bool := match m.given i with
  | none => true
  | some g => decide (0 ≤ g.2) && (decide (64 ≤ wrap64 (x.f0 - g.2)) || decide (i.f0 = x.f1))
theorem all_bad {α : Type} {l : List α} {p : α → Bool} {x : α} (h : x ∈ l) (hb : p x = true) : (l.all fun i => !p i) = false := List.all_eq_false.mpr ⟨x, h, by simp [hb]⟩
noncomputable def standsF (m : AM) (t : Tok) (x : Evt) : Bool := t.f6.all (fun i => !badF m x i) && t.f4.all fun r => hasF (t.f6.map (credOf m)) t.f3 r
theorem stands_bad {m : AM} {x : Evt} {t : Tok} {i : ID} (h : i ∈ t.f6) (hb : badF m x i = true) : standsF m t x = false := by
  unfold standsF; rw [all_bad h hb, Bool.false_and]
theorem raw_roles {w : World} {A : Option Addr} {l : List Role} (h : Kd.C k33 w A l.length l) : Kd.C (kRaw 2) w A (l.map roleV).length (l.map roleV) := by
  refine ⟨rfl, by rw [List.length_map]; exact h.2.1, fun hn => ?_⟩; rw [List.length_map] at hn; obtain ⟨a, e, hc⟩ := h.2.2 hn; refine ⟨a, e, fun j p hj => ?_⟩; rw [List.getElem?_map] at hj; obtain ⟨r, hr, rfl⟩ := Option.map_eq_some_iff.mp hj; obtain ⟨cs, h1, h2, h3⟩ := hc j r hr; obtain rfl := k33_open h2; exact ⟨_, h1, ⟨rfl, rfl, by simp [Value.oneCell']⟩, h3⟩
theorem stands_good {m : AM} {x : Evt} {t : Tok} (h : t.f6.all (fun i => !badF m x i) = true) : standsF m t x = !(t.f4.any (id ∘ fun r => !hasF (t.f6.map (credOf m)) t.f3 r)) := by
  unfold standsF; rw [h, Bool.true_and, List.not_any_eq_all_not]
  congr 1
  funext r
  simp
abbrev kEvt := k47
def EvA (w : World) (x : Evt) (E : Array Value) : Prop := kEvt.K w x E.toList
theorem EvA.below {w w' : World} {x : Evt} {E : Array Value} (h : EvA w x E) (hb : Below w.heap.size w w') : EvA w' x E := kEvt.K_below hb h
theorem EvA.size {w : World} {x : Evt} {E : Array Value} (h : EvA w x E) : E.size = 37 := by
  have := kEvt.K_len h; rw [Array.length_toList] at this; exact this
theorem EvA.one {w : World} {x : Evt} {E : Array Value} (h : EvA w x E) : E.all (·.oneCell') = true := Array.all_eq_true_iff_forall_mem.2 (fun v hv => kEvt.K_one h v (by simpa using hv))
theorem EvA.at_ {w : World} {x : Evt} {E : Array Value} (h : EvA w x E) : ∃ l : List Value, E = l.toArray ∧ kEvt.K w x l := ⟨E.toList, by simp, h⟩
theorem QaH {w : World} {b : Nat} {E : Array Value} {ty : TypeId} (h : w.heap[b]? = some (.cells E ty (0, 0))) (i : Nat) {v : Value} (hv : E[i]? = some v) : w.cell? ⟨b, i, none⟩ = some v := (Qak h i).trans hv
theorem EvA.td {w : World} {x : Evt} {E : Array Value} (h : EvA w x E) : E[0]? = some (.int .i64 x.f0) ∧ E[1]? = some (.int .i64 x.f1) := by
  obtain ⟨l, rfl, hl⟩ := h.at_; obtain ⟨A14, c14, A20, c20, A22, c22, A23, c23, A24, c24, A32, c32, A34, c34, A35, c35, A36, c36, rfl, -⟩ := QbR hl; exact ⟨rfl, rfl⟩
theorem below_low {n m : Nat} {w w' : World} (h : Below n w w') (hm : m ≤ n) : Below m w w' := ⟨h.os, h.tape, h.output, h.size, fun k hk => h.block k (by omega)⟩
theorem infoCredS : (Tryz.prog.info? 35).map (fun i => (i.zero, i.size, i.bytes)) = some (some (.agg #[(.int .i64 0), (.int .i64 0), (.string ⟨#[]⟩), (.int .i64 0), (.string ⟨#[]⟩), (.string ⟨#[]⟩), (.string ⟨#[]⟩), (.string ⟨#[]⟩), (.string ⟨#[]⟩)]), 9, 120) := by kernel_rfl
theorem made3 {w W : World} {C1 C2 C3 : Array Value} {t1 t2 t3 : TypeId} (h : ((w.alloc (.cells C1 t1)).alloc (.cells C2 t2)).alloc (.cells C3 t3) = W) : W.heap[w.heap.size]? = some (.cells C1 t1 (0, 0)) ∧ W.heap[w.heap.size + 1]? = some (.cells C2 t2 (0, 0)) ∧ W.heap[w.heap.size + 1 + 1]? = some (.cells C3 t3 (0, 0)) ∧ Below w.heap.size w W ∧ W.heap.size = w.heap.size + 3 := by
  subst h; have z1 : (w.alloc (.cells C1 t1)).heap.size = w.heap.size + 1 := Array.size_push _; have z2 : ((w.alloc (.cells C1 t1)).alloc (.cells C2 t2)).heap.size = w.heap.size + 1 + 1 := (Array.size_push _).trans (by rw [z1]); have z3 : (((w.alloc (.cells C1 t1)).alloc (.cells C2 t2)).alloc (.cells C3 t3)).heap.size = w.heap.size + 3 := (Array.size_push _).trans (by rw [z2]); refine ⟨Qam (Qam (Qa1 w _) _) _, ?_, ?_, Qai (Qai (Qai (Below.refl _ _) _) _) _, z3⟩
  · have := Qam (Qa1 (w.alloc (.cells C1 t1)) (.cells C2 t2)) (.cells C3 t3)
    rw [z1] at this; exact this
  · have := Qa1 ((w.alloc (.cells C1 t1)).alloc (.cells C2 t2)) (.cells C3 t3)
    rw [z2] at this; exact this
theorem slice_of {α : Type} {d : Kd α} {e base : Nat} {ok : Nat → Prop} {w : World} {v : Value} {xs : List α} (h : Kd.R d e w base ok v xs) : ∃ A n c, v = .slice A n c := by
  obtain ⟨A, c, h, -⟩ := Kd.R_reads h; exact ⟨A, _, c, h⟩
theorem bad_cases (m : AM) (x : Evt) (i : ID) : (m.given i = none ∧ badF m x i = true) ∨ ∃ g, m.given i = some g ∧ ((decide (0 ≤ g.2) = false ∧ badF m x i = false) ∨ (decide (0 ≤ g.2) = true ∧ decide (64 ≤ wrap64 (x.f0 - g.2)) = true ∧ badF m x i = true) ∨ (decide (0 ≤ g.2) = true ∧ decide (64 ≤ wrap64 (x.f0 - g.2)) = false ∧ (i.f0 == x.f1) = true ∧ badF m x i = true) ∨ (decide (0 ≤ g.2) = true ∧ decide (64 ≤ wrap64 (x.f0 - g.2)) = false ∧ (i.f0 == x.f1) = false ∧ badF m x i = false)) := by
  unfold badF
  cases m.given i with
  | none => exact .inl ⟨rfl, rfl⟩
  | some g =>
    refine .inr ⟨g, rfl, ?_⟩; have e : (i.f0 == x.f1) = decide (i.f0 = x.f1) := rfl; rw [e]
    show (_ ∧ (decide (0 ≤ g.2) && (decide (64 ≤ wrap64 (x.f0 - g.2)) || decide (i.f0 = x.f1))) = false) ∨ (_ ∧ _ ∧ (decide (0 ≤ g.2) && (decide (64 ≤ wrap64 (x.f0 - g.2)) || decide (i.f0 = x.f1))) = true) ∨ (_ ∧ _ ∧ _ ∧ (decide (0 ≤ g.2) && (decide (64 ≤ wrap64 (x.f0 - g.2)) || decide (i.f0 = x.f1))) = true) ∨ (_ ∧ _ ∧ _ ∧ (decide (0 ≤ g.2) && (decide (64 ≤ wrap64 (x.f0 - g.2)) || decide (i.f0 = x.f1))) = false)
    generalize decide (0 ≤ g.2) = a0
    generalize decide (64 ≤ wrap64 (x.f0 - g.2)) = a1
    generalize decide (i.f0 = x.f1) = a2
    cases a0 <;> cases a1 <;> cases a2 <;> simp
theorem bw_look {W : World} {b n : Nat} {g : ID → Option (Cred × Int)} (h : GTab W b n g) {i : ID} (hi : okID i) (u : BW W) : (Instr.lookup 51 (.map (some b)) (.agg #[.int .i64 i.f0, .int .i64 i.f1]) true).run Tryz.prog u.now = .ok (.tuple #[encG ((g i).getD zG), .bool (g i).isSome]) u.now := h.look hi _ (u.ok.block _ h.lt)
theorem bw_num {W : World} {b n : Nat} {g : Int → Int} (h : NTab W b n g) {i : Int} (hi : okI i) (u : BW W) : (Instr.lookup 52 (.map (some b)) (.int .i64 i) false).run Tryz.prog u.now = .ok (.int .i64 (g i)) u.now := h.look hi _ (u.ok.block _ h.lt)
theorem given_cells {w : World} {b : Nat} {g : Cred × Int} {U : Array Value} (hU : encG g = .agg U) (h : w.heap[b]? = some (.cells U 81 (0, 0))) : w.cell? ⟨b, 0, none⟩ = some (.int .i64 g.1.f0.f0) ∧ w.cell? ⟨b, 1, none⟩ = some (.int .i64 g.1.f0.f1) ∧ w.cell? ⟨b, 2, none⟩ = some (.string g.1.f1) ∧ w.cell? ⟨b, 3, none⟩ = some (.int .i64 g.1.f2) ∧ w.cell? ⟨b, 4, none⟩ = some (.string g.1.f3) ∧ w.cell? ⟨b, 5, none⟩ = some (.string g.1.f4.f0) ∧ w.cell? ⟨b, 6, none⟩ = some (.string g.1.f4.f1) ∧ w.cell? ⟨b, 7, none⟩ = some (.string g.1.f5.f0) ∧ w.cell? ⟨b, 8, none⟩ = some (.string g.1.f5.f1) ∧ w.cell? ⟨b, 9, none⟩ = some (.int .i64 g.2) := by
  unfold encG at hU
  injection hU with hU
  subst hU; exact ⟨(Qak h 0).trans rfl, (Qak h 1).trans rfl, (Qak h 2).trans rfl, (Qak h 3).trans rfl, (Qak h 4).trans rfl, (Qak h 5).trans rfl, (Qak h 6).trans rfl, (Qak h 7).trans rfl, (Qak h 8).trans rfl, (Qak h 9).trans rfl⟩
theorem encG_agg (g : Cred × Int) : ∃ U : Array Value, encG g = .agg U ∧ U.size = 10 ∧ U.all (·.oneCell') = true := ⟨_, rfl, rfl, by simp [Value.oneCell']⟩
set_option maxRecDepth 100000 in
set_option maxHeartbeats 8000000 in
theorem stands_calls (w0 w : World) (c0 bg bl bn : Nat) (v : Value) (n : Nat) (m : AM) (t : Tok) (x : Evt) (T E : Array Value) (hM : CAt w0 w c0 bg bl bn v n m) (hT : TokA w t T) (hE : EvA w x E) (h20 : t.f6.length < 21) (hid : ∀ i ∈ t.f6, okID i) (hok : ∀ i ∈ t.f6, okCred (credOf m i)) :
    Calls Tryz.prog 36 #[.pointer (some ⟨c0, 0, none⟩), .agg T, .agg E] w fun e w' => e = .returned (.bool (standsF m t x)) ∧ Below w.heap.size w w' := by
  have hT' := Lib.hid hT; obtain ⟨A4, c4, A6, c6, A7, c7, A8, c8, rfl, l4, g4, l6, g6, -, -, -, -⟩ := hT.form; obtain ⟨e0, e1⟩ := hE.td; have HM := Lib.hid hM; have HID := Lib.hid hid; have HOK := Lib.hid hok; have G4 := Lib.hid (And.intro l4 g4); have G6 := Lib.hid (And.intro l6 g6); have hmx := g6.2.1; clear hM hid hok l4 g4 l6 g6 hT hE; go_enter Tryz.func36, Tryz.ntmps36
  go_wp2_with fail
  generalize hW : ((w.alloc (Obj.cells (tokV t A4 c4 A6 c6 A7 c7 A8 c8) 41)).alloc (Obj.cells E 47)).alloc (Obj.cells #[Value.slice none 0 0] 29) = W1
  obtain ⟨BT, BE, BL, HB1, sz⟩ := made3 hW; have HM1 := Lib.hid (HM.out.below HB1); have HB1 := Lib.hid HB1; have HBT := Lib.hid BT; have HBE := Lib.hid BE; have HBL := Lib.hid BL; have HSZ := Lib.hid sz; clear hW BT BE BL sz
  go_loopg [17] (t.f6.length + 1) (fun kq v17 w' => ∃ (i : Nat) (u : Value), v17 = .int .i64 i ∧ Hid (kq = t.f6.length + 1 - i) ∧ Hid (i ≤ t.f6.length) ∧ Hid ((t.f6.take i).all (fun i => !badF m x i) = true) ∧ Hid (w'.heap[w.heap.size + 1 + 1]? = some (.cells #[u] 29 (0, 0))) ∧ Hid (Kd.R k35 35 w' (w.heap.size + 2) (fun k => k ≠ w.heap.size + 1 + 1) u ((t.f6.take i).map (credOf m))) ∧ Hid (Below (w.heap.size + 2) W1 w'))
  case atStart => exact ⟨0, .slice none 0 0, rfl, Lib.hid rfl, Lib.hid (Nat.zero_le _), Lib.hid rfl, HBL, Lib.hid (Kd.R_nil _ _ _ _ _), Lib.hid (Below.refl _ _)⟩
  case round =>
    obtain ⟨i, u, rfl, HKq, HI, HG, HU, HR, HB⟩ := hrel; have HW := Lib.hid (show Below w.heap.size w wr from ⟨HB.out.os.trans HB1.out.os, HB.out.tape.trans HB1.out.tape, HB.out.output.trans HB1.out.output, Nat.le_trans HB1.out.size HB.out.size, fun k hk => (HB.out.block k (by omega)).trans (HB1.out.block k hk)⟩); have HMr := Lib.hid (HM.out.below HW.out)
    by_cases hi : i < t.f6.length
    · have d1 : decide ((i : Int) < (t.f6.length : Int)) = true := decide_eq_true (by omega)
      have d2 : decide (i < t.f6.length) = true := decide_eq_true hi
      have wrapI : wrap64 ((i : Int) + 1) = ((i + 1 : Nat) : Int) := by unfold wrap64; omega
      obtain ⟨ad, rfl, r0, r1⟩ := at_T31 (Kd.Qa8 G6.out.2 HW.out) (i : Int) (by omega) (by omega)
      have hx : QbH t.f6 (i : Int) = t.f6[i] := by
        unfold QbH; rw [show (i : Int).toNat = i from rfl]; simp [List.getD, List.getElem?_eq_getElem hi]
      have HTk := Lib.hid (show t.f6.take (i + 1) = t.f6.take i ++ [QbH t.f6 (i : Int)] by rw [hx, List.take_add_one, List.getElem?_eq_getElem hi]; rfl); have HMem := Lib.hid (show QbH t.f6 (i : Int) ∈ t.f6 by rw [hx]; exact List.getElem_mem hi); have HI2 := Lib.hid hi; clear hx; rw [show (i : Int).toNat = i from rfl] at r0 r1
      obtain ⟨id, hid⟩ : ∃ id, id = QbH t.f6 (i : Int) := ⟨_, rfl⟩
      rw [← hid] at r0 r1 HTk HMem
      have q1 : (0 : Int) ≤ (i : Int) := by omega
      have q2 : (i : Int) < (t.f6.length : Int) := by omega
      clear hid hi hmx
      go_wp2_with fail
      have B5 := Qa1 wr (.cells (idV id) 31); have HB5 := Lib.hid (Qai (Below.refl wr.heap.size wr) (.cells (idV id) 31)); have HM5 := Lib.hid (HMr.out.below HB5.out)
      obtain ⟨gg, hgg⟩ : ∃ gg, gg = (m.given id).getD zG := ⟨_, rfl⟩
      obtain ⟨U, hU, sU, oU⟩ := encG_agg gg
      generalize hW5 : wr.alloc (Obj.cells #[Value.int .i64 id.f0, Value.int .i64 id.f1] 31) = W5 at B5 HB5 HM5 ⊢
      have f0 := Qaz (QbB HM5.out.blk).2.1; have f1 := Qaz (QaH B5 0 rfl); have f2 := Qaz (QaH B5 1 rfl); have f3 := bw_look HM5.out.g (HID.out _ HMem.out); rw [← hgg, hU] at f3; have HB5' := Lib.hid B5; clear hW5 B5 r0 r1; refine Qbo (n := 12) (S := fun w' => ∃ u : BW W5, w' = u.now) (ds := [10]) #[ff,ff,ff,ff,ff,ff,ff,ff,ff,ff,ff,ff] (by kernel_rfl) rfl rfl ⟨⟨_, Qau (Below.refl _ _)⟩, rfl⟩ (fun hHeld => ?_); obtain ⟨u0, hu0⟩ := hHeld; rw [hu0]; clear hu0
      have hHeld : ∃ u : BW W5, u0.now = u.now := ⟨u0, rfl⟩
      refine kz 0 22 ?_; refine kz 1 23 ?_; refine kz 2 24 ?_; refine kb 3 25 ?_; refine kb 4 26 ?_; refine kb 5 27 ?_; refine kz 6 21 ?_; refine kz 7 28 ?_; refine kz 8 29 ?_; refine kv 9 10 ⟨⟨_, Qai u0.ok _⟩, rfl⟩ ?_; refine ks 10 ?_ (hr := run_putNew rfl rfl U rfl (by rw [sU]; kernel_rfl) (by rw [sU]; try rfl) oU); refine kz 11 11 ?_; refine QbS (by kernel_rfl) ?_
      generalize hW6 : u0.now.alloc (Obj.cells U 81) = W6
      have B6 : W6.heap[u0.now.heap.size]? = some (.cells U 81 (0, 0)) := by rw [← hW6]; exact Qa1 _ _
      have HB6 := Lib.hid (show Below wr.heap.size wr W6 by rw [← hW6]; exact Qai (Qac HB5.out u0.ok) _); have HB56 := Lib.hid (show Below W5.heap.size W5 W6 by rw [← hW6]; exact Qai u0.ok _); obtain ⟨k0, k1, k2, k3, k4, k5, k6, k7, k8, k9⟩ := given_cells hU B6; have be := Qad ((HB.out.block _ (by omega)).trans HBE.out) HB6.out; have x0 := QaH be 0 e0; have x1 := QaH be 1 e1; have bi := Qad HB5'.out HB56.out; have i0 := QaH bi 0 (v := .int .i64 id.f0) rfl; have HU6 := Lib.hid (Qad HU.out HB6.out); have HR6 := Lib.hid (Kd.Qa3 HR.out HB6.out); have HB16 := Lib.hid (show Below (w.heap.size + 2) W1 W6 from HB.out.trans (below_low HB6.out (by have := HB.out.size; have := HSZ.out; omega))); have u1 := QaH HU6.out 0 (v := u) rfl; clear hW6 B6 be bi f0 f1 f2 f3 hHeld
      rcases bad_cases m x id with ⟨h0, hb⟩ | ⟨g, h0, hcs⟩
      · have hs : (m.given id).isSome = false := by rw [h0]; rfl
        have HS := Lib.hid (stands_bad HMem.out hb); rw [hs]; clear hs h0 hb hgg
        go_wp2_with fail
        go_ret; exact ⟨by rw [HS.out]; rfl, Qac HW.out HB6.out⟩
      · have hs : (m.given id).isSome = true := by rw [h0]; rfl
        obtain rfl : gg = g := by rw [hgg, h0]; rfl
        have HC := Lib.hid (show credOf m id = gg.1 by unfold credOf; rw [← hgg]); rw [hs]; clear hs h0 hgg
        rcases hcs with ⟨p0, hb⟩ | ⟨p0, p1, hb⟩ | ⟨p0, p1, p2, hb⟩ | ⟨p0, p1, p2, hb⟩
        · have HG2 := Lib.hid (show (t.f6.take (i + 1)).all (fun i => !badF m x i) = true by rw [HTk.out, List.all_append, HG.out]; simp [hb])
          clear hb
          go_wp2_with ((with_reducible refine QaY (b := .append) (xs := #[.tmp 57, .tmp 60]) rfl ?_); at_builtin; refine Kd.QbG k35 (w0 := W1) (w.heap.size + 2) rfl (.tmp 57) (.tmp 60) 29 35 (.agg #[.int .i64 0, .int .i64 0, .string ⟨#[]⟩, .int .i64 0, .string ⟨#[]⟩, .string ⟨#[]⟩, .string ⟨#[]⟩, .string ⟨#[]⟩, .string ⟨#[]⟩]) 120 rfl Tryz.underlying29 infoCredS rfl (by decide) (by omega) _ ((t.f6.take i).map (credOf m)) gg.1 [.int .i64 gg.1.f0.f0, .int .i64 gg.1.f0.f1, .string gg.1.f1, .int .i64 gg.1.f2, .string gg.1.f3, .string gg.1.f4.f0, .string gg.1.f4.f1, .string gg.1.f5.f0, .string gg.1.f5.f1] (fun k => k ≠ w.heap.size + 1 + 1) (fun _ => False) rfl rfl ?aP (fun _ hk => hk.elim) (fun k hk e => by have := Qbi HU6.out; omega) ?aO ?aB ?aS ?aL ?_; (case aP => exact k35_mkM _ _ _ gg.1); (case aB => exact HB16.out); (case aO => exact HR6.out); (case aS => have := Qbi HU6.out; omega); (case aL => simp; omega); intro v2 w2 ho hb hg hat; obtain ⟨A2, n2, c2, rfl⟩ := slice_of ho; have HO := Lib.hid ho; have HBo := Lib.hid hb; have BU2 := (hg.block _ (Qbi HU6.out) (Kd.R_ne HR6.out HU6.out (by decide))).trans HU6.out; have u2 := QaH BU2 0 rfl; have uf2 := QaP BU2 0; have HU2 := Lib.hid BU2; clear ho hb hg hat BU2)
          go_roundg (t.f6.length + 1 - (i + 1))
          case measure => have := HKq.out; have := HI2.out; omega
          case rel => exact ⟨i + 1, _, by first | rfl | exact congrArg _ wrapI, Lib.hid rfl, Lib.hid HI2.out, HG2, Lib.hid (Qbl HU2.out 0 _ rfl), Lib.hid (by rw [HTk.out, List.map_append, List.map_cons, List.map_nil, HC.out]; exact Kd.R_far HO.out (p := ⟨w.heap.size + 1 + 1, 0, none⟩) (fun k hk => hk) _), Lib.hid (HBo.out.setCell (p := ⟨w.heap.size + 1 + 1, 0, none⟩) (by show w.heap.size + 2 ≤ w.heap.size + 1 + 1; omega) _)⟩
        · have HS := Lib.hid (stands_bad HMem.out hb)
          clear hb
          go_wp2_with fail
          go_ret; exact ⟨by rw [HS.out]; rfl, Qac HW.out HB6.out⟩
        · have HS := Lib.hid (stands_bad HMem.out hb)
          clear hb
          go_wp2_with fail
          go_ret; exact ⟨by rw [HS.out]; rfl, Qac HW.out HB6.out⟩
        · have HG2 := Lib.hid (show (t.f6.take (i + 1)).all (fun i => !badF m x i) = true by rw [HTk.out, List.all_append, HG.out]; simp [hb])
          clear hb
          go_wp2_with ((with_reducible refine QaY (b := .append) (xs := #[.tmp 57, .tmp 60]) rfl ?_); at_builtin; refine Kd.QbG k35 (w0 := W1) (w.heap.size + 2) rfl (.tmp 57) (.tmp 60) 29 35 (.agg #[.int .i64 0, .int .i64 0, .string ⟨#[]⟩, .int .i64 0, .string ⟨#[]⟩, .string ⟨#[]⟩, .string ⟨#[]⟩, .string ⟨#[]⟩, .string ⟨#[]⟩]) 120 rfl Tryz.underlying29 infoCredS rfl (by decide) (by omega) _ ((t.f6.take i).map (credOf m)) gg.1 [.int .i64 gg.1.f0.f0, .int .i64 gg.1.f0.f1, .string gg.1.f1, .int .i64 gg.1.f2, .string gg.1.f3, .string gg.1.f4.f0, .string gg.1.f4.f1, .string gg.1.f5.f0, .string gg.1.f5.f1] (fun k => k ≠ w.heap.size + 1 + 1) (fun _ => False) rfl rfl ?aP (fun _ hk => hk.elim) (fun k hk e => by have := Qbi HU6.out; omega) ?aO ?aB ?aS ?aL ?_; (case aP => exact k35_mkM _ _ _ gg.1); (case aB => exact HB16.out); (case aO => exact HR6.out); (case aS => have := Qbi HU6.out; omega); (case aL => simp; omega); intro v2 w2 ho hb hg hat; obtain ⟨A2, n2, c2, rfl⟩ := slice_of ho; have HO := Lib.hid ho; have HBo := Lib.hid hb; have BU2 := (hg.block _ (Qbi HU6.out) (Kd.R_ne HR6.out HU6.out (by decide))).trans HU6.out; have u2 := QaH BU2 0 rfl; have uf2 := QaP BU2 0; have HU2 := Lib.hid BU2; clear ho hb hg hat BU2)
          go_roundg (t.f6.length + 1 - (i + 1))
          case measure => have := HKq.out; have := HI2.out; omega
          case rel => exact ⟨i + 1, _, by first | rfl | exact congrArg _ wrapI, Lib.hid rfl, Lib.hid HI2.out, HG2, Lib.hid (Qbl HU2.out 0 _ rfl), Lib.hid (by rw [HTk.out, List.map_append, List.map_cons, List.map_nil, HC.out]; exact Kd.R_far HO.out (p := ⟨w.heap.size + 1 + 1, 0, none⟩) (fun k hk => hk) _), Lib.hid (HBo.out.setCell (p := ⟨w.heap.size + 1 + 1, 0, none⟩) (by show w.heap.size + 2 ≤ w.heap.size + 1 + 1; omega) _)⟩
    · have d1 : decide ((i : Int) < (t.f6.length : Int)) = false := decide_eq_false (by omega)
      have d2 : decide (i < t.f6.length) = false := decide_eq_false hi
      have hil : i = t.f6.length := by have := HI.out; omega
      have hG := HG.out; have hR := HR.out; rw [hil, List.take_length] at hG hR; have HG := Lib.hid hG; obtain ⟨A9, c9, rfl, hc9, hC9⟩ := Kd.R_reads hR; have u1 := QaH HU.out 0 (v := .slice A9 (t.f6.map (credOf m)).length c9) rfl; have bt := (HB.out.block _ (by omega)).trans HBT.out; have p4 := (tok_cells bt).2.2.2.2.1
      have HCn := Lib.hid (containsRol_calls wr A4 c4 (w.heap.size + 1 + 1) w.heap.size (t.f4.map roleV) (t.f4.map fun r => !hasF (t.f6.map (credOf m)) t.f3 r) (by rw [List.length_map, List.length_map]) (raw_roles (Kd.Qa8 G4.out.2 HW.out)) (by rw [List.length_map]; exact G4.out.1) (fun W hW k T y hT hy => by
        rw [List.getElem?_map] at hT hy; obtain ⟨r, hr, rfl⟩ := Option.map_eq_some_iff.mp hT; rw [hr] at hy; obtain rfl := Option.some.inj hy
        exact stands1_calls W _ _ _ A9 c9 t _ r (Qad HU.out hW) (Qad bt hW) (hT'.out.below (Qac HW.out hW)) (Kd.Qa8 hC9 hW) hc9 (by rw [List.length_map]; exact h20) (fun x hx => by obtain ⟨j, hj, rfl⟩ := List.mem_map.mp hx; exact HOK.out j hj)))
      rw [List.length_map, List.any_map] at HCn; have HSt := Lib.hid (stands_good (m := m) (t := t) (x := x) HG.out); clear hi hil hG hR hC9 hc9 bt
      go_wp2_with (go_at_call 54; refine HCn.out.mono ?_; rintro e w9 ⟨rfl, hb9⟩; have HB9 := Lib.hid hb9; clear hb9)
      go_ret; exact ⟨by rw [HSt.out]; rfl, Qac HW.out HB9.out⟩
section
open Go.ChangeMaps (setBlock)
abbrev evV (x : Evt) (A14 : Option Addr) (c14 : Nat) (A20 : Option Addr) (c20 : Nat) (A22 : Option Addr) (c22 : Nat) (A23 : Option Addr) (c23 : Nat) (A24 : Option Addr) (c24 : Nat) (A32 : Option Addr) (c32 : Nat) (A34 : Option Addr) (c34 : Nat) (A35 : Option Addr) (c35 : Nat) (A36 : Option Addr) (c36 : Nat) : Array Value := #[.int .i64 x.f0, .int .i64 x.f1, .int .i64 x.f2.f0, .int .i64 x.f2.f1.f0.f0, .int .i64 x.f2.f1.f0.f1, .string x.f2.f1.f1, .int .i64 x.f2.f1.f2, .string x.f2.f1.f3, .string x.f2.f1.f4.f0, .string x.f2.f1.f4.f1, .string x.f2.f1.f5.f0, .string x.f2.f1.f5.f1, .int .i64 x.f2.f2, .string x.f2.f3, .slice A14 x.f2.f4.length c14, .string x.f2.f5, .int .i64 x.f2.f6.f0, .int .i64 x.f2.f6.f1, .int .i64 x.f2.f6.f2, .string x.f2.f6.f3, .slice A20 x.f2.f6.f4.length c20, .int .i64 x.f2.f6.f5, .slice A22 x.f2.f6.f6.length c22, .slice A23 x.f2.f6.f7.length c23, .slice A24 x.f2.f6.f8.length c24, .int .i64 x.f2.f7, .int .i64 x.f3.f0, .int .i64 x.f3.f1, .int .i64 x.f3.f2.f0, .int .i64 x.f3.f2.f1, .int .i64 x.f3.f2.f2, .string x.f3.f2.f3, .slice A32 x.f3.f2.f4.length c32, .int .i64 x.f3.f2.f5, .slice A34 x.f3.f2.f6.length c34, .slice A35 x.f3.f2.f7.length c35, .slice A36 x.f3.f2.f8.length c36]
theorem EvA.form {w : World} {x : Evt} {E : Array Value} (h : EvA w x E) : ∃ A14 c14 A20 c20 A22 c22 A23 c23 A24 c24 A32 c32 A34 c34 A35 c35 A36 c36, E = evV x A14 c14 A20 c20 A22 c22 A23 c23 A24 c24 A32 c32 A34 c34 A35 c35 A36 c36 ∧ (x.f2.f4.length ≤ c14 ∧ k33.C w A14 x.f2.f4.length x.f2.f4) ∧ TokA w x.f2.f6 (tokV x.f2.f6 A20 c20 A22 c22 A23 c23 A24 c24) ∧ TokA w x.f3.f2 (tokV x.f3.f2 A32 c32 A34 c34 A35 c35 A36 c36) := by
  obtain ⟨l, rfl, hl⟩ := h.at_; obtain ⟨A14, c14, A20, c20, A22, c22, A23, c23, A24, c24, A32, c32, A34, c34, A35, c35, A36, c36, rfl, l14, g14, l20, g20, l22, g22, l23, g23, l24, g24, l32, g32, l34, g34, l35, g35, l36, g36⟩ := QbR hl; exact ⟨A14, c14, A20, c20, A22, c22, A23, c23, A24, c24, A32, c32, A34, c34, A35, c35, A36, c36, rfl, ⟨l14, g14⟩, k41_mk _ _ l20 g20 l22 g22 l23 g23 l24 g24, k41_mk _ _ l32 g32 l34 g34 l35 g35 l36 g36⟩
def gaveC (x : Evt) : Cred := ⟨⟨x.f1, x.f3.f1⟩, x.f2.f1.f1, x.f2.f1.f2, x.f2.f1.f3, x.f2.f1.f4, x.f2.f1.f5⟩
def updI (g : Int → Int) (i c : Int) : Int → Int := fun j => if i = j then c else g j
def updG (g : ID → Option (Cred × Int)) (i : ID) (c : Cred × Int) : ID → Option (Cred × Int) := fun j => if i = j then some c else g j
noncomputable def addF (m : AM) (x : Evt) : Bool × AM := if x.f3.f1 ≤ m.last x.f1 ∨ credMay (gaveC x) = false then (false, m) else (true, { m with last := updI m.last x.f1 x.f3.f1, given := updG m.given ⟨x.f1, x.f3.f1⟩ (gaveC x, -1) })
def revokeF (m : AM) (x : Evt) : Bool × AM := match m.given ⟨x.f1, x.f2.f2⟩ with
  | none => (false, m)
  | some g => if 0 ≤ g.2 then (false, m) else (true, { m with given := updG m.given ⟨x.f1, x.f2.f2⟩ (g.1, x.f0) })
noncomputable def issueF (m : AM) (x : Evt) : Bool × AM := if x.f3.f2.f0 = x.f1 ∧ m.number x.f1 < x.f3.f2.f2 ∧ x.f3.f2.f3 = x.f2.f3 ∧ x.f3.f2.f4 = x.f2.f4 ∧ standsF m x.f3.f2 x = true then (true, { m with number := updI m.number x.f1 x.f3.f2.f2, issued := m.issued ++ [x.f3.f2] }) else (false, m)
noncomputable def verifyF (m : AM) (x : Evt) : Bool := if x.f2.f6.f0 = x.f1 ∧ (m.issued.any fun u => headB x.f2.f6 u) = true then (match x.f2.f4 with | [] => false | r :: _ => decide (r ∈ x.f2.f6.f4) && standsF m x.f2.f6 x) else true
def CRan (w0 : World) (c0 bg bl bn n : Nat) (m : AM) (w' : World) : Prop := ∃ v, CAt w0 w' c0 bg bl bn v n m
theorem small_maxA {n : Nat} (h : n ≤ 1000000) : n < maxLen := by
  have : maxLen = 9223372036854775807 := by decide
  omega
def GOk (m : AM) : Prop := ∀ i g, m.given i = some g → okCred g.1
theorem GOk.cred {m : AM} (h : GOk m) (i : ID) : okCred (credOf m i) := by
  unfold credOf
  cases e : m.given i with
  | none => exact ⟨by decide, by decide, ⟨by decide, by decide⟩, by decide, by decide⟩
  | some g => exact h i g e
theorem TokA.rows {w : World} {t : Tok} {A4 : Option Addr} {c4 : Nat} {A6 : Option Addr} {c6 : Nat} {A7 : Option Addr} {c7 : Nat} {A8 : Option Addr} {c8 : Nat} (h : TokA w t (tokV t A4 c4 A6 c6 A7 c7 A8 c8)) : (t.f4.length ≤ c4 ∧ k33.C w A4 t.f4.length t.f4) ∧ (t.f6.length ≤ c6 ∧ k31.C w A6 t.f6.length t.f6) := by
  obtain ⟨B4, d4, B6, d6, B7, d7, B8, d8, he, m4, h4, m6, h6, -⟩ := h.form; have e4 : some (Value.slice A4 t.f4.length c4) = some (Value.slice B4 t.f4.length d4) := congrArg (fun T : Array Value => T[4]?) he; have e6 : some (Value.slice A6 t.f6.length c6) = some (Value.slice B6 t.f6.length d6) := congrArg (fun T : Array Value => T[6]?) he
  injection e4 with e4
  injection e4 with a4 _ b4
  injection e6 with e6
  injection e6 with a6 _ b6
  subst a4 b4 a6 b6; exact ⟨⟨m4, h4⟩, m6, h6⟩
theorem addr_zeroA (a : Addr) : a.add 0 = a := by
  cases a; unfold Addr.add
  split <;> simp_all
structure EvOk (x : Evt) : Prop where
  t : okI x.f0
  d : okI x.f1
  s : okI x.f2.f2
  rs : okI x.f3.f1
  c : okCred x.f2.f1
  n1 : x.f2.f6.f6.length < 21
  n2 : x.f3.f2.f6.length < 21
  i1 : ∀ i ∈ x.f2.f6.f6, okID i
  i2 : ∀ i ∈ x.f3.f2.f6, okID i
theorem EvOk.gave {x : Evt} (h : EvOk x) : okCred (gaveC x) := h.c
theorem Qa4 {W : World} {b i : Nat} {O : Obj} (h : i ≠ b) : (setBlock W b O).heap[i]? = W.heap[i]? := by
  unfold setBlock; simp [Ne.symm h]
theorem size_setBlock (W : World) (b : Nat) (O : Obj) : (setBlock W b O).heap.size = W.heap.size := by simp [setBlock]
theorem below_setBlock {B : Nat} {w W : World} (h : Below B w W) {b : Nat} (hb : B ≤ b) (O : Obj) : Below B w (setBlock W b O) := ⟨h.os, h.tape, h.output, by rw [size_setBlock]; exact h.size, fun k hk => (Qa4 (by omega)).trans (h.block k hk)⟩
section
variable {w0 w : World} {c0 bg bl bn n : Nat} {v : Value} {m : AM}
theorem Qb0 {w : World} {k b : Nat} {cs : Array Value} {ty : TypeId} {κ : Type} {enc : κ → Value} {ok : κ → Prop} {T : List (κ × Value)} (h : w.heap[k]? = some (.cells cs ty (0, 0))) (hT : Tbl enc ok w b T) : k ≠ b := by
  rintro rfl; obtain ⟨es, clock, hb, _⟩ := hT; rw [h] at hb; cases hb
theorem CAt.c_ne_l (h : CAt w0 w c0 bg bl bn v n m) : c0 ≠ bl := by
  obtain ⟨T, hT, _⟩ := h.l; exact Qb0 h.blk hT
theorem CAt.c_ne_k (h : CAt w0 w c0 bg bl bn v n m) : c0 ≠ bn := by
  obtain ⟨T, hT, _⟩ := h.k; exact Qb0 h.blk hT
theorem CAt.c_ne_g (h : CAt w0 w c0 bg bl bn v n m) : c0 ≠ bg := by
  obtain ⟨T, hT, _⟩ := h.g; exact Qb0 h.blk hT
theorem CAt.v_ne (h : CAt w0 w c0 bg bl bn v n m) {k : Nat} (hk : v.ownBlock = some k) : k ≠ c0 ∧ k ≠ bg ∧ k ≠ bl ∧ k ≠ bn := by
  obtain ⟨_, _, cells, hc⟩ := h.t.lt hk; obtain ⟨T1, h1, _⟩ := h.g; obtain ⟨T2, h2, _⟩ := h.l; obtain ⟨T3, h3, _⟩ := h.k; refine ⟨?_, Qb0 hc h1, Qb0 hc h2, Qb0 hc h3⟩; rintro rfl; have := Option.some.inj (hc.symm.trans h.blk)
  injection this with _ h3 _
  exact absurd h3 (by decide)
theorem CAt.putL (h : CAt w0 w c0 bg bl bn v n m) {i : Int} (hi : okI i) (c : Int) (hn : n < maxLen) :
    ∃ O, (∀ W : World, Below w.heap.size w W → (Instr.mapUpdate 52 (.map (some bl)) (.int .i64 i) (.int .i64 c)).run Tryz.prog W = .ok () (setBlock W bl O)) ∧ ∀ W : World, Below w.heap.size w W → CAt w0 (setBlock W bl O) c0 bg bl bn v (n + 1) { m with last := updI m.last i c } := by
  obtain ⟨O, hr, ht⟩ := h.l.put hi c hn; refine ⟨O, fun W hW => hr W (hW.block _ h.l.lt), fun W hW => ?_⟩; have h2 := (h.below hW).mono (Nat.le_succ n)
  exact { h2 with
    blk := (Qa4 h.c_ne_l).trans h2.blk
    g := h2.g.same (Qa4 h.gl)
    l := ht W h2.l.lt
    k := h2.k.same (Qa4 (Ne.symm h.ln))
    t := h2.t.same (fun k hk => Qa4 (h.v_ne hk).2.2.1)
    old := below_setBlock h2.old h.bll O }
theorem CAt.putK (h : CAt w0 w c0 bg bl bn v n m) {i : Int} (hi : okI i) (c : Int) (hn : n < maxLen) :
    ∃ O, (∀ W : World, Below w.heap.size w W → (Instr.mapUpdate 52 (.map (some bn)) (.int .i64 i) (.int .i64 c)).run Tryz.prog W = .ok () (setBlock W bn O)) ∧ ∀ W : World, Below w.heap.size w W → CAt w0 (setBlock W bn O) c0 bg bl bn v (n + 1) { m with number := updI m.number i c } := by
  obtain ⟨O, hr, ht⟩ := h.k.put hi c hn; refine ⟨O, fun W hW => hr W (hW.block _ h.k.lt), fun W hW => ?_⟩; have h2 := (h.below hW).mono (Nat.le_succ n)
  exact { h2 with
    blk := (Qa4 h.c_ne_k).trans h2.blk
    g := h2.g.same (Qa4 h.gn)
    l := h2.l.same (Qa4 h.ln)
    k := ht W h2.k.lt
    t := h2.t.same (fun k hk => Qa4 (h.v_ne hk).2.2.2)
    old := below_setBlock h2.old h.bnl O }
theorem CAt.putG (h : CAt w0 w c0 bg bl bn v n m) {i : ID} (hi : okID i) (c : Cred × Int) (hn : n < maxLen) :
    ∃ O, (∀ W : World, Below w.heap.size w W → (Instr.mapUpdate 51 (.map (some bg)) (encID i) (encG c)).run Tryz.prog W = .ok () (setBlock W bg O)) ∧ ∀ W : World, Below w.heap.size w W → CAt w0 (setBlock W bg O) c0 bg bl bn v (n + 1) { m with given := updG m.given i c } := by
  obtain ⟨O, hr, ht⟩ := h.g.put hi c hn; refine ⟨O, fun W hW => hr W (hW.block _ h.g.lt), fun W hW => ?_⟩; have h2 := (h.below hW).mono (Nat.le_succ n)
  exact { h2 with
    blk := (Qa4 h.c_ne_g).trans h2.blk
    g := ht W h2.g.lt
    l := h2.l.same (Qa4 (Ne.symm h.gl))
    k := h2.k.same (Qa4 (Ne.symm h.gn))
    t := h2.t.same (fun k hk => Qa4 (h.v_ne hk).2.1)
    old := below_setBlock h2.old h.bgl O }
theorem CAt.putI (h : CAt w0 w c0 bg bl bn v n m) {Ts : List (Array Value)} {T : Array Value} {t : Tok} (hn : Ts.length ≤ n) (hl : Ts.length = m.issued.length) (hTs : ∀ (i : Nat) (t : Tok) (T : Array Value), m.issued[i]? = some t → Ts[i]? = some T → TokA w0 t T) {w6 : World} {v6 : Value} (ho : Kd.R (kRaw 9) 41 w6 w0.heap.size (fun _ => True) v6 (Ts ++ [T])) (hg : w.grownBy w6 v.ownBlock) (hb : Below w0.heap.size w0 w6) (hT : TokA w0 t T) :
    w6.heap[c0]? = w.heap[c0]? ∧ CAt w0 (w6.setCell ⟨c0, 4, none⟩ v6) c0 bg bl bn v6 (n + 1) { m with issued := m.issued ++ [t] } := by
  have hc : w6.heap[c0]? = w.heap[c0]? := hg.block _ (Qbi h.blk) (fun e => (h.v_ne e.symm).1 rfl); have hc6 := hc.trans h.blk
  have hne : ∀ k, v6.ownBlock = some k → k ≠ c0 := fun k hk e => by
    obtain ⟨cells, h1⟩ := Kd.R_typed ho k hk; rw [e, hc6] at h1; have := Option.some.inj h1
    injection this with _ h3 _
    exact absurd h3 (by decide)
  have hs (b : Nat) (h1 : b < w.heap.size) (h2 : b ≠ c0) (h3 : some b ≠ v.ownBlock) : (w6.setCell ⟨c0, 4, none⟩ v6).heap[b]? = w.heap[b]? := (Below.heap_setCell _ _ _ b h2).trans (hg.block _ h1 h3)
  refine ⟨hc, { h with
    blk := Qbl hc6 4 v6 rfl
    g := (h.g.same (hs bg h.g.lt (Ne.symm h.c_ne_g) (fun e => (h.v_ne e.symm).2.1 rfl))).mono (Nat.le_succ n)
    l := (h.l.same (hs bl h.l.lt (Ne.symm h.c_ne_l) (fun e => (h.v_ne e.symm).2.2.1 rfl))).mono (Nat.le_succ n)
    k := (h.k.same (hs bn h.k.lt (Ne.symm h.c_ne_k) (fun e => (h.v_ne e.symm).2.2.2 rfl))).mono (Nat.le_succ n)
    t := ?_
    old := hb.setCell (p := ⟨c0, 4, none⟩) h.c0l _ }⟩
  refine TRows.same (w := w6) ⟨Ts ++ [T], ho, by rw [List.length_append]; exact Nat.succ_le_succ hn, by rw [List.length_append, List.length_append, hl]; rfl, fun i u U hu hU => ?_⟩ (fun k hk => Below.heap_setCell _ _ _ k (hne k hk))
  by_cases hi : i < Ts.length
  · rw [List.getElem?_append_left (by omega)] at hu hU
    exact hTs i u U hu hU
  · rw [List.getElem?_append_right (by omega)] at hu hU
    rw [hl] at hU
    cases hz : i - m.issued.length with
    | zero =>
      rw [hz] at hu hU; obtain rfl := Option.some.inj hu; obtain rfl := Option.some.inj hU; exact hT
    | succ j =>
      rw [hz] at hu; simp at hu
end
theorem made2 {w W : World} {C1 C2 : Array Value} {t1 t2 : TypeId} (h : (w.alloc (.cells C1 t1)).alloc (.cells C2 t2) = W) : W.heap[w.heap.size]? = some (.cells C1 t1 (0, 0)) ∧ W.heap[w.heap.size + 1]? = some (.cells C2 t2 (0, 0)) ∧ Below w.heap.size w W := by
  subst h; have z1 : (w.alloc (.cells C1 t1)).heap.size = w.heap.size + 1 := Array.size_push _; refine ⟨Qam (Qa1 w _) _, ?_, Qai (Qai (Below.refl _ _) _) _⟩; have := Qa1 (w.alloc (.cells C1 t1)) (.cells C2 t2); rw [z1] at this; exact this
theorem cred_cells {w : World} {b : Nat} {c : Cred} {ty : TypeId} (h : w.heap[b]? = some (.cells (credV c) ty (0, 0))) : w.cell? ⟨b, 0, none⟩ = some (.int .i64 c.f0.f0) ∧ w.cell? ⟨b, 1, none⟩ = some (.int .i64 c.f0.f1) ∧ w.cell? ⟨b, 2, none⟩ = some (.string c.f1) ∧ w.cell? ⟨b, 3, none⟩ = some (.int .i64 c.f2) ∧ w.cell? ⟨b, 4, none⟩ = some (.string c.f3) ∧ w.cell? ⟨b, 5, none⟩ = some (.string c.f4.f0) ∧ w.cell? ⟨b, 6, none⟩ = some (.string c.f4.f1) ∧ w.cell? ⟨b, 7, none⟩ = some (.string c.f5.f0) ∧ w.cell? ⟨b, 8, none⟩ = some (.string c.f5.f1) :=
  ⟨(Qak h 0).trans rfl, (Qak h 1).trans rfl, (Qak h 2).trans rfl, (Qak h 3).trans rfl, (Qak h 4).trans rfl, (Qak h 5).trans rfl, (Qak h 6).trans rfl, (Qak h 7).trans rfl, (Qak h 8).trans rfl⟩
end
section
open Go.RowKit Go.ChangeShapes Go.WideShapes Go.Proofs.YtbjjonpkmplhbaaGreatDoorW.PrintWords Go.Proofs.YtbjjonpkmplhbaaGreatDoorW.PrintLast Go.Proofs.YtbjjonpkmplhbaaGreatDoorW.PrintMore
def At {α : Type} (w : World) (d : Kd α) (Q : α → Prop) (cs : List Value) : Prop := ∃ a, d.K w a cs ∧ Q a
section
variable {α β : Type} {w : World} {d0 : Kd α} {d1 : Kd β} {Q0 : α → Prop} {Q1 : β → Prop} {cs : List Value}
theorem At.pairAt {o s : Nat} (h0 : At w d0 Q0 ((cs.drop o).take s)) (h1 : At w d1 Q1 (cs.drop (o + s))) : At w (Kd.pair d0 d1) (fun p => Q0 p.1 ∧ Q1 p.2) (cs.drop o) := by
  obtain ⟨a, ka, qa⟩ := h0; obtain ⟨b, kb, qb⟩ := h1; refine ⟨(a, b), ⟨(cs.drop o).take s, cs.drop (o + s), ?_, ka, kb⟩, qa, qb⟩; rw [← List.drop_drop, List.take_append_drop]
theorem At.last {o s : Nat} (h0 : At w d0 Q0 ((cs.drop o).take s)) (hl : cs.length = o + s) : At w d0 Q0 (cs.drop o) := by
  rw [List.take_of_length_le (by rw [List.length_drop]; omega)] at h0; exact h0
theorem At.iso {f : β → α} (g : α → β) (hg : ∀ p, f (g p) = p) (h : At w d0 Q0 cs) : At w (Kd.iso d0 f) (fun x => Q0 (f x)) cs := by
  obtain ⟨a, ka, qa⟩ := h; exact ⟨g a, by show d0.K w (f (g a)) cs; rw [hg]; exact ka, by show Q0 (f (g a)); rw [hg]; exact qa⟩
theorem At.imp {Q : α → Prop} (h : At w d0 Q0 cs) (hi : ∀ a, Q0 a → Q a) : At w d0 Q cs := by
  obtain ⟨a, ka, qa⟩ := h; exact ⟨a, ka, hi a qa⟩
end
section
variable {H : Type} {enc : TypeId × Value → H} {P : Program} {w : World} {base : Nat} {spare : Nat → Bool} {held : Bool}
theorem at_int {t : TypeId} {n : Nat} {cs : List Value} (ht : P.underlying t = some (.int .i64)) (h : ∃ y, DataW.trod enc P w base spare held n t cs = some y) : At w (Kd.int .i64) okI cs := by
  obtain ⟨y, h⟩ := h; obtain ⟨s, e, _, z⟩ := DataW.trod_int ht h; exact ⟨s, e, z⟩
theorem at_str {t : TypeId} {n : Nat} {cs : List Value} (ht : P.underlying t = some .string) (h : ∃ y, DataW.trod enc P w base spare held n t cs = some y) : At w Kd.string (fun s => s.size ≤ maxLen) cs := by
  obtain ⟨y, h⟩ := h; obtain ⟨s, e, _, z⟩ := DataW.trod_string ht h; exact ⟨s, e, z⟩
theorem at_rows {α : Type} {d : Kd α} {Q : α → Prop} {t e : TypeId} {n : Nat} {cs : List Value} (ht : P.underlying t = some (.slice e)) (hc : P.cellsOf e = d.sz) (ho : Opens P e d Q) (h : ∃ y, DataW.trod enc P w base spare held n t cs = some y) : At w (Kd.slice e d) (fun l => ∀ y ∈ l, Q y) cs := by
  obtain ⟨y, h⟩ := h
  rcases DataW.trod_slice ht h with ⟨rfl, _⟩ | ⟨a', len', cap', elems, rest, m, _, rfl, _, hb, hl, hm, hlen, hel, _, _⟩
  · exact ⟨[], ⟨none, 0, rfl, Nat.le_refl _, rfl, Nat.zero_le _, fun h => absurd h (Nat.lt_irrefl _)⟩, fun y hy => by cases hy⟩
  · obtain ⟨xs, e1, e2, e3, e4⟩ := open_row ht hc ho h
    exact ⟨xs, ⟨_, _, by rw [e1], e3, e2⟩, e4⟩
theorem opens_u8 {t : TypeId} (ht : P.underlying t = some (.int .u8)) : Opens P t (Kd.int .u8) (fun _ => True) := by
  intro H enc w base spare held fuel cs x h; obtain ⟨s, e, _, z⟩ := DataW.trod_int ht h; exact ⟨s, e, trivial⟩
end
def okRole0 (r : Role) : Prop := r.f0.size ≤ maxLen ∧ r.f1.size ≤ maxLen
theorem opens_ID : Opens Tryz.prog 31 k31 okID := by
  intro H enc w base spare held fuel cs x h; obtain ⟨hl, n, hf⟩ := field_at Tryz.underlying31 h; rw [Tryz.cellsID] at hl; obtain ⟨y0, h0⟩ : ∃ y, DataW.trod enc Tryz.prog w base spare held n 3 ((cs.drop 0).take (Tryz.prog.cellsOf 3)) = some y := hf 0 _ rfl; obtain ⟨y1, h1⟩ : ∃ y, DataW.trod enc Tryz.prog w base spare held n 3 ((cs.drop 1).take (Tryz.prog.cellsOf 3)) = some y := hf 1 _ rfl; rw [Tryz.cellsInt] at h0 h1; obtain ⟨c0, c1, rfl⟩ := list2 hl; obtain ⟨s0, e0, _, z0⟩ := DataW.trod_int Tryz.underlying3 h0; obtain ⟨s1, e1, _, z1⟩ := DataW.trod_int Tryz.underlying3 h1
  obtain rfl : c0 = .int .i64 s0 := by simpa using e0
  obtain rfl : c1 = .int .i64 s1 := by simpa using e1
  exact ⟨⟨s0, s1⟩, k31_mk w ⟨s0, s1⟩, z0, z1⟩
def okCaveat (c : S64) : Prop := True
def okToken (t : S41) : Prop := ∀ i ∈ t.f6, okID i
def okCall (c : S43) : Prop := okCred c.f1 ∧ okI c.f2 ∧ okToken c.f6
def okReply (r : S45) : Prop := okI r.f1 ∧ okToken r.f2
def okEvent (x : S47) : Prop := okI x.f0 ∧ okI x.f1 ∧ okCall x.f2 ∧ okReply x.f3
theorem Tryz.cellsEvent : Tryz.prog.cellsOf 47 = 37 := by kernel_rfl
theorem opens_Caveat : Opens Tryz.prog 64 k64 okCaveat := by
  intro H enc w base spare held fuel cs x h; obtain ⟨hl, n, hf⟩ := field_at Tryz.underlying64 h; rw [show Tryz.prog.cellsOf 64 = 4 from by kernel_rfl] at hl; have h0 : ∃ y, DataW.trod enc Tryz.prog w base spare held n 3 ((cs.drop 0).take (Tryz.prog.cellsOf 3)) = some y := hf 0 _ rfl; rw [show Tryz.prog.cellsOf 3 = 1 from by kernel_rfl] at h0; have a0 := at_int Tryz.underlying3 h0; have h1 : ∃ y, DataW.trod enc Tryz.prog w base spare held n 36 ((cs.drop 1).take (Tryz.prog.cellsOf 36)) = some y := hf 1 _ rfl; rw [show Tryz.prog.cellsOf 36 = 1 from by kernel_rfl] at h1; have a1 := at_rows (Q := okRole0) Tryz.underlying36 (by kernel_rfl) opens_role h1; have h2 : ∃ y, DataW.trod enc Tryz.prog w base spare held n 3 ((cs.drop 2).take (Tryz.prog.cellsOf 3)) = some y := hf 2 _ rfl; rw [show Tryz.prog.cellsOf 3 = 1 from by kernel_rfl] at h2; have a2 := at_int Tryz.underlying3 h2; have h3 : ∃ y, DataW.trod enc Tryz.prog w base spare held n 9 ((cs.drop 3).take (Tryz.prog.cellsOf 9)) = some y := hf 3 _ rfl; rw [show Tryz.prog.cellsOf 9 = 1 from by kernel_rfl] at h3; have a3 := at_str Tryz.underlying9 h3; refine At.imp (At.iso (fun p => ⟨p.1, p.2.1, p.2.2.1, p.2.2.2⟩) (fun _ => rfl) (At.pairAt (o := 0) (s := 1) a0 (At.pairAt (o := 1) (s := 1) a1 (At.pairAt (o := 2) (s := 1) a2 (At.last (o := 3) (s := 1) a3 hl))))) (fun _ _ => trivial)
theorem opens_Token : Opens Tryz.prog 41 k41 okToken := by
  intro H enc w base spare held fuel cs x h; obtain ⟨hl, n, hf⟩ := field_at Tryz.underlying41 h; rw [show Tryz.prog.cellsOf 41 = 9 from by kernel_rfl] at hl; have h0 : ∃ y, DataW.trod enc Tryz.prog w base spare held n 3 ((cs.drop 0).take (Tryz.prog.cellsOf 3)) = some y := hf 0 _ rfl; rw [show Tryz.prog.cellsOf 3 = 1 from by kernel_rfl] at h0; have a0 := at_int Tryz.underlying3 h0; have h1 : ∃ y, DataW.trod enc Tryz.prog w base spare held n 3 ((cs.drop 1).take (Tryz.prog.cellsOf 3)) = some y := hf 1 _ rfl; rw [show Tryz.prog.cellsOf 3 = 1 from by kernel_rfl] at h1; have a1 := at_int Tryz.underlying3 h1; have h2 : ∃ y, DataW.trod enc Tryz.prog w base spare held n 3 ((cs.drop 2).take (Tryz.prog.cellsOf 3)) = some y := hf 2 _ rfl; rw [show Tryz.prog.cellsOf 3 = 1 from by kernel_rfl] at h2; have a2 := at_int Tryz.underlying3 h2; have h3 : ∃ y, DataW.trod enc Tryz.prog w base spare held n 9 ((cs.drop 3).take (Tryz.prog.cellsOf 9)) = some y := hf 3 _ rfl; rw [show Tryz.prog.cellsOf 9 = 1 from by kernel_rfl] at h3; have a3 := at_str Tryz.underlying9 h3; have h4 : ∃ y, DataW.trod enc Tryz.prog w base spare held n 36 ((cs.drop 4).take (Tryz.prog.cellsOf 36)) = some y := hf 4 _ rfl; rw [show Tryz.prog.cellsOf 36 = 1 from by kernel_rfl] at h4; have a4 := at_rows (Q := okRole0) Tryz.underlying36 (by kernel_rfl) opens_role h4; have h5 : ∃ y, DataW.trod enc Tryz.prog w base spare held n 3 ((cs.drop 5).take (Tryz.prog.cellsOf 3)) = some y := hf 5 _ rfl; rw [show Tryz.prog.cellsOf 3 = 1 from by kernel_rfl] at h5
  have a5 := at_int Tryz.underlying3 h5; have h6 : ∃ y, DataW.trod enc Tryz.prog w base spare held n 37 ((cs.drop 6).take (Tryz.prog.cellsOf 37)) = some y := hf 6 _ rfl; rw [show Tryz.prog.cellsOf 37 = 1 from by kernel_rfl] at h6; have a6 := at_rows (Q := okID) Tryz.underlying37 (by kernel_rfl) opens_ID h6; have h7 : ∃ y, DataW.trod enc Tryz.prog w base spare held n 38 ((cs.drop 7).take (Tryz.prog.cellsOf 38)) = some y := hf 7 _ rfl; rw [show Tryz.prog.cellsOf 38 = 1 from by kernel_rfl] at h7; have a7 := at_rows (Q := okCaveat) Tryz.underlying38 (by kernel_rfl) opens_Caveat h7; have h8 : ∃ y, DataW.trod enc Tryz.prog w base spare held n 39 ((cs.drop 8).take (Tryz.prog.cellsOf 39)) = some y := hf 8 _ rfl; rw [show Tryz.prog.cellsOf 39 = 1 from by kernel_rfl] at h8; have a8 := at_rows Tryz.underlying39 (by kernel_rfl) (opens_u8 Tryz.underlying5) h8; refine At.imp (At.iso (fun p => ⟨p.1, p.2.1, p.2.2.1, p.2.2.2.1, p.2.2.2.2.1, p.2.2.2.2.2.1, p.2.2.2.2.2.2.1, p.2.2.2.2.2.2.2.1, p.2.2.2.2.2.2.2.2⟩) (fun _ => rfl) (At.pairAt (o := 0) (s := 1) a0 (At.pairAt (o := 1) (s := 1) a1 (At.pairAt (o := 2) (s := 1) a2 (At.pairAt (o := 3) (s := 1) a3 (At.pairAt (o := 4) (s := 1) a4 (At.pairAt (o := 5) (s := 1) a5 (At.pairAt (o := 6) (s := 1) a6 (At.pairAt (o := 7) (s := 1) a7 (At.last (o := 8) (s := 1) a8 hl)))))))))) (fun x h => h.2.2.2.2.2.2.1)
theorem opens_Call : Opens Tryz.prog 43 k43 okCall := by
  intro H enc w base spare held fuel cs x h; obtain ⟨hl, n, hf⟩ := field_at Tryz.underlying43 h; rw [show Tryz.prog.cellsOf 43 = 24 from by kernel_rfl] at hl; have h0 : ∃ y, DataW.trod enc Tryz.prog w base spare held n 3 ((cs.drop 0).take (Tryz.prog.cellsOf 3)) = some y := hf 0 _ rfl; rw [show Tryz.prog.cellsOf 3 = 1 from by kernel_rfl] at h0; have a0 := at_int Tryz.underlying3 h0; have h1 : ∃ y, DataW.trod enc Tryz.prog w base spare held n 35 ((cs.drop 1).take (Tryz.prog.cellsOf 35)) = some y := hf 1 _ rfl; rw [show Tryz.prog.cellsOf 35 = 9 from by kernel_rfl] at h1
  have a1 := (show At w k35 okCred _ from by obtain ⟨y, hy⟩ := h1; exact opens_cred _ _ _ _ _ _ _ _ _ hy)
  have h2 : ∃ y, DataW.trod enc Tryz.prog w base spare held n 3 ((cs.drop 10).take (Tryz.prog.cellsOf 3)) = some y := hf 2 _ rfl; rw [show Tryz.prog.cellsOf 3 = 1 from by kernel_rfl] at h2; have a2 := at_int Tryz.underlying3 h2; have h3 : ∃ y, DataW.trod enc Tryz.prog w base spare held n 9 ((cs.drop 11).take (Tryz.prog.cellsOf 9)) = some y := hf 3 _ rfl; rw [show Tryz.prog.cellsOf 9 = 1 from by kernel_rfl] at h3; have a3 := at_str Tryz.underlying9 h3; have h4 : ∃ y, DataW.trod enc Tryz.prog w base spare held n 36 ((cs.drop 12).take (Tryz.prog.cellsOf 36)) = some y := hf 4 _ rfl; rw [show Tryz.prog.cellsOf 36 = 1 from by kernel_rfl] at h4; have a4 := at_rows (Q := okRole0) Tryz.underlying36 (by kernel_rfl) opens_role h4; have h5 : ∃ y, DataW.trod enc Tryz.prog w base spare held n 9 ((cs.drop 13).take (Tryz.prog.cellsOf 9)) = some y := hf 5 _ rfl; rw [show Tryz.prog.cellsOf 9 = 1 from by kernel_rfl] at h5; have a5 := at_str Tryz.underlying9 h5; have h6 : ∃ y, DataW.trod enc Tryz.prog w base spare held n 41 ((cs.drop 14).take (Tryz.prog.cellsOf 41)) = some y := hf 6 _ rfl; rw [show Tryz.prog.cellsOf 41 = 9 from by kernel_rfl] at h6
  have a6 := (show At w k41 okToken _ from by obtain ⟨y, hy⟩ := h6; exact opens_Token _ _ _ _ _ _ _ _ _ hy)
  have h7 : ∃ y, DataW.trod enc Tryz.prog w base spare held n 3 ((cs.drop 23).take (Tryz.prog.cellsOf 3)) = some y := hf 7 _ rfl; rw [show Tryz.prog.cellsOf 3 = 1 from by kernel_rfl] at h7; have a7 := at_int Tryz.underlying3 h7; refine At.imp (At.iso (fun p => ⟨p.1, p.2.1, p.2.2.1, p.2.2.2.1, p.2.2.2.2.1, p.2.2.2.2.2.1, p.2.2.2.2.2.2.1, p.2.2.2.2.2.2.2⟩) (fun _ => rfl) (At.pairAt (o := 0) (s := 1) a0 (At.pairAt (o := 1) (s := 9) a1 (At.pairAt (o := 10) (s := 1) a2 (At.pairAt (o := 11) (s := 1) a3 (At.pairAt (o := 12) (s := 1) a4 (At.pairAt (o := 13) (s := 1) a5 (At.pairAt (o := 14) (s := 9) a6 (At.last (o := 23) (s := 1) a7 hl))))))))) (fun x h => ⟨h.2.1, h.2.2.1, h.2.2.2.2.2.2.1⟩)
theorem opens_Reply : Opens Tryz.prog 45 k45 okReply := by
  intro H enc w base spare held fuel cs x h; obtain ⟨hl, n, hf⟩ := field_at Tryz.underlying45 h; rw [show Tryz.prog.cellsOf 45 = 11 from by kernel_rfl] at hl; have h0 : ∃ y, DataW.trod enc Tryz.prog w base spare held n 24 ((cs.drop 0).take (Tryz.prog.cellsOf 24)) = some y := hf 0 _ rfl; rw [show Tryz.prog.cellsOf 24 = 1 from by kernel_rfl] at h0; have a0 := at_int Tryz.underlying24 h0; have h1 : ∃ y, DataW.trod enc Tryz.prog w base spare held n 3 ((cs.drop 1).take (Tryz.prog.cellsOf 3)) = some y := hf 1 _ rfl; rw [show Tryz.prog.cellsOf 3 = 1 from by kernel_rfl] at h1; have a1 := at_int Tryz.underlying3 h1; have h2 : ∃ y, DataW.trod enc Tryz.prog w base spare held n 41 ((cs.drop 2).take (Tryz.prog.cellsOf 41)) = some y := hf 2 _ rfl; rw [show Tryz.prog.cellsOf 41 = 9 from by kernel_rfl] at h2
  have a2 := (show At w k41 okToken _ from by obtain ⟨y, hy⟩ := h2; exact opens_Token _ _ _ _ _ _ _ _ _ hy)
  refine At.imp (At.iso (fun p => ⟨p.1, p.2.1, p.2.2⟩) (fun _ => rfl) (At.pairAt (o := 0) (s := 1) a0 (At.pairAt (o := 1) (s := 1) a1 (At.last (o := 2) (s := 9) a2 hl)))) (fun x h => ⟨h.2.1, h.2.2⟩)
theorem opens_Event : Opens Tryz.prog 47 k47 okEvent := by
  intro H enc w base spare held fuel cs x h; obtain ⟨hl, n, hf⟩ := field_at Tryz.underlying47 h; rw [show Tryz.prog.cellsOf 47 = 37 from by kernel_rfl] at hl; have h0 : ∃ y, DataW.trod enc Tryz.prog w base spare held n 3 ((cs.drop 0).take (Tryz.prog.cellsOf 3)) = some y := hf 0 _ rfl; rw [show Tryz.prog.cellsOf 3 = 1 from by kernel_rfl] at h0; have a0 := at_int Tryz.underlying3 h0; have h1 : ∃ y, DataW.trod enc Tryz.prog w base spare held n 3 ((cs.drop 1).take (Tryz.prog.cellsOf 3)) = some y := hf 1 _ rfl; rw [show Tryz.prog.cellsOf 3 = 1 from by kernel_rfl] at h1; have a1 := at_int Tryz.underlying3 h1; have h2 : ∃ y, DataW.trod enc Tryz.prog w base spare held n 43 ((cs.drop 2).take (Tryz.prog.cellsOf 43)) = some y := hf 2 _ rfl; rw [show Tryz.prog.cellsOf 43 = 24 from by kernel_rfl] at h2
  have a2 := (show At w k43 okCall _ from by obtain ⟨y, hy⟩ := h2; exact opens_Call _ _ _ _ _ _ _ _ _ hy)
  have h3 : ∃ y, DataW.trod enc Tryz.prog w base spare held n 45 ((cs.drop 26).take (Tryz.prog.cellsOf 45)) = some y := hf 3 _ rfl; rw [show Tryz.prog.cellsOf 45 = 11 from by kernel_rfl] at h3
  have a3 := (show At w k45 okReply _ from by obtain ⟨y, hy⟩ := h3; exact opens_Reply _ _ _ _ _ _ _ _ _ hy)
  refine At.imp (At.iso (fun p => ⟨p.1, p.2.1, p.2.2.1, p.2.2.2⟩) (fun _ => rfl) (At.pairAt (o := 0) (s := 1) a0 (At.pairAt (o := 1) (s := 1) a1 (At.pairAt (o := 2) (s := 24) a2 (At.last (o := 26) (s := 11) a3 hl))))) (fun x h => ⟨h.1, h.2.1, h.2.2.1, h.2.2.2⟩)
end
abbrev Cav := S64
def fewC (c : Cav) : Cav := { c with f1 := c.f1.take 6 }
def fewT (t : Tok) : Tok := { t with f4 := t.f4.take 6, f6 := t.f6.take 70, f7 := (t.f7.take 8).map fewC, f8 := t.f8.take 40 }
abbrev tokN (t : Tok) (A4 : Option Addr) (n4 c4 : Nat) (A6 : Option Addr) (n6 c6 : Nat) (v7 : Value) (A8 : Option Addr) (n8 c8 : Nat) : Array Value := #[.int .i64 t.f0, .int .i64 t.f1, .int .i64 t.f2, .string t.f3, .slice A4 n4 c4, .int .i64 t.f5, .slice A6 n6 c6, v7, .slice A8 n8 c8]
abbrev zTokV : Array Value := #[.int .i64 0, .int .i64 0, .int .i64 0, .string ⟨#[]⟩, .slice none 0 0, .int .i64 0, .slice none 0 0, .slice none 0 0, .slice none 0 0]
theorem take_min {α : Type} (l : List α) (k : Nat) : (l.take k).length = if k < l.length then k else l.length := by
  rw [List.length_take]
  split <;> omega
theorem F_takeMin {α : Type} {d : Kd α} {W : World} {ok : Nat → Prop} {A : Option Addr} {l : List α} (h : Kd.F d W ok A l.length l) (k : Nat) : Kd.F d W ok A (l.take k).length (l.take k) := by
  by_cases hk : k ≤ l.length
  · exact Kd.F_take h hk
  · rw [List.take_of_length_le (by omega)]
    exact h
theorem Qbp {w : World} {b : Nat} {E : Array Value} {ty : TypeId} (h : w.heap[b]? = some (.cells E ty (0, 0))) (i : Nat) {v : Value} (hv : E[i]? = some v) : w.cell? ⟨b, i, none⟩ = some v := (Qak h i).trans hv
theorem range0 {w : World} {b : Nat} {C : Array Value} {t : TypeId} {fr : Nat × Nat} (hb : w.heap[b]? = some (.cells C t fr)) : ∀ j v, C[j]? = some v → w.cell? ((⟨b, 0, none⟩ : Addr).add j) = some v := Qbn hb
theorem raw_F {α : Type} {d : Kd α} {n e base m c : Nat} {w : World} {ok : Nat → Prop} {A : Option Addr} {Cs : List (Array Value)} {xs : List α} (hR : Kd.R (kRaw n) e w base (fun k => base ≤ k) (.slice A m c) Cs) (hd : d.sz = n) (hl : Cs.length = xs.length) (hk : ∀ (i : Nat) (x : α) (C : Array Value), xs[i]? = some x → Cs[i]? = some C → Kd.FK d w ok x C.toList) : Kd.F d w (fun k => ok k ∨ base ≤ k) A xs.length xs := fun W' hW => by
  have hF := Kd.F_mono (ok' := fun k => ok k ∨ base ≤ k) (Kd.R_F hR) (fun _ h => .inr h); obtain ⟨h1, h2, h3⟩ := hF W' hW; refine ⟨rfl, by rw [← hl, h1]; exact h2, fun hn => ?_⟩; obtain ⟨a, ea, hc⟩ := h3 (by omega); refine ⟨a, ea, fun j p hj => ?_⟩
  have hj' : j < Cs.length := by rw [hl]; exact (List.getElem?_eq_some_iff.mp hj).1
  obtain ⟨cs, hcl, ⟨hce, -, -⟩, hcc⟩ := hc j _ (List.getElem?_eq_getElem hj'); subst hce; have := hk j p _ hj (List.getElem?_eq_getElem hj') W' (fun k h h' => hW k (.inl h) h'); exact ⟨_, by rw [hd]; exact hcl, this, by rw [hd]; exact hcc⟩
theorem below_setRowW {B g : Nat} {w0 w : World} (hb : Below B w0 w) (hBg : B ≤ g) (cs : Array Value) : Below B w0 (w.setRow g cs) :=
  ⟨hb.os, hb.tape, hb.output, by rw [size_setRow]; exact hb.size, fun k hk => (setRow_other w g k cs (by omega)).trans (hb.block k hk)⟩
theorem infoCav : (Tryz.prog.info? 64).map (fun i => (i.zero, i.size, i.bytes)) = some (some (.agg #[.int .i64 0, .slice none 0 0, .int .i64 0, .string ⟨#[]⟩]), 4, 56) := by kernel_rfl
set_option maxRecDepth 100000 in
set_option maxHeartbeats 8000000 in
theorem fewTok_calls (w : World) (ok : Nat → Prop) (t : Tok) (T : Array Value) (h : Kd.FK kTok w ok t T.toList) :
    Calls Tryz.prog 10 #[.agg T] w fun e w' => ∃ T', e = .returned (.agg T') ∧ Kd.FK kTok w' (fun k => ok k ∨ w.heap.size ≤ k) (fewT t) T'.toList ∧ Below w.heap.size w w' := by
  obtain ⟨A4, c4, A6, c6, A7, c7, A8, c8, he, l4, g4, l6, g6, l7, g7, l8, g8⟩ := k41_openF h
  obtain rfl : T = tokV t A4 c4 A6 c6 A7 c7 A8 c8 := by rw [← Array.toArray_toList (xs := T), he]
  clear h he
  obtain ⟨n4, h4⟩ : ∃ n, n = (t.f4.take 6).length := ⟨_, rfl⟩
  obtain ⟨n6, h6⟩ : ∃ n, n = (t.f6.take 70).length := ⟨_, rfl⟩
  obtain ⟨n8, h8⟩ : ∃ n, n = (t.f8.take 40).length := ⟨_, rfl⟩
  have H4 := Lib.hid (h4.trans (take_min _ _)); have H6 := Lib.hid (h6.trans (take_min _ _)); have H8 := Lib.hid (h8.trans (take_min _ _)); have HH4 := Lib.hid h4; have HH6 := Lib.hid h6; have HH8 := Lib.hid h8; have G4 := Lib.hid (And.intro l4 g4); have G6 := Lib.hid (And.intro l6 g6); have G7 := Lib.hid (And.intro l7 g7); have G8 := Lib.hid (And.intro l8 g8); clear h4 h6 h8 l4 g4 l6 g6 l7 g7 l8 g8; go_enter Tryz.func10, Tryz.ntmps10
  go_upto_if 9 with fail
  go_cut [] from 6 to 13 (fun wc => wc = (w.alloc (.cells (tokN t A4 n4 c4 A6 t.f6.length c6 (.slice A7 t.f7.length c7) A8 t.f8.length c8) 41)).alloc (.cells zTokV 41))
  case first =>
    by_cases h : 6 < t.f4.length
    · have q1 : 6 ≤ c4 := by have := G4.out.1; omega
      have q2 : (6 : Int) ≤ (c4 : Int) := by omega
      have d1 : decide ((6 : Int) < (t.f4.length : Int)) = true := decide_eq_true (by omega); have d2 : decide (6 < t.f4.length) = true := decide_eq_true h; obtain rfl : n4 = 6 := H4.out.trans (if_pos h); clear h; simp only [d1]
      go_wp2_with fail
      go_meet
      case rel => rfl
    · have d1 : decide ((6 : Int) < (t.f4.length : Int)) = false := decide_eq_false (by omega)
      have d2 : decide (6 < t.f4.length) = false := decide_eq_false h; obtain rfl : n4 = t.f4.length := H4.out.trans (if_neg h); clear h; simp only [d1]
      go_wp2_with fail
      go_meet
      case rel => rfl
  case rest =>
  obtain rfl := hcut
  go_upto_if 17 with fail
  go_cut [] from 14 to 21 (fun wc => wc = (w.alloc (.cells (tokN t A4 n4 c4 A6 n6 c6 (.slice A7 t.f7.length c7) A8 t.f8.length c8) 41)).alloc (.cells zTokV 41))
  case first =>
    by_cases h : 70 < t.f6.length
    · have q1 : 70 ≤ c6 := by have := G6.out.1; omega
      have q2 : (70 : Int) ≤ (c6 : Int) := by omega
      have d1 : decide ((70 : Int) < (t.f6.length : Int)) = true := decide_eq_true (by omega); have d2 : decide (70 < t.f6.length) = true := decide_eq_true h; obtain rfl : n6 = 70 := H6.out.trans (if_pos h); clear h; simp only [d1]
      go_wp2_with fail
      go_meet
      case rel => rfl
    · have d1 : decide ((70 : Int) < (t.f6.length : Int)) = false := decide_eq_false (by omega)
      have d2 : decide (70 < t.f6.length) = false := decide_eq_false h; obtain rfl : n6 = t.f6.length := H6.out.trans (if_neg h); clear h; simp only [d1]
      go_wp2_with fail
      go_meet
      case rel => rfl
  case rest =>
  obtain rfl := hcut
  go_wp2_with fail
  generalize hW : (w.alloc (.cells (tokN t A4 n4 c4 A6 n6 c6 (.slice A7 t.f7.length c7) A8 t.f8.length c8) 41)).alloc (.cells zTokV 41) = W
  have z1 : W.heap[w.heap.size]? = some (.cells (tokN t A4 n4 c4 A6 n6 c6 (.slice A7 t.f7.length c7) A8 t.f8.length c8) 41 (0, 0)) := by rw [← hW]; exact Qam (Qa1 w _) _
  have z2 : W.heap[w.heap.size + 1]? = some (.cells zTokV 41 (0, 0)) := by
    rw [← hW]; have := Qa1 (w.alloc (.cells (tokN t A4 n4 c4 A6 n6 c6 (.slice A7 t.f7.length c7) A8 t.f8.length c8) 41)) (.cells zTokV 41); rw [show (w.alloc (.cells (tokN t A4 n4 c4 A6 n6 c6 (.slice A7 t.f7.length c7) A8 t.f8.length c8) 41)).heap.size = w.heap.size + 1 from Array.size_push _] at this; exact this
  have HBW := Lib.hid (show Below w.heap.size w W by rw [← hW]; exact Qai (Qai (Below.refl _ _) _) _); have HZ1 := Lib.hid z1; have HZ2 := Lib.hid z2; clear hW z1 z2
  go_loopg [3, 4] (8 + 1) (fun kq v3 v4 w' => ∃ (i : Nat) (Cs : List (Array Value)), v4 = .int .i64 i ∧ Hid (kq = 8 + 1 - i) ∧ Hid (i ≤ 8 ∧ i ≤ t.f7.length) ∧ Hid (Kd.R (kRaw 4) 64 w' W.heap.size (fun _ => True) v3 Cs) ∧ Hid (Cs.length = i) ∧ Hid (∀ (j : Nat) (c : Cav) (C : Array Value), (t.f7.take i)[j]? = some c → Cs[j]? = some C → Kd.FK k64 w ok (fewC c) C.toList) ∧ Hid (Below W.heap.size W w'))
  case atStart => exact ⟨0, [], rfl, Lib.hid rfl, Lib.hid ⟨Nat.zero_le _, Nat.zero_le _⟩, Lib.hid (Kd.R_nil _ _ _ _ _), Lib.hid rfl, Lib.hid (fun j c C h => by simp at h), Lib.hid (Below.refl _ _)⟩
  case round =>
    obtain ⟨i, Cs, rfl, HKq, HI, HR, HCl, HFa, HB⟩ := hrel; have B1 := Qad HZ1.out HB.out; have s7 := Qbp B1 7 (v := .slice A7 t.f7.length c7) rfl; have hm := (Kd.F_now G7.out.2).2.1
    by_cases hi : i < t.f7.length ∧ i < 8
    · have d1 : decide ((i : Int) < (t.f7.length : Int)) = true := decide_eq_true (by omega)
      have d2 : decide (i < t.f7.length) = true := decide_eq_true hi.1; have d3 : decide ((i : Int) < 8) = true := decide_eq_true (by omega); have d4 : decide (i < 8) = true := decide_eq_true hi.2
      have wrapI : wrap64 ((i : Int) + 1) = ((i + 1 : Nat) : Int) := by unfold wrap64; omega
      obtain ⟨ad, cs, rfl, -, hK, hcell, -⟩ := Kd.F_get G7.out.2 z64 (i : Int) (by omega) (by omega)
      have hx : t.f7.getD (i : Int).toNat z64 = t.f7[i]'hi.1 := by
        rw [show (i : Int).toNat = i from rfl]; simp [List.getD, List.getElem?_eq_getElem hi.1]
      obtain ⟨x, hxe⟩ : ∃ x, x = t.f7.getD (i : Int).toNat z64 := ⟨_, rfl⟩
      rw [← hxe] at hK
      have htk : t.f7.take (i + 1) = t.f7.take i ++ [x] := by rw [hxe, hx, List.take_add_one, List.getElem?_eq_getElem hi.1]; rfl
      obtain ⟨A1, c1, rfl, l1, g1⟩ := k64_openF hK; have HW := Lib.hid (Qac HBW.out HB.out); have r0 : wr.cell? (ad.add (i * 4)) = some (.int .i64 x.f0) := Qa0 HW.out (hcell 0 _ rfl)
      have r1 : wr.cell? ⟨(ad.add (i * 4)).block, (ad.add (i * 4)).off + 1, none⟩ = some (.slice A1 x.f1.length c1) := by rw [← Qbj _ _ 1 (by omega)]; exact Qa0 HW.out (hcell 1 _ rfl)
      have r2 : wr.cell? ⟨(ad.add (i * 4)).block, (ad.add (i * 4)).off + 2, none⟩ = some (.int .i64 x.f2) := by rw [← Qbj _ _ 2 (by omega)]; exact Qa0 HW.out (hcell 2 _ rfl)
      have r3 : wr.cell? ⟨(ad.add (i * 4)).block, (ad.add (i * 4)).off + 3, none⟩ = some (.string x.f3) := by rw [← Qbj _ _ 3 (by omega)]; exact Qa0 HW.out (hcell 3 _ rfl)
      have q1 : (0 : Int) ≤ (i : Int) := by omega
      have q2 : (i : Int) < (t.f7.length : Int) := by omega
      have HI2 := Lib.hid hi
      obtain ⟨n1, hn1⟩ : ∃ n, n = (x.f1.take 6).length := ⟨_, rfl⟩
      have hnew : ∀ (j : Nat) (c : Cav) (C : Array Value), (t.f7.take (i + 1))[j]? = some c → (Cs ++ [#[.int .i64 x.f0, .slice A1 n1 c1, .int .i64 x.f2, .string x.f3]])[j]? = some C → Kd.FK k64 w ok (fewC c) C.toList := fun j c C h1 h2 => by
        rw [htk] at h1
        have htl : (t.f7.take i).length = i := by rw [List.length_take]; omega
        by_cases hj : j < i
        · rw [List.getElem?_append_left (by omega)] at h1
          rw [List.getElem?_append_left (by rw [HCl.out]; exact hj)] at h2; exact HFa.out j c C h1 h2
        · rw [List.getElem?_append_right (by omega)] at h1
          rw [List.getElem?_append_right (by rw [HCl.out]; omega), HCl.out] at h2; rw [htl] at h1
          cases hz : j - i with
          | zero =>
            rw [hz] at h1 h2; obtain rfl := Option.some.inj h1; obtain rfl := Option.some.inj h2; rw [hn1]; exact k64_mkF w ok (fewC x) (Nat.le_trans (by show (x.f1.take 6).length ≤ _; rw [List.length_take]; omega) l1) (F_takeMin g1 6)
          | succ j =>
            rw [hz] at h1; simp at h1
      have HNew := Lib.hid hnew; have hn := hn1.trans (take_min _ _); clear hnew hn1 hi hx hxe htk hK hcell g1
      by_cases h6 : 6 < x.f1.length
      · have e1 : decide ((6 : Int) < (x.f1.length : Int)) = true := decide_eq_true (by omega)
        have e2 : decide (6 < x.f1.length) = true := decide_eq_true h6
        have e3 : 6 ≤ c1 := by omega
        have e4 : (6 : Int) ≤ (c1 : Int) := by omega
        obtain rfl : n1 = 6 := hn.trans (if_pos h6); clear h6 hn
        go_wp2_with ((with_reducible refine QaY (b := .append) (xs := #[.tmp 46, .tmp 48]) rfl ?_); at_builtin; refine Kd.QbG (kRaw 4) (w0 := W) W.heap.size rfl (.tmp 46) (.tmp 48) 38 64 (.agg #[.int .i64 0, .slice none 0 0, .int .i64 0, .string ⟨#[]⟩]) 56 rfl Tryz.underlying38 infoCav rfl (by decide) (by omega) _ Cs #[.int .i64 x.f0, .slice A1 6 c1, .int .i64 x.f2, .string x.f3] [.int .i64 x.f0, .slice A1 6 c1, .int .i64 x.f2, .string x.f3] (fun _ => True) (fun _ => False) rfl (by first | rfl | exact congrArg (fun n => Value.slice (some ⟨n, 0, none⟩) 1 1) (Array.size_push _).symm) ?aP (fun _ hk => hk.elim) (fun _ _ => trivial) ?aO ?aB ?aS ?aL ?_; (case aP => exact ⟨rfl, rfl, by simp [Value.oneCell']⟩); (case aB => exact Qai HB.out _); (case aO => exact Kd.QaN HR.out _); (case aS => exact QaI (Qai HB.out _)); (case aL => have := HCl.out; have := HI.out; omega); intro v2 w2 ho hb hg hat; have HO := Lib.hid ho; have HBo := Lib.hid hb; clear ho hb hg hat)
        go_roundg (8 + 1 - (i + 1))
        case measure => have := HKq.out; have := HI2.out; omega
        case rel => exact ⟨i + 1, Cs ++ [#[.int .i64 x.f0, .slice A1 6 c1, .int .i64 x.f2, .string x.f3]], by first | rfl | exact congrArg _ wrapI, Lib.hid rfl, Lib.hid (by have := HI2.out; omega), HO, Lib.hid (by rw [List.length_append, HCl.out]; rfl), HNew, HBo⟩
      · have e1 : decide ((6 : Int) < (x.f1.length : Int)) = false := decide_eq_false (by omega)
        have e2 : decide (6 < x.f1.length) = false := decide_eq_false h6; obtain rfl : n1 = x.f1.length := hn.trans (if_neg h6); clear h6 hn
        go_wp2_with ((with_reducible refine QaY (b := .append) (xs := #[.tmp 46, .tmp 48]) rfl ?_); at_builtin; refine Kd.QbG (kRaw 4) (w0 := W) W.heap.size rfl (.tmp 46) (.tmp 48) 38 64 (.agg #[.int .i64 0, .slice none 0 0, .int .i64 0, .string ⟨#[]⟩]) 56 rfl Tryz.underlying38 infoCav rfl (by decide) (by omega) _ Cs #[.int .i64 x.f0, .slice A1 x.f1.length c1, .int .i64 x.f2, .string x.f3] [.int .i64 x.f0, .slice A1 x.f1.length c1, .int .i64 x.f2, .string x.f3] (fun _ => True) (fun _ => False) rfl (by first | rfl | exact congrArg (fun n => Value.slice (some ⟨n, 0, none⟩) 1 1) (Array.size_push _).symm) ?aP (fun _ hk => hk.elim) (fun _ _ => trivial) ?aO ?aB ?aS ?aL ?_; (case aP => exact ⟨rfl, rfl, by simp [Value.oneCell']⟩); (case aB => exact Qai HB.out _); (case aO => exact Kd.QaN HR.out _); (case aS => exact QaI (Qai HB.out _)); (case aL => have := HCl.out; have := HI.out; omega); intro v2 w2 ho hb hg hat; have HO := Lib.hid ho; have HBo := Lib.hid hb; clear ho hb hg hat)
        go_roundg (8 + 1 - (i + 1))
        case measure => have := HKq.out; have := HI2.out; omega
        case rel => exact ⟨i + 1, Cs ++ [#[.int .i64 x.f0, .slice A1 x.f1.length c1, .int .i64 x.f2, .string x.f3]], by first | rfl | exact congrArg _ wrapI, Lib.hid rfl, Lib.hid (by have := HI2.out; omega), HO, Lib.hid (by rw [List.length_append, HCl.out]; rfl), HNew, HBo⟩
    · have hcase : (decide (i < t.f7.length) = false) ∨ (decide (i < t.f7.length) = true ∧ decide (i < 8) = false) := by
        by_cases h1 : i < t.f7.length
        · exact .inr ⟨decide_eq_true h1, decide_eq_false (fun h2 => hi ⟨h1, h2⟩)⟩
        · exact .inl (decide_eq_false h1)
      have hi8 : i = ((t.f7.take 8).map fewC).length := by
        rw [List.length_map, take_min]; have := HI.out
        split <;> omega
      have hlf : ∀ (j : Nat) (c : Cav) (C : Array Value), ((t.f7.take 8).map fewC)[j]? = some c → Cs[j]? = some C → Kd.FK k64 w ok c C.toList := fun j c C h1 h2 => by
        rw [List.getElem?_map] at h1; obtain ⟨x, hx, rfl⟩ := Option.map_eq_some_iff.mp h1; refine HFa.out j x C ?_ h2; have hj : j < Cs.length := (List.getElem?_eq_some_iff.mp h2).1; rw [HCl.out] at hj; rw [List.getElem?_take] at hx ⊢; rw [if_pos hj]
        split at hx
        · exact hx
        · cases hx
      have HI8 := Lib.hid hi8; have HLf := Lib.hid hlf; obtain ⟨A9, c9, e9, hc9, -⟩ := Kd.R_reads HR.out; rw [HCl.out] at e9 hc9; subst e9; have HC9 := Lib.hid hc9; have sf := QaP B1 7; have B2 := Qad HZ2.out HB.out; have HB1 := Lib.hid B1; have HB2 := Lib.hid B2; clear hi hi8 hlf hc9 B1 B2 hm
      rcases hcase with d2 | ⟨d2, d4⟩
      rotate_left; have d1 : decide ((i : Int) < (t.f7.length : Int)) = true := decide_eq_true (by have := of_decide_eq_true d2; omega); have d3 : decide ((i : Int) < 8) = false := decide_eq_false (by have := of_decide_eq_false d4; omega); rotate_left; have d1 : decide ((i : Int) < (t.f7.length : Int)) = false := decide_eq_false (by have := of_decide_eq_false d2; omega)
      all_goals
        go_upto_region 14 with fail
        have hB3 := Qbl HB1.out 7 (.slice A9 i c9) (cs' := tokN t A4 n4 c4 A6 n6 c6 (.slice A9 i c9) A8 t.f8.length c8) rfl; have hB4 := (Below.heap_setCell wr ⟨w.heap.size, 7, none⟩ (.slice A9 i c9) (w.heap.size + 1) (by show w.heap.size + 1 ≠ w.heap.size; omega)).trans HB2.out; have hR3 := HR.out
        have hK3 : ∀ k, k ≠ w.heap.size → (wr.setCell ⟨w.heap.size, 7, none⟩ (.slice A9 i c9)).heap[k]? = wr.heap[k]? := fun k hk => Below.heap_setCell _ _ _ k hk
        have hW3 : Below w.heap.size w (wr.setCell ⟨w.heap.size, 7, none⟩ (.slice A9 i c9)) := (Qac HBW.out HB.out).setCell (p := ⟨w.heap.size, 7, none⟩) (Nat.le_refl _) _; have HB3 := Lib.hid hB3; have HB4 := Lib.hid hB4; have HK3 := Lib.hid hK3; have HW3 := Lib.hid hW3; clear hB3 hB4 hR3 hK3 hW3 s7 sf d1 d2
        generalize wr.setCell ⟨w.heap.size, 7, none⟩ (.slice A9 i c9) = W3 at HB3 HB4 HK3 HW3 ⊢
        have s8 := Qbp HB3.out 8 (v := .slice A8 t.f8.length c8) rfl; have sf := QaP HB3.out 8
        go_upto_if 55 with fail
        go_cut [] from 50 to 59 (fun wc => wc.heap[w.heap.size]? = some (.cells (tokN t A4 n4 c4 A6 n6 c6 (.slice A9 i c9) A8 n8 c8) 41 (0, 0)) ∧ wc.heap[w.heap.size + 1]? = some (.cells zTokV 41 (0, 0)) ∧ (∀ k, k ≠ w.heap.size → wc.heap[k]? = W3.heap[k]?) ∧ Below w.heap.size w wc)
        case first =>
          by_cases h : 40 < t.f8.length
          · have q1 : 40 ≤ c8 := by have := G8.out.1; omega
            have q2 : (40 : Int) ≤ (c8 : Int) := by omega
            have d1 : decide ((40 : Int) < (t.f8.length : Int)) = true := decide_eq_true (by omega); have d2 : decide (40 < t.f8.length) = true := decide_eq_true h; obtain rfl : n8 = 40 := H8.out.trans (if_pos h); clear h; simp only [d1]
            go_wp2_with fail
            go_meet
            case rel => exact ⟨Qbl HB3.out 8 _ rfl, (Below.heap_setCell _ _ _ _ (by show w.heap.size + 1 ≠ w.heap.size; omega)).trans HB4.out, fun k hk => Below.heap_setCell _ _ _ k hk, HW3.out.setCell (p := ⟨w.heap.size, 8, none⟩) (Nat.le_refl _) _⟩
          · have d1 : decide ((40 : Int) < (t.f8.length : Int)) = false := decide_eq_false (by omega)
            have d2 : decide (40 < t.f8.length) = false := decide_eq_false h; obtain rfl : n8 = t.f8.length := H8.out.trans (if_neg h); clear h; simp only [d1]
            go_wp2_with fail
            go_meet
            case rel => exact ⟨HB3.out, HB4.out, fun _ _ => rfl, HW3.out⟩
        case rest =>
        obtain ⟨E1, E2, E3, E4⟩ := hcut; have HE1 := Lib.hid E1; have HE2 := Lib.hid E2; have HE3 := Lib.hid E3; have HE4 := Lib.hid E4; clear E1 E2 E3 E4 s8 sf
        go_wp2_with (first | (refine QaF rfl 41 (.tmp 1) rfl _ rfl (tokN t A4 n4 c4 A6 n6 c6 (.slice A9 i c9) A8 n8 c8) _ (range0 HE1.out) Tryz.underlying41 rfl (by kernel_rfl) ?_) | (refine wpList_putRow rfl 41 (.tmp 2) (.tmp 60) rfl HE2.out rfl (tokN t A4 n4 c4 A6 n6 c6 (.slice A9 i c9) A8 n8 c8) rfl (by kernel_rfl) rfl (by simp [Value.oneCell']) ?_))
        have hR5 := setRow_heap wc (w.heap.size + 1) zTokV (tokN t A4 n4 c4 A6 n6 c6 (.slice A9 i c9) A8 n8 c8) 41 (0, 0) HE2.out; have hB5 : Below w.heap.size w (wc.setRow (w.heap.size + 1) (tokN t A4 n4 c4 A6 n6 c6 (.slice A9 i c9) A8 n8 c8)) := below_setRowW HE4.out (Nat.le_succ _) _
        have hk5 : ∀ k, k ≠ w.heap.size → k ≠ w.heap.size + 1 → (wc.setRow (w.heap.size + 1) (tokN t A4 n4 c4 A6 n6 c6 (.slice A9 i c9) A8 n8 c8)).heap[k]? = wr.heap[k]? := fun k h1 h2 => ((setRow_other wc _ k _ h2).trans (HE3.out k h1)).trans (HK3.out k h1)
        refine bodyPost_ret (results_cell_row rfl _ _ (w.heap.size + 1) 41 _ (0, 0) _ rfl hR5 Tryz.underlying41 rfl (by kernel_rfl)) rfl ?_
        have hW2 : W.heap.size ≥ w.heap.size + 2 := by have := Qbi HZ2.out; omega
        have hR6 : Kd.R (kRaw 4) 64 (wc.setRow (w.heap.size + 1) (tokN t A4 n4 c4 A6 n6 c6 (.slice A9 i c9) A8 n8 c8)) W.heap.size (fun k => W.heap.size ≤ k) (.slice A9 i c9) Cs := Kd.R_move (Kd.Qbf (Kd.R_bound HR.out) (fun k hk => hk.2.1)) (fun k hk => hk5 k (by omega) (by omega)); refine ⟨_, rfl, ?_, hB5⟩; have f7 := raw_F (d := k64) (ok := ok) hR6 rfl (by rw [HCl.out, HI8.out]) (fun j c C h1 h2 => Kd.FK_below (HLf.out j c C h1 h2) hB5); have hc9 := HC9.out; have hi9 := HI8.out; clear hR6 hR5 hk5
        generalize wc.setRow (w.heap.size + 1) (tokN t A4 n4 c4 A6 n6 c6 (.slice A9 i c9) A8 n8 c8) = W9 at hB5 f7 ⊢
        rw [hi9] at hc9
        have hlist : (tokN t A4 n4 c4 A6 n6 c6 (.slice A9 i c9) A8 n8 c8).toList = [.int .i64 (fewT t).f0, .int .i64 (fewT t).f1, .int .i64 (fewT t).f2, .string (fewT t).f3, .slice A4 (fewT t).f4.length c4, .int .i64 (fewT t).f5, .slice A6 (fewT t).f6.length c6, .slice A9 (fewT t).f7.length c9, .slice A8 (fewT t).f8.length c8] := by
          rw [HH4.out, HH6.out, HH8.out, hi9]; rfl
        have g4 : Kd.F k33 W9 (fun k => ok k ∨ w.heap.size ≤ k) A4 (fewT t).f4.length (fewT t).f4 := Kd.F_mono (ok' := fun k => ok k ∨ w.heap.size ≤ k) (Kd.F_below (F_takeMin G4.out.2 6) hB5) (fun k h => Or.inl h); have g6 : Kd.F k31 W9 (fun k => ok k ∨ w.heap.size ≤ k) A6 (fewT t).f6.length (fewT t).f6 := Kd.F_mono (ok' := fun k => ok k ∨ w.heap.size ≤ k) (Kd.F_below (F_takeMin G6.out.2 70) hB5) (fun k h => Or.inl h); have g8 : Kd.F (Kd.int .u8) W9 (fun k => ok k ∨ w.heap.size ≤ k) A8 (fewT t).f8.length (fewT t).f8 := Kd.F_mono (ok' := fun k => ok k ∨ w.heap.size ≤ k) (Kd.F_below (F_takeMin G8.out.2 40) hB5) (fun k h => Or.inl h); have g7 : Kd.F k64 W9 (fun k => ok k ∨ w.heap.size ≤ k) A9 (fewT t).f7.length (fewT t).f7 := Kd.F_mono (ok' := fun k => ok k ∨ w.heap.size ≤ k) f7 (fun k h => h.elim Or.inl (fun h => Or.inr (by omega))); have l4 : (fewT t).f4.length ≤ c4 := Nat.le_trans (by show (t.f4.take 6).length ≤ _; rw [List.length_take]; omega) G4.out.1; have l6 : (fewT t).f6.length ≤ c6 := Nat.le_trans (by show (t.f6.take 70).length ≤ _; rw [List.length_take]; omega) G6.out.1; have l8 : (fewT t).f8.length ≤ c8 := Nat.le_trans (by show (t.f8.take 40).length ≤ _; rw [List.length_take]; omega) G8.out.1; rw [hlist]; exact k41_mkF W9 _ (fewT t) l4 g4 l6 g6 hc9 g7 l8 g8
def few12 (t : Tok) : Tok := { t with f6 := t.f6.take 12 }
def fewE (x : Evt) : Evt := { x with f2 := { x.f2 with f4 := x.f2.f4.take 6, f6 := few12 (fewT x.f2.f6) }, f3 := { x.f3 with f2 := few12 (fewT x.f3.f2) } }
def few (l : List Evt) : List Evt := (l.take 30).map fewE
abbrev evN (x : Evt) (n14 n22 n34 : Nat) (A14 : Option Addr) (c14 : Nat) (A20 : Option Addr) (c20 : Nat) (A22 : Option Addr) (c22 : Nat) (A23 : Option Addr) (c23 : Nat) (A24 : Option Addr) (c24 : Nat) (A32 : Option Addr) (c32 : Nat) (A34 : Option Addr) (c34 : Nat) (A35 : Option Addr) (c35 : Nat) (A36 : Option Addr) (c36 : Nat) : Array Value := #[.int .i64 x.f0, .int .i64 x.f1, .int .i64 x.f2.f0, .int .i64 x.f2.f1.f0.f0, .int .i64 x.f2.f1.f0.f1, .string x.f2.f1.f1, .int .i64 x.f2.f1.f2, .string x.f2.f1.f3, .string x.f2.f1.f4.f0, .string x.f2.f1.f4.f1, .string x.f2.f1.f5.f0, .string x.f2.f1.f5.f1, .int .i64 x.f2.f2, .string x.f2.f3, .slice A14 n14 c14, .string x.f2.f5, .int .i64 x.f2.f6.f0, .int .i64 x.f2.f6.f1, .int .i64 x.f2.f6.f2, .string x.f2.f6.f3, .slice A20 x.f2.f6.f4.length c20, .int .i64 x.f2.f6.f5, .slice A22 n22 c22, .slice A23 x.f2.f6.f7.length c23, .slice A24 x.f2.f6.f8.length c24, .int .i64 x.f2.f7, .int .i64 x.f3.f0, .int .i64 x.f3.f1, .int .i64 x.f3.f2.f0, .int .i64 x.f3.f2.f1, .int .i64 x.f3.f2.f2, .string x.f3.f2.f3, .slice A32 x.f3.f2.f4.length c32, .int .i64 x.f3.f2.f5, .slice A34 n34 c34, .slice A35 x.f3.f2.f7.length c35, .slice A36 x.f3.f2.f8.length c36]
def seg (C : Array Value) (o : Nat) (T : Array Value) : Array Value := (C.toList.take o ++ T.toList ++ C.toList.drop (o + T.size)).toArray
section
variable {P : Program}
theorem run_storeVar_seg (w : World) (g o : Nat) (t ty : TypeId) (old T : Array Value) (hg : w.heap[g]? = some (.cells old t (0, 0))) (hi : (P.info? ty).map (·.size) = some T.size)
    (ho : o + T.size ≤ old.size) (h1 : T.all (·.oneCell') = true) :
    (storeVar ty ⟨g, o, none⟩ (.agg T)).run P w = .ok () (w.setRow g (seg old o T)) := by
  have := run_storeCells_at P g o t T.toList 0 old w hg (by simpa using ho) (fun v hv => (Array.all_eq_true_iff_forall_mem.1 h1) v (by simpa using hv))
  cases hq : P.info? ty with
  | none => simp [hq] at hi
  | some i =>
    have hs : T.size = i.size := by simp [hq] at hi; omega
    simpa [storeVar, sizeOf, typeInfo, hq, Value.cells, hs, seg] using this
theorem wpList_putSeg {op : Oper} {rest : List Oper} {ops : Array Oper} {a : Act} {w : World} {Q : Exit → Act → World → Prop} (hgd : op.guard = none) (ty : TypeId) (x y : Operand) (ho : op.op = .store ty x y) {b o : Nat} {C : Array Value} {t : TypeId} (hb : w.heap[b]? = some (.cells C t (0, 0))) (hx : a.eval x = .pointer (some ⟨b, o, none⟩)) (U : Array Value) (hy : a.eval y = .agg U)
    (hi : (P.info? ty).map (·.size) = some U.size) (hz : o + U.size ≤ C.size) (h1 : U.all (·.oneCell') = true) (C' : Array Value) (hC : seg C o U = C') (h : wpList P ops Q rest (a.put op.dst undef) (w.setRow b C')) : wpList P ops Q (op :: rest) a w :=
  wpList_plain hgd fun _ hK => by
    subst hC; unfold Oper.wp execOp; simp only [ho, hx, hy, Instr.storeAt, Instr.sureAddr, run_storeVar_seg w b o t ty C U hb hi hz h1, Sem.run_bind, Sem.run_pure, Result.andThen_ok]; exact hK _ _ h
end
theorem seg_range {w : World} {b : Nat} {C : Array Value} {t : TypeId} {fr : Nat × Nat} (hb : w.heap[b]? = some (.cells C t fr)) (o n : Nat) (T : Array Value) (hT : C.extract o (o + n) = T) : ∀ j v, T[j]? = some v → w.cell? ((⟨b, o, none⟩ : Addr).add j) = some v := by
  subst hT; exact range_block hb o n
theorem foot_after {P : World → Prop} {ok : Nat → Prop} {W W1 : World} {v v1 : Value} (h : Foot P W (fun k => ok k ∧ some k ≠ v.ownBlock)) (hg : W.grownBy W1 v.ownBlock) (hat : v1.ownBlock = v.ownBlock ∨ ∃ b, v1.ownBlock = some b ∧ W.heap.size ≤ b) : Foot P W1 (fun k => ok k ∧ some k ≠ v1.ownBlock) := by
  refine Foot.mono (Foot.step (Foot.bound h) (fun k hk hlt => hg.block k hlt hk.1.2)) (fun k hk => ⟨hk.1.1, ?_⟩)
  rcases hat with hat | ⟨b, hb, hle⟩
  · rw [hat]; exact hk.1.2
  · rw [hb]
    intro he
    injection he with he
    have := hk.2; omega
theorem hpEvt : Kd.Heap kEvt := by
  repeat (first | exact Kd.heap_int _ | exact Kd.heap_string | refine Kd.heap_pair ?_ ?_ | refine Kd.heap_slice _ ?_ | refine Kd.heap_iso _ ?_)
theorem infoEvt : (Tryz.prog.info? 47).map (fun i => (i.zero, i.size, i.bytes)) = some (some (.agg (evN z47 0 0 0 none 0 none 0 none 0 none 0 none 0 none 0 none 0 none 0 none 0)), 37, 520) := by kernel_rfl
abbrev zEvV : Array Value := evN z47 0 0 0 none 0 none 0 none 0 none 0 none 0 none 0 none 0 none 0 none 0
structure TFs (W : World) (ok : Nat → Prop) (t : Tok) (A4 : Option Addr) (c4 : Nat) (A6 : Option Addr) (c6 : Nat) (A7 : Option Addr) (c7 : Nat) (A8 : Option Addr) (c8 : Nat) : Prop where
  l4 : t.f4.length ≤ c4
  g4 : Kd.F k33 W ok A4 t.f4.length t.f4
  l6 : t.f6.length ≤ c6
  g6 : Kd.F k31 W ok A6 t.f6.length t.f6
  l7 : t.f7.length ≤ c7
  g7 : Kd.F k64 W ok A7 t.f7.length t.f7
  l8 : t.f8.length ≤ c8
  g8 : Kd.F (Kd.int .u8) W ok A8 t.f8.length t.f8
theorem TFs.fk {W : World} {ok : Nat → Prop} {t : Tok} {A4 : Option Addr} {c4 : Nat} {A6 : Option Addr} {c6 : Nat} {A7 : Option Addr} {c7 : Nat} {A8 : Option Addr} {c8 : Nat} (h : TFs W ok t A4 c4 A6 c6 A7 c7 A8 c8) : Kd.FK kTok W ok t (tokV t A4 c4 A6 c6 A7 c7 A8 c8).toList := k41_mkF W ok t h.l4 h.g4 h.l6 h.g6 h.l7 h.g7 h.l8 h.g8
theorem TFs.step {W W1 : World} {ok : Nat → Prop} {t : Tok} {A4 : Option Addr} {c4 : Nat} {A6 : Option Addr} {c6 : Nat} {A7 : Option Addr} {c7 : Nat} {A8 : Option Addr} {c8 : Nat} (h : TFs W ok t A4 c4 A6 c6 A7 c7 A8 c8) (hm : ∀ k, ok k → k < W.heap.size → W1.heap[k]? = W.heap[k]?) : TFs W1 ok t A4 c4 A6 c6 A7 c7 A8 c8 := ⟨h.l4, Kd.F_step h.g4 hm, h.l6, Kd.F_step h.g6 hm, h.l7, Kd.F_step h.g7 hm, h.l8, Kd.F_step h.g8 hm⟩
theorem TFs.mono {W : World} {ok ok' : Nat → Prop} {t : Tok} {A4 : Option Addr} {c4 : Nat} {A6 : Option Addr} {c6 : Nat} {A7 : Option Addr} {c7 : Nat} {A8 : Option Addr} {c8 : Nat} (h : TFs W ok t A4 c4 A6 c6 A7 c7 A8 c8) (hm : ∀ k, ok k → ok' k) : TFs W ok' t A4 c4 A6 c6 A7 c7 A8 c8 := ⟨h.l4, Kd.F_mono h.g4 hm, h.l6, Kd.F_mono h.g6 hm, h.l7, Kd.F_mono h.g7 hm, h.l8, Kd.F_mono h.g8 hm⟩
theorem TFs.open_ {W : World} {ok : Nat → Prop} {t : Tok} {T : Array Value} (h : Kd.FK kTok W ok t T.toList) : ∃ A4 c4 A6 c6 A7 c7 A8 c8, T = tokV t A4 c4 A6 c6 A7 c7 A8 c8 ∧ TFs W ok t A4 c4 A6 c6 A7 c7 A8 c8 := by
  obtain ⟨A4, c4, A6, c6, A7, c7, A8, c8, he, l4, g4, l6, g6, l7, g7, l8, g8⟩ := k41_openF h; exact ⟨A4, c4, A6, c6, A7, c7, A8, c8, by rw [← Array.toArray_toList (xs := T), he], l4, g4, l6, g6, l7, g7, l8, g8⟩
theorem TFs.cut {W : World} {ok : Nat → Prop} {t : Tok} {A4 : Option Addr} {c4 : Nat} {A6 : Option Addr} {c6 : Nat} {A7 : Option Addr} {c7 : Nat} {A8 : Option Addr} {c8 : Nat} (h : TFs W ok t A4 c4 A6 c6 A7 c7 A8 c8) : TFs W ok (few12 t) A4 c4 A6 c6 A7 c7 A8 c8 := ⟨h.l4, h.g4, Nat.le_trans (by show (t.f6.take 12).length ≤ _; rw [List.length_take]; omega) h.l6, F_takeMin h.g6 12, h.l7, h.g7, h.l8, h.g8⟩
structure RFs (W : World) (ok : Nat → Prop) (l : List S33) (A : Option Addr) (c : Nat) : Prop where
  l4 : l.length ≤ c
  g4 : Kd.F k33 W ok A l.length l
theorem RFs.step {W W1 : World} {ok : Nat → Prop} {l : List S33} {A : Option Addr} {c : Nat} (h : RFs W ok l A c) (hm : ∀ k, ok k → k < W.heap.size → W1.heap[k]? = W.heap[k]?) : RFs W1 ok l A c := ⟨h.l4, Kd.F_step h.g4 hm⟩
theorem RFs.cut {W : World} {ok : Nat → Prop} {l : List S33} {A : Option Addr} {c : Nat} (h : RFs W ok l A c) (n : Nat) : RFs W ok (l.take n) A c := ⟨Nat.le_trans (by rw [List.length_take]; omega) h.l4, F_takeMin h.g4 n⟩
abbrev ev3 (x : Evt) (t u : Tok) : Evt := { x with f2 := { x.f2 with f6 := t }, f3 := { x.f3 with f2 := u } }
theorem fewE_fk {W : World} {ok : Nat → Prop} {x : Evt} {A14 : Option Addr} {c14 : Nat} {A20 : Option Addr} {c20 : Nat} {A22 : Option Addr} {c22 : Nat} {A23 : Option Addr} {c23 : Nat} {A24 : Option Addr} {c24 : Nat} {A32 : Option Addr} {c32 : Nat} {A34 : Option Addr} {c34 : Nat} {A35 : Option Addr} {c35 : Nat} {A36 : Option Addr} {c36 : Nat} (hr : RFs W ok x.f2.f4 A14 c14) (ht : TFs W ok (fewT x.f2.f6) A20 c20 A22 c22 A23 c23 A24 c24) (hu : TFs W ok (fewT x.f3.f2) A32 c32 A34 c34 A35 c35 A36 c36) : Kd.FK kEvt W ok (fewE x) (evN (ev3 x (fewT x.f2.f6) (fewT x.f3.f2)) (x.f2.f4.take 6).length ((fewT x.f2.f6).f6.take 12).length ((fewT x.f3.f2).f6.take 12).length A14 c14 A20 c20 A22 c22 A23 c23 A24 c24 A32 c32 A34 c34 A35 c35 A36 c36).toList :=
  k47_mkF W ok (fewE x) (hr.cut 6).l4 (hr.cut 6).g4 ht.cut.l4 ht.cut.g4 ht.cut.l6 ht.cut.g6 ht.cut.l7 ht.cut.g7 ht.cut.l8 ht.cut.g8 hu.cut.l4 hu.cut.g4 hu.cut.l6 hu.cut.g6 hu.cut.l7 hu.cut.g7 hu.cut.l8 hu.cut.g8
set_option maxRecDepth 100000 in
set_option maxHeartbeats 8000000 in
theorem few_calls (w : World) (A : Option Addr) (c : Nat) (l : List Evt) (hc : l.length ≤ c) (h : Kd.C kEvt w A l.length l) :
    Calls Tryz.prog 5 #[.slice A l.length c] w fun e w' => ∃ A' c', e = .returned (.slice A' (few l).length c') ∧ (few l).length ≤ c' ∧ Kd.C kEvt w' A' (few l).length (few l) ∧ Below w.heap.size w w' := by
  have hmax := h.2.1; have HF := Lib.hid (Kd.C_F (d := kEvt) hpEvt h); have HC := Lib.hid hc; clear hc h; go_enter Tryz.func5, Tryz.ntmps5
  go_wp2_with fail
  go_loopg [3, 4] (30 + 1) (fun kq v3 v4 w' => ∃ (i : Nat) (Cs : List (Array Value)), v4 = .int .i64 i ∧ Hid (kq = 30 + 1 - i) ∧ Hid (i ≤ 30 ∧ i ≤ l.length) ∧ Hid (Kd.R (kRaw 37) 47 w' w.heap.size (fun _ => True) v3 Cs) ∧ Hid (Cs.length = i) ∧ Hid (∀ (j : Nat) (x : Evt) (C : Array Value), (l.take i)[j]? = some x → Cs[j]? = some C → Kd.FK kEvt w' (fun k => True ∧ some k ≠ v3.ownBlock) (fewE x) C.toList) ∧ Hid (Below w.heap.size w w'))
  case atStart => exact ⟨0, [], rfl, Lib.hid rfl, Lib.hid ⟨Nat.zero_le _, Nat.zero_le _⟩, Lib.hid (Kd.R_nil _ _ _ _ _), Lib.hid rfl, Lib.hid (fun j x C h => by simp at h), Lib.hid (Below.refl _ _)⟩
  case round =>
    obtain ⟨i, Cs, rfl, HKq, HI, HR, HCl, HFa, HB⟩ := hrel
    by_cases hi : i < l.length ∧ i < 30
    · have d1 : decide ((i : Int) < (l.length : Int)) = true := decide_eq_true (by omega)
      have d2 : decide (i < l.length) = true := decide_eq_true hi.1; have d3 : decide ((i : Int) < 30) = true := decide_eq_true (by omega); have d4 : decide (i < 30) = true := decide_eq_true hi.2
      have wrapI : wrap64 ((i : Int) + 1) = ((i + 1 : Nat) : Int) := by unfold wrap64; omega
      obtain ⟨ad, cs, rfl, -, hK, hcell0, -⟩ := Kd.F_get HF.out z47 (i : Int) (by omega) (by omega)
      have hx : l.getD (i : Int).toNat z47 = l[i]'hi.1 := by
        rw [show (i : Int).toNat = i from rfl]; simp [List.getD, List.getElem?_eq_getElem hi.1]
      obtain ⟨x, hxe⟩ : ∃ x, x = l.getD (i : Int).toNat z47 := ⟨_, rfl⟩
      rw [← hxe] at hK
      have htk : l.take (i + 1) = l.take i ++ [x] := by rw [hxe, hx, List.take_add_one, List.getElem?_eq_getElem hi.1]; rfl
      obtain ⟨A14, c14, A20, c20, A22, c22, A23, c23, A24, c24, A32, c32, A34, c34, A35, c35, A36, c36, rfl, l14, g14, l20, g20, l22, g22, l23, g23, l24, g24, l32, g32, l34, g34, l35, g35, l36, g36⟩ := k47_openF hK; have HRr := Lib.hid (RFs.mk l14 g14); have HT := Lib.hid (TFs.mk l20 g20 l22 g22 l23 g23 l24 g24); have HU := Lib.hid (TFs.mk l32 g32 l34 g34 l35 g35 l36 g36)
      have HCell := Lib.hid (show ∀ j v, (evN x x.f2.f4.length x.f2.f6.f6.length x.f3.f2.f6.length A14 c14 A20 c20 A22 c22 A23 c23 A24 c24 A32 c32 A34 c34 A35 c35 A36 c36)[j]? = some v → wr.cell? ((ad.add (i * 37)).add j) = some v from fun j v hv => by
        rw [Addr.add_add]
        exact Qa0 HB.out (hcell0 j v (by rw [← Array.getElem?_toList] at hv; exact hv)))
      have q1 : (0 : Int) ≤ (i : Int) := by omega
      have q2 : (i : Int) < (l.length : Int) := by omega
      have HI2 := Lib.hid hi; have HTk := Lib.hid htk
      obtain ⟨n14, hn14⟩ : ∃ n, n = (x.f2.f4.take 6).length := ⟨_, rfl⟩
      have H14 := Lib.hid hn14; have hn := hn14.trans (take_min _ _); have HN := Lib.hid hn; clear hn14 hn hi hx hxe htk hK hcell0 l14 g14 l20 g20 l22 g22 l23 g23 l24 g24 l32 g32 l34 g34 l35 g35 l36 g36
      go_upto_if 24 with (first | (refine QaF rfl 47 (.tmp 18) rfl _ rfl (evN x x.f2.f4.length x.f2.f6.f6.length x.f3.f2.f6.length A14 c14 A20 c20 A22 c22 A23 c23 A24 c24 A32 c32 A34 c34 A35 c35 A36 c36) _ HCell.out Tryz.underlying47 rfl (by kernel_rfl) ?_) | (refine Qbm rfl 47 (.tmp 5) (.tmp 19) rfl rfl rfl (evN x x.f2.f4.length x.f2.f6.f6.length x.f3.f2.f6.length A14 c14 A20 c20 A22 c22 A23 c23 A24 c24 A32 c32 A34 c34 A35 c35 A36 c36) rfl (by kernel_rfl) rfl (by simp [Value.oneCell']) ?_))
      go_cut [] from 20 to 30 (fun wc => wc = wr.alloc (.cells (evN x n14 x.f2.f6.f6.length x.f3.f2.f6.length A14 c14 A20 c20 A22 c22 A23 c23 A24 c24 A32 c32 A34 c34 A35 c35 A36 c36) 47))
      case first =>
        by_cases h : 6 < x.f2.f4.length
        · have p1 : 6 ≤ c14 := by have := HRr.out.l4; omega
          have p2 : (6 : Int) ≤ (c14 : Int) := by omega
          have e1 : decide ((6 : Int) < (x.f2.f4.length : Int)) = true := decide_eq_true (by omega); have e2 : decide (6 < x.f2.f4.length) = true := decide_eq_true h; obtain rfl : n14 = 6 := HN.out.trans (if_pos h); clear h; simp only [e1]
          go_wp2_with fail
          go_meet
          case rel => rfl
        · have e1 : decide ((6 : Int) < (x.f2.f4.length : Int)) = false := decide_eq_false (by omega)
          have e2 : decide (6 < x.f2.f4.length) = false := decide_eq_false h; obtain rfl : n14 = x.f2.f4.length := HN.out.trans (if_neg h); clear h; simp only [e1]
          go_wp2_with fail
          go_meet
          case rel => rfl
      case rest =>
      obtain rfl := hcut; have hB1 := Qa1 wr (.cells (evN x n14 x.f2.f6.f6.length x.f3.f2.f6.length A14 c14 A20 c20 A22 c22 A23 c23 A24 c24 A32 c32 A34 c34 A35 c35 A36 c36) 47); have hL1 : Below wr.heap.size wr (wr.alloc (.cells (evN x n14 x.f2.f6.f6.length x.f3.f2.f6.length A14 c14 A20 c20 A22 c22 A23 c23 A24 c24 A32 c32 A34 c34 A35 c35 A36 c36) 47)) := Qai (Below.refl _ _) _; have hS1 : wr.heap.size < (wr.alloc (.cells (evN x n14 x.f2.f6.f6.length x.f3.f2.f6.length A14 c14 A20 c20 A22 c22 A23 c23 A24 c24 A32 c32 A34 c34 A35 c35 A36 c36) 47)).heap.size := Qbi hB1; have hww := HB.out.size
      have hold : ∀ W : World, Below wr.heap.size wr W → Below w.heap.size w W := fun W h => Qac HB.out h
      generalize wr.alloc (.cells (evN x n14 x.f2.f6.f6.length x.f3.f2.f6.length A14 c14 A20 c20 A22 c22 A23 c23 A24 c24 A32 c32 A34 c34 A35 c35 A36 c36) 47) = W1 at hB1 hL1 hS1 ⊢
      have HB1 := Lib.hid hB1; have HL1 := Lib.hid hL1; have HS1 := Lib.hid hS1; have HOld := Lib.hid hold; have HWW := Lib.hid hww; have HT1 := Lib.hid (HT.out.step (fun k hk hlt => (hold W1 hL1).block k hlt)); have HU1 := Lib.hid (HU.out.step (fun k hk hlt => (hold W1 hL1).block k hlt)); have HR1 := Lib.hid (HRr.out.step (fun k hk hlt => (hold W1 hL1).block k hlt)); clear hB1 hL1 hS1 hold hww d1 d2 d3 d4 q1 q2
      go_upto_region 9 with (first | (refine QaF rfl 41 (.tmp 32) rfl _ rfl (tokV x.f2.f6 A20 c20 A22 c22 A23 c23 A24 c24) _ (seg_range HB1.out 16 9 (tokV x.f2.f6 A20 c20 A22 c22 A23 c23 A24 c24) rfl) Tryz.underlying41 rfl (by kernel_rfl) ?_) | (go_at_call 10; refine (fewTok_calls W1 _ x.f2.f6 (tokV x.f2.f6 A20 c20 A22 c22 A23 c23 A24 c24) HT1.out.fk).mono ?_; rintro e w3 ⟨T3, rfl, hT3, hb3⟩; obtain ⟨B20, d20, B22, d22, B23, d23, B24, d24, rfl, gT3⟩ := TFs.open_ hT3; have HT3 := Lib.hid gT3; have HB3 := Lib.hid hb3; have HE3 := Lib.hid (Qad HB1.out hb3); clear hT3 gT3 hb3) | (refine wpList_putSeg rfl 41 (.tmp 36) (.tmp 34) rfl HE3.out rfl (tokV (fewT x.f2.f6) B20 d20 B22 d22 B23 d23 B24 d24) rfl (by kernel_rfl) (by simp) (by simp [Value.oneCell']) (evN (ev3 x (fewT x.f2.f6) x.f3.f2) n14 (fewT x.f2.f6).f6.length x.f3.f2.f6.length A14 c14 B20 d20 B22 d22 B23 d23 B24 d24 A32 c32 A34 c34 A35 c35 A36 c36) rfl ?_))
      have hE4 := setRow_heap w3 wr.heap.size (evN x n14 x.f2.f6.f6.length x.f3.f2.f6.length A14 c14 A20 c20 A22 c22 A23 c23 A24 c24 A32 c32 A34 c34 A35 c35 A36 c36) (evN (ev3 x (fewT x.f2.f6) x.f3.f2) n14 (fewT x.f2.f6).f6.length x.f3.f2.f6.length A14 c14 B20 d20 B22 d22 B23 d23 B24 d24 A32 c32 A34 c34 A35 c35 A36 c36) 47 (0, 0) HE3.out
      have hm4 : ∀ k, k ≠ wr.heap.size → (w3.setRow wr.heap.size (evN (ev3 x (fewT x.f2.f6) x.f3.f2) n14 (fewT x.f2.f6).f6.length x.f3.f2.f6.length A14 c14 B20 d20 B22 d22 B23 d23 B24 d24 A32 c32 A34 c34 A35 c35 A36 c36)).heap[k]? = w3.heap[k]? := fun k hk => setRow_other w3 _ k _ hk
      have hL4 : Below wr.heap.size wr (w3.setRow wr.heap.size (evN (ev3 x (fewT x.f2.f6) x.f3.f2) n14 (fewT x.f2.f6).f6.length x.f3.f2.f6.length A14 c14 B20 d20 B22 d22 B23 d23 B24 d24 A32 c32 A34 c34 A35 c35 A36 c36)) := below_setRowW (Qac HL1.out HB3.out) (Nat.le_refl _) _
      generalize w3.setRow wr.heap.size (evN (ev3 x (fewT x.f2.f6) x.f3.f2) n14 (fewT x.f2.f6).f6.length x.f3.f2.f6.length A14 c14 B20 d20 B22 d22 B23 d23 B24 d24 A32 c32 A34 c34 A35 c35 A36 c36) = W4 at hE4 hm4 hL4 ⊢
      have HE4 := Lib.hid hE4; have HL4 := Lib.hid hL4; have HT4 := Lib.hid (show TFs W4 (fun k => k < w.heap.size ∨ wr.heap.size < k) (fewT x.f2.f6) B20 d20 B22 d22 B23 d23 B24 d24 from (HT3.out.mono (fun k hk => hk.elim Or.inl (fun h => Or.inr (Nat.lt_of_lt_of_le HS1.out h)))).step (fun k hk hlt => hm4 k (by have := HWW.out; omega))); have HU4 := Lib.hid (HU1.out.step (W1 := W4) (fun k hk hlt => ((hm4 k (by have := HWW.out; omega)).trans (HB3.out.block k (by omega))))); have HR4 := Lib.hid (HR1.out.step (W1 := W4) (fun k hk hlt => ((hm4 k (by have := HWW.out; omega)).trans (HB3.out.block k (by omega))))); clear hE4 hm4 hL4 HT3 HE3 HT1 HU1 HR1 HB1 HB3 HL1; have HS4 := Lib.hid (Qbi HE4.out)
      go_upto_region 10 with (first | (refine QaF rfl 41 (.tmp 38) rfl _ rfl (tokV x.f3.f2 A32 c32 A34 c34 A35 c35 A36 c36) _ (seg_range HE4.out 28 9 (tokV x.f3.f2 A32 c32 A34 c34 A35 c35 A36 c36) rfl) Tryz.underlying41 rfl (by kernel_rfl) ?_) | (go_at_call 10; refine (fewTok_calls W4 _ x.f3.f2 (tokV x.f3.f2 A32 c32 A34 c34 A35 c35 A36 c36) HU4.out.fk).mono ?_; rintro e w5 ⟨T5, rfl, hT5, hb5⟩; obtain ⟨B32, d32, B34, d34, B35, d35, B36, d36, rfl, gT5⟩ := TFs.open_ hT5; have HT5 := Lib.hid gT5; have HB5 := Lib.hid hb5; have HE5 := Lib.hid (Qad HE4.out hb5); clear hT5 gT5 hb5) | (refine wpList_putSeg rfl 41 (.tmp 42) (.tmp 40) rfl HE5.out rfl (tokV (fewT x.f3.f2) B32 d32 B34 d34 B35 d35 B36 d36) rfl (by kernel_rfl) (by simp) (by simp [Value.oneCell']) (evN (ev3 x (fewT x.f2.f6) (fewT x.f3.f2)) n14 (fewT x.f2.f6).f6.length (fewT x.f3.f2).f6.length A14 c14 B20 d20 B22 d22 B23 d23 B24 d24 B32 d32 B34 d34 B35 d35 B36 d36) rfl ?_))
      have hE6 := setRow_heap w5 wr.heap.size (evN (ev3 x (fewT x.f2.f6) x.f3.f2) n14 (fewT x.f2.f6).f6.length x.f3.f2.f6.length A14 c14 B20 d20 B22 d22 B23 d23 B24 d24 A32 c32 A34 c34 A35 c35 A36 c36) (evN (ev3 x (fewT x.f2.f6) (fewT x.f3.f2)) n14 (fewT x.f2.f6).f6.length (fewT x.f3.f2).f6.length A14 c14 B20 d20 B22 d22 B23 d23 B24 d24 B32 d32 B34 d34 B35 d35 B36 d36) 47 (0, 0) HE5.out
      have hm6 : ∀ k, k ≠ wr.heap.size → (w5.setRow wr.heap.size (evN (ev3 x (fewT x.f2.f6) (fewT x.f3.f2)) n14 (fewT x.f2.f6).f6.length (fewT x.f3.f2).f6.length A14 c14 B20 d20 B22 d22 B23 d23 B24 d24 B32 d32 B34 d34 B35 d35 B36 d36)).heap[k]? = w5.heap[k]? := fun k hk => setRow_other w5 _ k _ hk
      have hL6 : Below wr.heap.size wr (w5.setRow wr.heap.size (evN (ev3 x (fewT x.f2.f6) (fewT x.f3.f2)) n14 (fewT x.f2.f6).f6.length (fewT x.f3.f2).f6.length A14 c14 B20 d20 B22 d22 B23 d23 B24 d24 B32 d32 B34 d34 B35 d35 B36 d36)) := below_setRowW (Qac HL4.out HB5.out) (Nat.le_refl _) _
      generalize w5.setRow wr.heap.size (evN (ev3 x (fewT x.f2.f6) (fewT x.f3.f2)) n14 (fewT x.f2.f6).f6.length (fewT x.f3.f2).f6.length A14 c14 B20 d20 B22 d22 B23 d23 B24 d24 B32 d32 B34 d34 B35 d35 B36 d36) = W6 at hE6 hm6 hL6 ⊢
      have HE6 := Lib.hid hE6; have HL6 := Lib.hid hL6; have HU6 := Lib.hid (show TFs W6 (fun k => k < w.heap.size ∨ wr.heap.size < k) (fewT x.f3.f2) B32 d32 B34 d34 B35 d35 B36 d36 from (HT5.out.mono (fun k hk => hk.elim Or.inl (fun h => Or.inr (Nat.lt_of_lt_of_le HS4.out h)))).step (fun k hk hlt => hm6 k (by have := HWW.out; omega))); have HT6 := Lib.hid (HT4.out.step (W1 := W6) (fun k hk hlt => ((hm6 k (by have := HWW.out; omega)).trans (HB5.out.block k (by omega))))); have HR6 := Lib.hid (HR4.out.step (W1 := W6) (fun k hk hlt => ((hm6 k (by have := HWW.out; omega)).trans (HB5.out.block k (by omega))))); clear hE6 hm6 hL6 HT5 HE5 HT4 HU4 HR4 HB5 HE4
      obtain ⟨n34, hn34⟩ : ∃ n, n = ((fewT x.f3.f2).f6.take 12).length := ⟨_, rfl⟩
      obtain ⟨n22, hn22⟩ : ∃ n, n = ((fewT x.f2.f6).f6.take 12).length := ⟨_, rfl⟩
      have H34 := Lib.hid hn34; have H22 := Lib.hid hn22; have HN34 := Lib.hid (hn34.trans (take_min _ _)); have HN22 := Lib.hid (hn22.trans (take_min _ _))
      obtain ⟨m34, hm34⟩ : ∃ m, m = (fewT x.f3.f2).f6.length := ⟨_, rfl⟩
      obtain ⟨m22, hm22⟩ : ∃ m, m = (fewT x.f2.f6).f6.length := ⟨_, rfl⟩
      have HC34 := Lib.hid (show m34 ≤ d34 ∧ m34 ≤ 9223372036854775807 from by rw [hm34]; exact ⟨HU6.out.l6, Kd.F_max HU6.out.g6⟩); have HC22 := Lib.hid (show m22 ≤ d22 ∧ m22 ≤ 9223372036854775807 from by rw [hm22]; exact ⟨HT6.out.l6, Kd.F_max HT6.out.g6⟩); have HE7 := Lib.hid (show W6.heap[wr.heap.size]? = some (.cells (evN (ev3 x (fewT x.f2.f6) (fewT x.f3.f2)) n14 m22 m34 A14 c14 B20 d20 B22 d22 B23 d23 B24 d24 B32 d32 B34 d34 B35 d35 B36 d36) 47 (0, 0)) from by rw [hm34, hm22]; exact HE6.out); rw [← hm34] at HN34; rw [← hm22] at HN22; clear hn34 hn22 hm34 hm22 HE6; have s34 := Qbp HE7.out 34 (v := .slice B34 m34 d34) rfl; have sf := QaP HE7.out 34
      go_upto_if 48 with fail
      go_cut [] from 43 to 56 (fun wc => wc.heap[wr.heap.size]? = some (.cells (evN (ev3 x (fewT x.f2.f6) (fewT x.f3.f2)) n14 m22 n34 A14 c14 B20 d20 B22 d22 B23 d23 B24 d24 B32 d32 B34 d34 B35 d35 B36 d36) 47 (0, 0)) ∧ (∀ k, k ≠ wr.heap.size → wc.heap[k]? = W6.heap[k]?) ∧ Below wr.heap.size wr wc)
      case first =>
        by_cases h : 12 < m34
        · have p1 : 12 ≤ d34 := by have := HC34.out.1; omega
          have p2 : (12 : Int) ≤ (d34 : Int) := by omega
          have e1 : decide ((12 : Int) < (m34 : Int)) = true := decide_eq_true (by omega); have e2 : decide (12 < m34) = true := decide_eq_true h; obtain rfl : n34 = 12 := HN34.out.trans (if_pos h); clear h; simp only [e1]
          go_wp2_with fail
          go_meet
          case rel => exact ⟨Qbl HE7.out 34 _ rfl, fun k hk => Below.heap_setCell _ _ _ k hk, HL6.out.setCell (p := ⟨wr.heap.size, 34, none⟩) (Nat.le_refl _) _⟩
        · have e1 : decide ((12 : Int) < (m34 : Int)) = false := decide_eq_false (by omega)
          have e2 : decide (12 < m34) = false := decide_eq_false h; obtain rfl : n34 = m34 := HN34.out.trans (if_neg h); clear h; simp only [e1]
          go_wp2_with fail
          go_meet
          case rel => exact ⟨HE7.out, fun _ _ => rfl, HL6.out⟩
      case rest =>
      obtain ⟨E1, E2, E3⟩ := hcut; have HE8 := Lib.hid E1; have HM8 := Lib.hid E2; have HL8 := Lib.hid E3; clear E1 E2 E3 s34 sf; have s22 := Qbp HE8.out 22 (v := .slice B22 m22 d22) rfl; have sf := QaP HE8.out 22
      go_upto_if 62 with fail
      go_cut [] from 57 to 70 (fun wc => wc.heap[wr.heap.size]? = some (.cells (evN (ev3 x (fewT x.f2.f6) (fewT x.f3.f2)) n14 n22 n34 A14 c14 B20 d20 B22 d22 B23 d23 B24 d24 B32 d32 B34 d34 B35 d35 B36 d36) 47 (0, 0)) ∧ (∀ k, k ≠ wr.heap.size → wc.heap[k]? = W6.heap[k]?) ∧ Below wr.heap.size wr wc)
      case first =>
        by_cases h : 12 < m22
        · have p1 : 12 ≤ d22 := by have := HC22.out.1; omega
          have p2 : (12 : Int) ≤ (d22 : Int) := by omega
          have e1 : decide ((12 : Int) < (m22 : Int)) = true := decide_eq_true (by omega); have e2 : decide (12 < m22) = true := decide_eq_true h; obtain rfl : n22 = 12 := HN22.out.trans (if_pos h); clear h; simp only [e1]
          go_wp2_with fail
          go_meet
          case rel => exact ⟨Qbl HE8.out 22 _ rfl, fun k hk => (Below.heap_setCell _ _ _ k hk).trans (HM8.out k hk), HL8.out.setCell (p := ⟨wr.heap.size, 22, none⟩) (Nat.le_refl _) _⟩
        · have e1 : decide ((12 : Int) < (m22 : Int)) = false := decide_eq_false (by omega)
          have e2 : decide (12 < m22) = false := decide_eq_false h; obtain rfl : n22 = m22 := HN22.out.trans (if_neg h); clear h; simp only [e1]
          go_wp2_with fail
          go_meet
          case rel => exact ⟨HE8.out, HM8.out, HL8.out⟩
      case rest =>
      obtain ⟨E1, E2, E3⟩ := hcut; have HE9 := Lib.hid E1; have HL9 := Lib.hid E3
      have hfk : Kd.FK kEvt wc (fun k => k < w.heap.size ∨ wr.heap.size < k) (fewE x) (evN (ev3 x (fewT x.f2.f6) (fewT x.f3.f2)) n14 n22 n34 A14 c14 B20 d20 B22 d22 B23 d23 B24 d24 B32 d32 B34 d34 B35 d35 B36 d36).toList := by
        have hm : ∀ k, (fun k => k < w.heap.size ∨ wr.heap.size < k) k → k < W6.heap.size → wc.heap[k]? = W6.heap[k]? := fun k hk _ => E2 k (by have := HWW.out; omega)
        rw [H14.out, H22.out, H34.out]; exact fewE_fk ((fun h => ⟨h.l4, Kd.F_mono h.g4 (fun k hk => Or.inl hk)⟩) (HR6.out.step (W1 := wc) (fun k hk hlt => hm k (Or.inl hk) hlt))) (HT6.out.step hm) (HU6.out.step hm)
      have oE : ∀ u ∈ (evN (ev3 x (fewT x.f2.f6) (fewT x.f3.f2)) n14 n22 n34 A14 c14 B20 d20 B22 d22 B23 d23 B24 d24 B32 d32 B34 d34 B35 d35 B36 d36).toList, u.oneCell' = true := by simp [Value.oneCell']
      have hEb := E1; have HFk := Lib.hid hfk; have HEb := Lib.hid hEb; have HR9 := Lib.hid (Kd.Qa3 HR.out E3); have HB9 := Lib.hid (Qac HB.out E3); clear hfk hEb E1 E2 E3 s22 sf HE9 HT6 HU6 HR6 HE8 HM8 HL8 HE7 HL6 H14 H22 H34 HN34 HN22 HC34 HC22 HN HS4 HS1 HL4 HB9 HOld HT HU HRr HCell; have HB9 := Lib.hid (Qac HB.out HL9.out); have HOE := Lib.hid oE; clear oE
      go_wp2_with (first | (refine QaF rfl 47 (.tmp 5) rfl _ rfl (evN (ev3 x (fewT x.f2.f6) (fewT x.f3.f2)) n14 n22 n34 A14 c14 B20 d20 B22 d22 B23 d23 B24 d24 B32 d32 B34 d34 B35 d35 B36 d36) _ (range0 HEb.out) Tryz.underlying47 rfl (by kernel_rfl) ?_) | ((with_reducible refine QaY (b := .append) (xs := #[.tmp 71, .tmp 73]) rfl ?_); at_builtin; refine Kd.QbG (kRaw 37) (w0 := w) w.heap.size rfl (.tmp 71) (.tmp 73) 22 47 (.agg zEvV) 520 rfl Tryz.underlying22 infoEvt rfl (by decide) (by omega) _ Cs (evN (ev3 x (fewT x.f2.f6) (fewT x.f3.f2)) n14 n22 n34 A14 c14 B20 d20 B22 d22 B23 d23 B24 d24 B32 d32 B34 d34 B35 d35 B36 d36) (evN (ev3 x (fewT x.f2.f6) (fewT x.f3.f2)) n14 n22 n34 A14 c14 B20 d20 B22 d22 B23 d23 B24 d24 B32 d32 B34 d34 B35 d35 B36 d36).toList (fun _ => True) (fun _ => False) rfl (by first | rfl | exact congrArg (fun n => Value.slice (some ⟨n, 0, none⟩) 1 1) (Array.size_push _).symm) ?aP (fun _ hk => hk.elim) (fun _ _ => trivial) ?aO ?aB ?aS ?aL ?_; (case aP => exact ⟨rfl, rfl, HOE.out⟩); (case aB => exact HB9.out); (case aO => exact HR9.out); (case aS => exact QaI HB9.out); (case aL => have := HCl.out; have := HI.out; omega); intro v2 w2 ho hb hg hat; have HO := Lib.hid ho; have HBo := Lib.hid hb; have HGr := Lib.hid hg; have HAt := Lib.hid hat; clear ho hb hg hat))
      go_roundg (30 + 1 - (i + 1))
      case measure => have := HKq.out; have := HI2.out; omega
      case rel =>
        refine ⟨i + 1, Cs ++ [(evN (ev3 x (fewT x.f2.f6) (fewT x.f3.f2)) n14 n22 n34 A14 c14 B20 d20 B22 d22 B23 d23 B24 d24 B32 d32 B34 d34 B35 d35 B36 d36)], by first | rfl | exact congrArg _ wrapI, Lib.hid rfl, Lib.hid (by have := HI2.out; omega), HO, Lib.hid (by rw [List.length_append, HCl.out]; rfl), Lib.hid ?_, HBo⟩; intro j y C h1 h2; rw [HTk.out] at h1
        have htl : (l.take i).length = i := by rw [List.length_take]; have := HI2.out; omega
        by_cases hj : j < i
        · rw [List.getElem?_append_left (by omega)] at h1
          rw [List.getElem?_append_left (by rw [HCl.out]; exact hj)] at h2; exact foot_after (Kd.FK_below (HFa.out j y C h1 h2) HL9.out) HGr.out HAt.out
        · rw [List.getElem?_append_right (by omega)] at h1
          rw [List.getElem?_append_right (by rw [HCl.out]; omega), HCl.out] at h2; rw [htl] at h1
          cases hz : j - i with
          | zero =>
            rw [hz] at h1 h2; obtain rfl := Option.some.inj h1; obtain rfl := Option.some.inj h2; refine foot_after (Kd.FK_mono HFk.out (fun k hk => ⟨trivial, fun he => ?_⟩)) HGr.out HAt.out; have a1 := Kd.R_base HR.out k he.symm; have a2 := Kd.R_lt HR.out k he.symm; omega
          | succ j =>
            rw [hz] at h1; simp at h1
    · have hcase : (decide (i < l.length) = false) ∨ (decide (i < l.length) = true ∧ decide (i < 30) = false) := by
        by_cases h1 : i < l.length
        · exact .inr ⟨decide_eq_true h1, decide_eq_false (fun h2 => hi ⟨h1, h2⟩)⟩
        · exact .inl (decide_eq_false h1)
      have hi8 : i = (few l).length := by
        unfold few; rw [List.length_map, take_min]; have := HI.out
        split <;> omega
      have hlf : ∀ (j : Nat) (y : Evt) (C : Array Value), (few l)[j]? = some y → Cs[j]? = some C → Kd.FK kEvt wr (fun _ => True) y C.toList := fun j y C h1 h2 => by
        unfold few at h1; rw [List.getElem?_map] at h1; obtain ⟨x, hx, rfl⟩ := Option.map_eq_some_iff.mp h1; refine Kd.FK_mono (HFa.out j x C ?_ h2) (fun _ _ => trivial); have hj : j < Cs.length := (List.getElem?_eq_some_iff.mp h2).1; rw [HCl.out] at hj; rw [List.getElem?_take] at hx ⊢; rw [if_pos hj]
        split at hx
        · exact hx
        · cases hx
      obtain ⟨A9, c9, e9, hc9, -⟩ := Kd.R_reads HR.out; rw [HCl.out] at e9 hc9; subst e9; have hR6 : Kd.R (kRaw 37) 47 wr w.heap.size (fun k => w.heap.size ≤ k) (.slice A9 i c9) Cs := Kd.Qbf (Kd.R_bound HR.out) (fun k hk => hk.2.1); have f7 := Kd.F_now (raw_F (d := kEvt) (ok := fun _ => True) hR6 rfl (by rw [HCl.out, hi8]) hlf); have HEnd := Lib.hid (show (few l).length ≤ c9 ∧ Kd.C kEvt wr A9 (few l).length (few l) from ⟨by rw [← hi8]; exact hc9, f7⟩); have HI8 := Lib.hid hi8
      have d1 : decide ((i : Int) < (l.length : Int)) = decide (i < l.length) := by rw [decide_eq_decide]; omega
      have d3 : decide ((i : Int) < 30) = decide (i < 30) := by rw [decide_eq_decide]; omega
      clear hi hi8 hlf hc9 hR6 f7
      rcases hcase with d2 | ⟨d2, d4⟩
      · rw [d2] at d1
        clear d3
        go_wp2_with fail
        refine bodyPost_ret (results_tmp rfl _ _ _) rfl ?_; exact ⟨A9, c9, by rw [← HI8.out]; rfl, HEnd.out.1, HEnd.out.2, HB.out⟩
      · rw [d2] at d1
        rw [d4] at d3
        go_wp2_with fail
        refine bodyPost_ret (results_tmp rfl _ _ _) rfl ?_; exact ⟨A9, c9, by rw [← HI8.out]; rfl, HEnd.out.1, HEnd.out.2, HB.out⟩
end Go.Proofs.YtbjjonpkmplhbaaGreatDoor.Pr
end
