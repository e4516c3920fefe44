/- The proof's own texts, joined: part 8. No conditions. -/
import Derived.OrdersHeld
import Derived.Deep.RegionHeld3
import Derived.Laws.BitsLemmas
import Derived.RowKit
import Derived.Below
import Derived.Deep.Draws
import Derived.Deep.AppendLies
import Derived.Maps.AppendAt
import Derived.OwnWalk
import Derived.Laws.BytesArg
import Derived.Laws.MakeOwn
import Derived.Laws.OwnMore
import Derived.Deep.OwnRows
import Derived.Tactics
import Derived.Lib.ConvBytes
import Derived.Laws.Slices
import Derived.WalkKit
import Derived.KernelRfl
import Derived.RowKit3
import Derived.Deep.LoopGhost
import Derived.Deep.QuietTactic
import Derived.BigQuiet
import Derived.WideLaws
import Derived.Deep.DeepCutAuto
import Derived.Deep.CutBlock
import Derived.Laws.Rows
import Derived.Lib.AppendStr
import Derived.ArgAppend
import Derived.Laws.IdiomCopy
import Derived.Laws.StructEq
import Derived.Test.YtbjjgaahdnfflaaGreatDoorProg
import Derived.DeepKeys4
import Derived.WalkSpells
import Derived.WalkLawsBesides
import Derived.Lib.Hide
import Derived.Deep.RegionWith
import Derived.RegionTactic
import Derived.ChangeAlike
import Derived.Deep.RegionLaw
import Derived.Lib.SmallJoins
import Derived.Lib.SlicesS
import Derived.Shelf.SlicesE.Clone
import Derived.Outline
import Derived.Sort.Grow
import Derived.Deep.DrawnRows
import Derived.Shelf.SlSortCmp.NoneTotal
import Derived.StillTailTactics
import Derived.Sort.Walk0
import Derived.Laws.Strings
import Derived.Shelf.GgSortFunc.InsertionK
import Derived.Laws.RangeAny
import Derived.Laws.Closers25
import Derived.Shelf.SlicesG.Cmp
import Derived.Maps.OwnSet
import Derived.Maps.RangeRun
import Derived.Maps.Range
import Derived.Carry
import Derived.Shelf.SlSortCmp.WholeK
import Derived.Ground.SlsfProg
import Derived.Ground.SlgnProg
import Derived.Ground.SlgcProg
import Derived.ProofKit
import Derived.ChangeSlices
import Derived.DataElems
import Derived.Sort.LotA
import Derived.Test.YtbjjgaahdnfflaaGreatDoorPFinds0
import Derived.Test.YtbjjgaahdnfflaaGreatDoorPFinds1
import Derived.Test.YtbjjgaahdnfflaaGreatDoorPFinds2
import Derived.Test.YtbjjgaahdnfflaaGreatDoorPFinds3
import Derived.Test.YtbjjgaahdnfflaaGreatDoorPFinds4
import Derived.Test.YtbjjgaahdnfflaaGreatDoorPFinds5
import Derived.Test.YtbjjgaahdnfflaaGreatDoorPFinds6
import Derived.Test.YtbjjgaahdnfflaaGreatDoorPFinds7
section
namespace Go.Proofs.YtbjjgaahdnfflaaGreatDoor.Pr
open Go.RowKit Go.Proofs.YtbjjgaahdnfflaaGreatDoorW.PrintWords Go.Proofs.YtbjjgaahdnfflaaGreatDoorW.PrintLast Go.Proofs.YtbjjgaahdnfflaaGreatDoorW.PrintMore
set_option linter.unusedVariables false
set_option linter.unusedSimpArgs false
section
attribute [local go_sem] QaV QaT Qa1 Qa0 QaL QaK QaU QaS
mutual
def Qaw.l0 : Nat → List (S46) → List (S51) → List (S51) → Int → Option ((List (S51)))
 | 0, _, _, _, _ => none
 | k + 1, x0, x1, x5, x6 => if x6 < (x0.length : Int) then (if 0 ≤ x6 then ((Qac.f k ((Qah x0 x6).f0.f0) ((Qah x0 x6).f0.f1) ((Qah x0 x6).f1) ((Qah x0 x6).f2) ((Qah x0 x6).f3) ((Qah x0 x6).f4.f0) ((Qah x0 x6).f4.f1) ((Qah x0 x6).f5.f0) ((Qah x0 x6).f5.f1) x1).bind fun t105 => (Qaw.l1 k x0 x1 x5 x6 t105 0)) else (none)) else (some x5)
def Qaw.l1 : Nat → List (S46) → List (S51) → List (S51) → Int → List (S51) → Int → Option ((List (S51)))
 | 0, _, _, _, _, _, _ => none
 | k + 1, x0, x1, x5, x6, x7, x8 => if x8 < (x7.length : Int) then (if 0 ≤ x8 then ((Qau.f k x5 ((Qaq x7 x8).f0.f0) ((Qaq x7 x8).f0.f1) ((Qaq x7 x8).f1)).bind fun t109 => (if t109 = true then (Qaw.l1 k x0 x1 x5 x6 x7 (wrap64 (x8 + 1))) else (if x5.length < 2932031007402 then (Qaw.l1 k x0 x1 (x5 ++ [(⟨(⟨(Qaq x7 x8).f0.f0, (Qaq x7 x8).f0.f1⟩ : S24), (Qaq x7 x8).f1⟩ : S51)]) x6 x7 (wrap64 (x8 + 1))) else (none)))) else (none)) else (Qaw.l0 k x0 x1 x5 (wrap64 (x6 + 1)))
end
def Qaw.f (k : Nat) (l0 : List (S46)) (l1 : List (S51)) : Option ((List (S51))) := if ([] : List (S51)).length + l1.length < 2932031007402 then (Qaw.l0 k l0 l1 (([] : List (S51)) ++ l1) 0) else (none)
set_option maxHeartbeats 8000000 in
set_option maxRecDepth 100000 in
theorem Qaw.calls (k : Nat) (A0 : Option Addr) (c0 : Nat) (l0 : List (S46)) (A1 : Option Addr) (c1 : Nat) (l1 : List (S51)) (r : List (S51)) (w : World) (hr0 : Kd.C k46 w A0 l0.length l0) (hc0 : l0.length ≤ c0) (hr1 : Kd.C k51 w A1 l1.length l1) (hc1 : l1.length ≤ c1) (h : Qaw.f k l0 l1 = some r) :
  Calls Tryz.prog 27 #[.slice A0 l0.length c0, .slice A1 l1.length c1] w fun e w' => ∃ v0_ : Value, e = .returned (v0_) ∧ Kd.R k51 51 w' w.heap.size (fun _ => True) v0_ r ∧ Below w.heap.size w w' := by
 have hu46 := Tryz.underlying46; have hu51 := Tryz.underlying51; have HR0 := Qaa.mk hr0; have HC0 := Qaa.mk hc0; clear hr0 hc0; have HR1 := Qaa.mk hr1; have HC1 := Qaa.mk hc1; clear hr1 hc1; have HB := Qaa.mk (Below.refl w.heap.size w); have H : (if ([] : List (S51)).length + l1.length < 2932031007402 then (Qaw.l0 k l0 l1 (([] : List (S51)) ++ l1) 0) else (none)) = some r := h; clear h
 by_cases c3 : ([] : List (S51)).length + l1.length < 2932031007402
 ·rw [if_pos c3] at H; have LMc3 := Qaa.mk c3; clear c3
  obtain ⟨y101, hy101⟩ : ∃ y_ : List (S51), y_ = (([] : List (S51)) ++ l1) := ⟨_, rfl⟩
  replace H : (Qaw.l0 k l0 l1 y101 0) = some r := by first | (rw [hy101]; with_reducible exact H) | (have H2_ := (Option.bind_some _ _).symm.trans H; rw [hy101]; with_reducible exact H2_) | (have H2_ := (Option.bind_some _ _).symm.trans H; with_reducible exact H2_) | with_reducible exact H | (rw [hy101]; exact H) | exact H
  have Ny101 := Qaa.mk hy101; clear hy101; have H' := Qaa.mk H; clear H; go_enter Tryz.func27, Tryz.ntmps27
  go_wp2_with (first | ((with_reducible refine Qbj (b := .append) (xs := #[.tmp 10, .tmp 11]) rfl ?_); at_builtin; refine Kd.Qcd k51 (w0 := w) w.heap.size rfl (.tmp 10) (.tmp 11) 48 51 (.agg #[(.string ⟨#[]⟩), (.string ⟨#[]⟩), (.string ⟨#[]⟩)]) 48 rfl Tryz.underlying48 info51 rfl (by decide) (by omega) (.slice none 0 0) ([] : List (S51)) l1 _ _ _ (fun _ => True) (fun _ => False) rfl rfl ?aO ?aR (fun _ _ h => h) (fun _ h => h.elim) ?aF ?aB ?aS ?aL ?_; (case aR => repeat (first | exact HR1.out | (with_reducible refine Kd.C_alloc ?_ _) | (with_reducible refine Kd.C_drewN ?_ _) | (with_reducible refine Kd.C_drew ?_))); (case aB => exact bw_); (case aF => exact (fun _ _ => trivial)); (case aO => exact ((Kd.Qci _ _ _ _ (fun _ => True)))); (case aS => exact (QaI bw_)); (case aL => have := LMc3.out; omega); intro v102 w4 ho hb hg hat; rw [← Ny101.out] at ho; have HO103 := Qaa.mk (ho); replace HB := Qaa.mk (hb); clear ho hb hg hat))
  go_loopg [5, 6] k (fun kq v5 v6 w' => ∃ (x5_1 : List (S51)) (x6_1 : Int), v6 = .int .i64 x6_1 ∧ Qaa (Qaw.l0 kq l0 l1 x5_1 x6_1 = some r) ∧ Qaa (kq ≤ k) ∧ Qaa (Kd.R k51 51 w' w.heap.size (fun _ => True) v5 x5_1) ∧ Qaa (Below w.heap.size w w'))
  case atStart => exact ⟨(y101), (0), (by first | rfl | (simp; done) | (simp [*]; done)), H', ⟨Nat.le_refl _⟩, ⟨by (with_reducible repeat (first | apply Kd.QaM | apply Kd.QaP | apply Kd.QaO)); exact HO103.out⟩, ⟨bw_⟩⟩
  case round =>
   clear H'; (try clear c1); (try clear c2); (try clear p2); (try clear c3); obtain ⟨x5_1, x6_1, rfl, HA, HK1, HO_5, HB⟩ := hrel
   cases gk with
   | zero => exact absurd HA.out (by simp [Qaw.l0])
   | succ k1 =>
    have H := HA.out; clear HA; simp only [Qaw.l0] at H
    by_cases c5 : x6_1 < (l0.length : Int)
    ·rw [if_pos c5] at H; have c5b0 : decide (x6_1 < (l0.length : Int)) = true := decide_eq_true c5; clear c5
     by_cases c6 : 0 ≤ x6_1
     ·rw [if_pos c6] at H; have c6b0 : decide (0 ≤ x6_1) = true := decide_eq_true c6; clear c6; replace H := Option.bind_eq_some_iff.mp H; obtain ⟨t105, A70, H⟩ := H; replace H : (Qaw.l1 k1 l0 l1 x5_1 x6_1 t105 0) = some r := H; have A7 := Qaa.mk A70; clear A70; have H' := Qaa.mk H; clear H; have p104 : 0 ≤ (x6_1 : Int) := dd_; have q104 : x6_1 < (l0.length : Int) := dd_; obtain ⟨ad104, e104, hx104_0, hx104_1, hx104_2, hx104_3, hx104_4, hx104_5, hx104_6, hx104_7, hx104_8⟩ := Qcs HR0.out x6_1 p104 q104; cases e104; replace hx104_0 := cb_ HB hx104_0; replace hx104_1 := cb_ HB hx104_1; replace hx104_2 := cb_ HB hx104_2; replace hx104_3 := cb_ HB hx104_3; replace hx104_4 := cb_ HB hx104_4; replace hx104_5 := cb_ HB hx104_5; replace hx104_6 := cb_ HB hx104_6; replace hx104_7 := cb_ HB hx104_7; replace hx104_8 := cb_ HB hx104_8; replace p104 := eq_true p104; replace q104 := eq_true q104
      go_wp2_with (first | ((with_reducible refine QaC (f := 41) rfl ?_); refine gL 24 Tryz.func41 #[.agg #[.int .i64 ((Qah l0 x6_1).f0.f0), .int .i64 ((Qah l0 x6_1).f0.f1), .string ((Qah l0 x6_1).f1), .int .i64 ((Qah l0 x6_1).f2), .string ((Qah l0 x6_1).f3), .string ((Qah l0 x6_1).f4.f0), .string ((Qah l0 x6_1).f4.f1), .string ((Qah l0 x6_1).f5.f0), .string ((Qah l0 x6_1).f5.f1)], .slice A1 l1.length c1] ?_; (with_reducible refine (Qac.calls k1 ((Qah l0 x6_1).f0.f0) ((Qah l0 x6_1).f0.f1) ((Qah l0 x6_1).f1) ((Qah l0 x6_1).f2) ((Qah l0 x6_1).f3) ((Qah l0 x6_1).f4.f0) ((Qah l0 x6_1).f4.f1) ((Qah l0 x6_1).f5.f0) ((Qah l0 x6_1).f5.f1) _ _ l1 t105 _ ?side1 ?side2 A7.out).mono ?_); (case side1 => exact kd_ (Kd.Qbe HR1.out HB.out)); (case side2 => exact HC1.out); rintro e w8 ⟨v106, rfl, ho0, hb⟩; refine ⟨_, rfl, ?_⟩; have HO107 := Qaa.mk (Kd.Qa8 (Kd.R_new' ho0 (Kd.R_lt (ro_ HO_5))) (QaI bw_)); replace HO_5 := Qaa.mk (Kd.QbP (ro_ HO_5) (Kd.Qco ho0) hb); replace HB := Qaa.mk (Qag bw_ hb); (try clear hb); (try clear hb2); (try clear hk); (try clear hi); (try clear ho0)))
      go_loopg [5, 8] k1 (fun kq v5 v8 w' => ∃ (x5_2 : List (S51)) (x8_2 : Int), v8 = .int .i64 x8_2 ∧ Qaa (Qaw.l1 kq l0 l1 x5_2 x6_1 t105 x8_2 = some r) ∧ Qaa (kq ≤ k1) ∧ Qaa (Kd.R k51 51 w' w.heap.size (fun k_ => some k_ ≠ (v106 : Value).ownBlock) v5 x5_2) ∧ Qaa (Kd.R k51 51 w' w.heap.size (fun k_ => some k_ ≠ (v5 : Value).ownBlock) v106 t105) ∧ Qaa (Below w.heap.size w w'))
      case atStart => exact ⟨(x5_1), (0), (by first | rfl | (simp; done) | (simp [*]; done)), H', ⟨Nat.le_refl _⟩, ⟨by (with_reducible repeat (first | apply Kd.QaM | apply Kd.QaP | apply Kd.QaO)); exact Kd.Qa2 HO_5.out (fun _ hk => hk.2)⟩, ⟨by (with_reducible repeat (first | apply Kd.QaM | apply Kd.QaP | apply Kd.QaO)); exact Kd.Qa2 HO107.out (fun _ hk => hk.2)⟩, ⟨bw_⟩⟩
      case round =>
       clear H'; (try clear c1); (try clear p1); (try clear q1); (try clear hx1); (try clear c2); (try clear p2); (try clear c3); (try clear c4); (try clear c5); (try clear c5b0); (try clear c6); (try clear c6b0); (try clear hx104_0); (try clear hx104_1); (try clear hx104_2); (try clear hx104_3); (try clear hx104_4); (try clear hx104_5); (try clear hx104_6); (try clear hx104_7); (try clear hx104_8); (try clear p104); (try clear p2); (try clear q104); obtain ⟨x5_2, x8_2, rfl, HA, HK2, HO_5, HO_7, HB⟩ := hrel
       cases gk with
       | zero => exact absurd HA.out (by simp [Qaw.l1])
       | succ k2 =>
        have H := HA.out; clear HA; simp only [Qaw.l1] at H
        by_cases c9 : x8_2 < (t105.length : Int)
        ·rw [if_pos c9] at H; have c9b0 : decide (x8_2 < (t105.length : Int)) = true := decide_eq_true c9; clear c9
         by_cases c10 : 0 ≤ x8_2
         ·rw [if_pos c10] at H; have c10b0 : decide (0 ≤ x8_2) = true := decide_eq_true c10; clear c10; replace H := Option.bind_eq_some_iff.mp H; obtain ⟨t109, A110, H⟩ := H; replace H : (if t109 = true then (Qaw.l1 k2 l0 l1 x5_2 x6_1 t105 (wrap64 (x8_2 + 1))) else (if x5_2.length < 2932031007402 then (Qaw.l1 k2 l0 l1 (x5_2 ++ [(⟨(⟨(Qaq t105 x8_2).f0.f0, (Qaq t105 x8_2).f0.f1⟩ : S24), (Qaq t105 x8_2).f1⟩ : S51)]) x6_1 t105 (wrap64 (x8_2 + 1))) else (none))) = some r := H; have A11 := Qaa.mk A110; clear A110
          by_cases c12 : t109 = true
          ·subst c12
           have H1 : (Qaw.l1 k2 l0 l1 x5_2 x6_1 t105 (wrap64 (x8_2 + 1))) = some r := by rw [if_pos rfl] at H; exact H
           clear H; have H := H1; clear H1; have H' := Qaa.mk H; clear H; obtain ⟨Ao13, co13, eo13⟩ := Kd.Qa4 HO_7.out; subst eo13; have p108 : 0 ≤ (x8_2 : Int) := dd_; have q108 : x8_2 < (t105.length : Int) := dd_; obtain ⟨ad108, e108, hx108_0, hx108_1, hx108_2⟩ := Qb7 (Kd.QaG HO_7.out).2.2 x8_2 p108 q108; cases e108; replace p108 := eq_true p108; replace q108 := eq_true q108; obtain ⟨Ao14, co14, eo14⟩ := Kd.Qa4 HO_5.out; subst eo14
           go_wp2_with (first | ((with_reducible refine QaC (f := 23) rfl ?_); refine gL 36 Tryz.func23 #[.slice Ao14 x5_2.length co14, .agg #[.string ((Qaq t105 x8_2).f0.f0), .string ((Qaq t105 x8_2).f0.f1), .string ((Qaq t105 x8_2).f1)]] ?_; (with_reducible refine (Qau.calls k2 _ _ x5_2 ((Qaq t105 x8_2).f0.f0) ((Qaq t105 x8_2).f0.f1) ((Qaq t105 x8_2).f1) true _ ?side1 ?side2 A11.out).mono ?_); (case side1 => exact kd_ ((Kd.QaG HO_5.out).2.2)); (case side2 => exact (Kd.QaG HO_5.out).2.1); rintro e w15 ⟨rfl, hb⟩; refine ⟨_, rfl, ?_⟩; replace HO_5 := Qaa.mk (Kd.QaJ (ro_ HO_5) hb); replace HO_7 := Qaa.mk (Kd.QaJ (ro_ HO_7) hb); replace HB := Qaa.mk (Qag bw_ hb); (try clear hb); (try clear hb2); (try clear hk); (try clear hi)))
           go_roundg k2
           case measure => have := HK1.out; have := HK2.out; omega
           case rel => exact ⟨(x5_2), (wrap64 (x8_2 + 1)), (by first | rfl | (simp; done) | (simp [*]; done)), H', ⟨by have := HK1.out; have := HK2.out; omega⟩, ⟨by (with_reducible repeat (first | apply Kd.QaM | apply Kd.QaP | apply Kd.QaO)); exact HO_5.out⟩, ⟨by (with_reducible repeat (first | apply Kd.QaM | apply Kd.QaP | apply Kd.QaO)); exact HO_7.out⟩, ⟨bw_⟩⟩
          ·replace c12 := Bool.eq_false_iff.mpr c12; subst c12
           have H1 : (if x5_2.length < 2932031007402 then (Qaw.l1 k2 l0 l1 (x5_2 ++ [(⟨(⟨(Qaq t105 x8_2).f0.f0, (Qaq t105 x8_2).f0.f1⟩ : S24), (Qaq t105 x8_2).f1⟩ : S51)]) x6_1 t105 (wrap64 (x8_2 + 1))) else (none)) = some r := by rw [if_neg (show ¬ (false = true) by decide)] at H; exact H
           clear H; have H := H1; clear H1
           by_cases c16 : x5_2.length < 2932031007402
           ·rw [if_pos c16] at H; have LMc16 := Qaa.mk c16; clear c16
            obtain ⟨y111, hy111⟩ : ∃ y_ : List (S51), y_ = (x5_2 ++ [(⟨(⟨(Qaq t105 x8_2).f0.f0, (Qaq t105 x8_2).f0.f1⟩ : S24), (Qaq t105 x8_2).f1⟩ : S51)]) := ⟨_, rfl⟩
            replace H : (Qaw.l1 k2 l0 l1 y111 x6_1 t105 (wrap64 (x8_2 + 1))) = some r := by first | (rw [hy111]; with_reducible exact H) | (have H2_ := (Option.bind_some _ _).symm.trans H; rw [hy111]; with_reducible exact H2_) | (have H2_ := (Option.bind_some _ _).symm.trans H; with_reducible exact H2_) | with_reducible exact H | (rw [hy111]; exact H) | exact H
            have Ny111 := Qaa.mk hy111; clear hy111; have H' := Qaa.mk H; clear H; obtain ⟨Ao17, co17, eo17⟩ := Kd.Qa4 HO_7.out; subst eo17; have p108 : 0 ≤ (x8_2 : Int) := dd_; have q108 : x8_2 < (t105.length : Int) := dd_; obtain ⟨ad108, e108, hx108_0, hx108_1, hx108_2⟩ := Qb7 (Kd.QaG HO_7.out).2.2 x8_2 p108 q108; cases e108; replace p108 := eq_true p108; replace q108 := eq_true q108; obtain ⟨Ao18, co18, eo18⟩ := Kd.Qa4 HO_5.out; subst eo18
            go_wp2_with (first | ((with_reducible refine QaC (f := 23) rfl ?_); refine gL 36 Tryz.func23 #[.slice Ao18 x5_2.length co18, .agg #[.string ((Qaq t105 x8_2).f0.f0), .string ((Qaq t105 x8_2).f0.f1), .string ((Qaq t105 x8_2).f1)]] ?_; (with_reducible refine (Qau.calls k2 _ _ x5_2 ((Qaq t105 x8_2).f0.f0) ((Qaq t105 x8_2).f0.f1) ((Qaq t105 x8_2).f1) false _ ?side1 ?side2 A11.out).mono ?_); (case side1 => exact kd_ ((Kd.QaG HO_5.out).2.2)); (case side2 => exact (Kd.QaG HO_5.out).2.1); rintro e w19 ⟨rfl, hb⟩; refine ⟨_, rfl, ?_⟩; replace HO_5 := Qaa.mk (Kd.QaJ (ro_ HO_5) hb); replace HO_7 := Qaa.mk (Kd.QaJ (ro_ HO_7) hb); replace HB := Qaa.mk (Qag bw_ hb); (try clear hb); (try clear hb2); (try clear hk); (try clear hi); have p110 : 0 ≤ (x8_2 : Int) := dd_; have q110 : x8_2 < (t105.length : Int) := dd_; obtain ⟨ad110, e110, hx110_0, hx110_1, hx110_2⟩ := Qb7 (Kd.QaG HO_7.out).2.2 x8_2 p110 q110; obtain rfl : ad108 = ad110 := (by injection e110); replace p110 := eq_true p110; replace q110 := eq_true q110) | ((with_reducible refine Qbj (b := .append) (xs := #[.tmp 39, .tmp 44]) rfl ?_); at_builtin; refine Kd.Qcu k51 (w0 := w) w.heap.size rfl (.tmp 39) (.tmp 44) 48 51 (.agg #[(.string ⟨#[]⟩), (.string ⟨#[]⟩), (.string ⟨#[]⟩)]) 48 rfl Tryz.underlying48 info51 rfl (by decide) (by omega) (.slice Ao18 x5_2.length co18) x5_2 (⟨(⟨(Qaq t105 x8_2).f0.f0, (Qaq t105 x8_2).f0.f1⟩ : S24), (Qaq t105 x8_2).f1⟩ : S51) [.string ((Qaq t105 x8_2).f0.f0), .string ((Qaq t105 x8_2).f0.f1), .string ((Qaq t105 x8_2).f1)] (fun k_ => some k_ ≠ (.slice (some ad108) t105.length co17 : Value).ownBlock) (fun _ => False) rfl rfl ?aP (fun _ hk => hk.elim) ?aF ?aO ?aB ?aS ?aL ?_; (case aP => exact k51_mkM _ _ _ (⟨(⟨(Qaq t105 x8_2).f0.f0, (Qaq t105 x8_2).f0.f1⟩ : S24), (Qaq t105 x8_2).f1⟩ : S51)); (case aB => exact bw_); (case aF => exact (fun k_ hk => Kd.fresh' (Kd.R_lt (ro_ HO_7)) k_ hk)); (case aO => exact (ro_ HO_5)); (case aS => exact (QaI bw_)); (case aL => have := LMc16.out; omega); intro v112 w20 ho hb hg hat; rw [← Ny111.out] at ho; have n0_ := Qaa.mk (Kd.R_after (ok := (fun _ => True)) (by (with_reducible repeat (first | apply Kd.QaM | apply Kd.QaP | apply Kd.QaO)); exact Kd.Qa2 HO_7.out (fun _ hk => ⟨trivial, hk⟩)) hg hat); have n1_ := Qaa.mk (hb); have n2_ := Qaa.mk (ho); clear HO_7; clear HB; clear HO_5; have HO_7 := n0_; have HB := n1_; have HO113 := n2_; clear n0_ n1_ n2_; clear ho hb hg hat))
            go_roundg k2
            case measure => have := HK1.out; have := HK2.out; omega
            case rel => exact ⟨(y111), (wrap64 (x8_2 + 1)), (by first | rfl | (simp; done) | (simp [*]; done)), H', ⟨by have := HK1.out; have := HK2.out; omega⟩, ⟨by (with_reducible repeat (first | apply Kd.QaM | apply Kd.QaP | apply Kd.QaO)); exact HO113.out⟩, ⟨by (with_reducible repeat (first | apply Kd.QaM | apply Kd.QaP | apply Kd.QaO)); exact Kd.Qa2 HO_7.out (fun _ hk => hk.2)⟩, ⟨bw_⟩⟩
           ·rw [if_neg c16] at H; exact absurd H (by simp)
         ·rw [if_neg c10] at H; exact absurd H (by simp)
        ·rw [if_neg c9] at H; have c9b0 : decide (x8_2 < (t105.length : Int)) = false := decide_eq_false c9; clear c9; have H' := Qaa.mk H; clear H; obtain ⟨Ao21, co21, eo21⟩ := Kd.Qa4 HO_7.out; subst eo21; go_wp2
         go_roundg k2
         case measure => have := HK1.out; have := HK2.out; omega
         case rel => exact ⟨(x5_2), (wrap64 (x6_1 + 1)), (by first | rfl | (simp; done) | (simp [*]; done)), H', ⟨by have := HK1.out; have := HK2.out; omega⟩, ⟨by (with_reducible repeat (first | apply Kd.QaM | apply Kd.QaP | apply Kd.QaO)); exact Kd.Qa2 HO_5.out (fun _ hk => trivial)⟩, ⟨bw_⟩⟩
     ·rw [if_neg c6] at H; exact absurd H (by simp)
    ·rw [if_neg c5] at H; have c5b0 : decide (x6_1 < (l0.length : Int)) = false := decide_eq_false c5; clear c5; obtain rfl := Option.some.inj H; go_wp2; go_ret; exact ⟨_, by first | rfl | (simp [Qat, Qas] <;> rfl) | (simp [*, Qat, Qas] <;> rfl), by (with_reducible repeat (first | apply Kd.QaM | apply Kd.QaP | apply Kd.QaO)); exact HO_5.out, bw_⟩
 ·rw [if_neg c3] at H; exact absurd H (by simp)

mutual
def Qal.l0 : Nat → List (S46) → List (S51) → Option ((List (S51)))
 | 0, _, _ => none
 | k + 1, x3, x4 => (Qaw.f k x3 x4).bind fun t104 => (if (t104.length : Int) = (x4.length : Int) then (Qal.l1 k x4 ([] : List (S51))) else (Qal.l0 k x3 t104))
def Qal.l1 : Nat → List (S51) → List (S51) → Option ((List (S51)))
 | 0, _, _ => none
 | k + 1, x4, x6 => if (x4.length : Int) > 0 then (Qal.l2 k x4 x6 0 1) else (some x6)
def Qal.l2 : Nat → List (S51) → List (S51) → Int → Int → Option ((List (S51)))
 | 0, _, _, _, _ => none
 | k + 1, x4, x6, x7, x8 => if x8 < (x4.length : Int) then (if 0 ≤ x8 then (if 0 ≤ x7 then (if x7 < (x4.length : Int) then ((QbA.f ((Qaq x4 x8).f0.f0) ((Qaq x4 x8).f0.f1) ((Qaq x4 x8).f1) ((Qaq x4 x7).f0.f0) ((Qaq x4 x7).f0.f1) ((Qaq x4 x7).f1)).bind fun t109 => (if t109 = true then (Qal.l2 k x4 x6 x8 (wrap64 (x8 + 1))) else (Qal.l2 k x4 x6 x7 (wrap64 (x8 + 1))))) else (none)) else (none)) else (none)) else (if 0 ≤ x7 then (if x7 < (x4.length : Int) then (if x6.length < 2932031007402 then (if x7 ≤ (x4.length : Int) then ((some (x4.take (x7 : Int).toNat : List (S51))).bind fun y114 => (if ([] : List (S51)).length + y114.length < 2932031007402 then ((some (([] : List (S51)) ++ y114 : List (S51))).bind fun y118 => (if 0 ≤ (wrap64 (x7 + 1)) then (if (wrap64 (x7 + 1)) ≤ (x4.length : Int) then ((some (x4.drop ((wrap64 (x7 + 1)) : Int).toNat : List (S51))).bind fun y121 => (if y118.length + y121.length < 2932031007402 then (Qal.l1 k (y118 ++ y121) (x6 ++ [(⟨(⟨(Qaq x4 x7).f0.f0, (Qaq x4 x7).f0.f1⟩ : S24), (Qaq x4 x7).f1⟩ : S51)])) else (none))) else (none)) else (none))) else (none))) else (none)) else (none)) else (none)) else (none))
end
def Qal.f (k : Nat) (l0 : List (S46)) : Option ((List (S51))) := (Qar.f k l0).bind fun t101 => (Qal.l0 k t101 ([] : List (S51)))
def Qal.T12 : Bool × List (List Nat × List Nat) := (true, [([], []), ([], []), ([0, 1], [0, 1]), ([2], [2]), ([], []), ([], []), ([4, 5], [4, 5]), ([6], [6]), ([3, 7], [3, 7])])
def Qal.B12 : List Nat := [0, 0, 3, 7, 0, 0, 48, 112, 255]
theorem Qal.tab12 : rtab .any (opsOf Tryz.f21 12) = Qal.T12 := by kernel_rfl
theorem Qal.bits12 : waitsOk Qal.T12.2 Qal.B12 = true := by kernel_rfl
set_option maxHeartbeats 8000000 in
set_option maxRecDepth 100000 in
theorem Qal.calls (k : Nat) (A0 : Option Addr) (c0 : Nat) (l0 : List (S46)) (r : List (S51)) (w : World) (hr0 : Kd.C k46 w A0 l0.length l0) (hc0 : l0.length ≤ c0) (h : Qal.f k l0 = some r) :
  Calls Tryz.prog 21 #[.slice A0 l0.length c0] w fun e w' => ∃ v0_ : Value, e = .returned (v0_) ∧ Kd.R k51 51 w' w.heap.size (fun _ => True) v0_ r ∧ Below w.heap.size w w' := by
 have hu51 := Tryz.underlying51; have HR0 := Qaa.mk hr0; have HC0 := Qaa.mk hc0; clear hr0 hc0; have HB := Qaa.mk (Below.refl w.heap.size w); have H : ((Qar.f k l0).bind fun t101 => (Qal.l0 k t101 ([] : List (S51)))) = some r := h; clear h; replace H := Option.bind_eq_some_iff.mp H; obtain ⟨t101, A20, H⟩ := H; replace H : (Qal.l0 k t101 ([] : List (S51))) = some r := H; have A2 := Qaa.mk A20; clear A20; have H' := Qaa.mk H; clear H; go_enter Tryz.func21, Tryz.ntmps21
 go_wp2_with (first | ((with_reducible refine QaC (f := 18) rfl ?_); refine gL 11 Tryz.func18 #[.slice A0 l0.length c0] ?_; (with_reducible refine (Qar.calls k _ _ l0 t101 _ ?side1 ?side2 A2.out).mono ?_); (case side1 => repeat (first | exact HR0.out | (with_reducible refine Kd.C_alloc ?_ _) | (with_reducible refine Kd.C_drewN ?_ _) | (with_reducible refine Kd.C_drew ?_))); (case side2 => exact HC0.out); rintro e w3 ⟨v102, rfl, ho0, hb⟩; refine ⟨_, rfl, ?_⟩; have HO103 := Qaa.mk (Kd.Qa8 ho0 (QaI bw_)); replace HB := Qaa.mk (Qag bw_ hb); (try clear hb); (try clear hb2); (try clear hk); (try clear hi); (try clear ho0)))
 go_loopg [4] k (fun kq v4 w' => ∃ (x4_1 : List (S51)), Qaa (Qal.l0 kq t101 x4_1 = some r) ∧ Qaa (kq ≤ k) ∧ Qaa (Kd.R k46 46 w' w.heap.size (fun _ => True) v102 t101) ∧ Qaa (Kd.R k51 51 w' w.heap.size (fun _ => True) v4 x4_1) ∧ Qaa (Below w.heap.size w w'))
 case atStart => exact ⟨(([] : List (S51))), H', ⟨Nat.le_refl _⟩, ⟨by (with_reducible repeat (first | apply Kd.QaM | apply Kd.QaP | apply Kd.QaO)); exact HO103.out⟩, ⟨by first | exact Kd.Qci _ _ _ _ _ | exact Kd.N_nil _ _ _ _ _ | exact Kd.V_nil _ _ _ _ _ | exact Kd.Q_nil _ _ _ _ _ | exact Kd.S_nil _ _ _ _ _⟩, ⟨bw_⟩⟩
 case round =>
  clear H'; (try clear c1); (try clear c2); (try clear p2); obtain ⟨x4_1, HA, HK1, HO_3, HO_4, HB⟩ := hrel
  cases gk with
  | zero => exact absurd HA.out (by simp [Qal.l0])
  | succ k1 =>
   have H := HA.out; clear HA; simp only [Qal.l0] at H; replace H := Option.bind_eq_some_iff.mp H; obtain ⟨t104, A40, H⟩ := H; replace H : (if (t104.length : Int) = (x4_1.length : Int) then (Qal.l1 k1 x4_1 ([] : List (S51))) else (Qal.l0 k1 t101 t104)) = some r := H; have A4 := Qaa.mk A40; clear A40
   by_cases c5 : (t104.length : Int) = (x4_1.length : Int)
   ·rw [if_pos c5] at H; have c5b0 : ((t104.length : Int) == (x4_1.length : Int)) = true := beq_iff_eq.mpr c5; have c5b1 : ((t104.length : Int) != (x4_1.length : Int)) = false := bne_eq_false_iff_eq.mpr c5
    have c5b2 : (t104.length == x4_1.length) = true := by first | simpa using c5 | (simp at c5 ⊢; omega)
    clear c5; have H' := Qaa.mk H; clear H; obtain ⟨Ao6, co6, eo6⟩ := Kd.Qa4 HO_3.out; subst eo6; obtain ⟨Ao7, co7, eo7⟩ := Kd.Qa4 HO_4.out; subst eo7
    go_wp2_with (first | ((with_reducible refine QaC (f := 27) rfl ?_); refine gL 14 Tryz.func27 #[.slice Ao6 t101.length co6, .slice Ao7 x4_1.length co7] ?_; (with_reducible refine (Qaw.calls k1 _ _ t101 _ _ x4_1 t104 _ ?side1 ?side2 ?side3 ?side4 A4.out).mono ?_); (case side1 => exact kd_ ((Kd.QaG HO_3.out).2.2)); (case side2 => exact (Kd.QaG HO_3.out).2.1); (case side3 => exact kd_ ((Kd.QaG HO_4.out).2.2)); (case side4 => exact (Kd.QaG HO_4.out).2.1); rintro e w8 ⟨v105, rfl, ho0, hb⟩; refine ⟨_, rfl, ?_⟩; have HO106 := Qaa.mk (Kd.Qa8 (Kd.R_new' ho0 (Kd.R_lt (ro_ HO_4))) (QaI bw_)); replace HO_3 := Qaa.mk (Kd.QaJ (ro_ HO_3) hb); replace HO_4 := Qaa.mk (Kd.QbP (ro_ HO_4) (Kd.Qco ho0) hb); replace HB := Qaa.mk (Qag bw_ hb); (try clear hb); (try clear hb2); (try clear hk); (try clear hi); (try clear ho0); obtain ⟨Ao9, co9, eo9⟩ := Kd.Qa4 HO106.out; subst eo9))
    go_loopg [4, 6] k1 (fun kq v4 v6 w' => ∃ (x4_2 : List (S51)) (x6_2 : List (S51)), Qaa (Qal.l1 kq x4_2 x6_2 = some r) ∧ Qaa (kq ≤ k1) ∧ Qaa (Kd.R k51 51 w' w.heap.size (fun k_ => some k_ ≠ (v6 : Value).ownBlock) v4 x4_2) ∧ Qaa (Kd.R k51 51 w' w.heap.size (fun k_ => some k_ ≠ (v4 : Value).ownBlock) v6 x6_2) ∧ Qaa (Below w.heap.size w w'))
    case atStart => exact ⟨(x4_1), (([] : List (S51))), H', ⟨Nat.le_refl _⟩, ⟨by (with_reducible repeat (first | apply Kd.QaM | apply Kd.QaP | apply Kd.QaO)); exact Kd.Qa2 HO_4.out (fun _ hk => (by simp [Value.ownBlock]))⟩, ⟨by first | exact Kd.Qci _ _ _ _ _ | exact Kd.N_nil _ _ _ _ _ | exact Kd.V_nil _ _ _ _ _ | exact Kd.Q_nil _ _ _ _ _ | exact Kd.S_nil _ _ _ _ _⟩, ⟨bw_⟩⟩
    case round =>
     clear H'; (try clear c1); (try clear c2); (try clear p2); (try clear c5); (try clear c5b0); (try clear c5b1); (try clear c5b2); (try clear p2); obtain ⟨x4_2, x6_2, HA, HK2, HO_4, HO_6, HB⟩ := hrel
     cases gk with
     | zero => exact absurd HA.out (by simp [Qal.l1])
     | succ k2 =>
      have H := HA.out; clear HA; simp only [Qal.l1] at H
      by_cases c10 : (x4_2.length : Int) > 0
      ·rw [if_pos c10] at H; have c10b0 : decide (0 < (x4_2.length : Int)) = true := decide_eq_true c10; have c10b1 : decide (0 < x4_2.length) = true := decide_eq_true (by omega); clear c10; have H' := Qaa.mk H; clear H; obtain ⟨Ao11, co11, eo11⟩ := Kd.Qa4 HO_4.out; subst eo11; go_wp2
       go_loopg [7, 8] k2 (fun kq v7 v8 w' => ∃ (x7_3 : Int) (x8_3 : Int), v7 = .int .i64 x7_3 ∧ v8 = .int .i64 x8_3 ∧ Qaa (Qal.l2 kq x4_2 x6_2 x7_3 x8_3 = some r) ∧ Qaa (kq ≤ k2) ∧ Qaa (Kd.R k51 51 w' w.heap.size (fun k_ => some k_ ≠ (u6 : Value).ownBlock) (.slice Ao11 x4_2.length co11) x4_2) ∧ Qaa (Kd.R k51 51 w' w.heap.size (fun k_ => some k_ ≠ ((.slice Ao11 x4_2.length co11) : Value).ownBlock) u6 x6_2) ∧ Qaa (Below w.heap.size w w'))
       case atStart => exact ⟨(0), (1), (by first | rfl | (simp; done) | (simp [*]; done)), (by first | rfl | (simp; done) | (simp [*]; done)), H', ⟨Nat.le_refl _⟩, ⟨by (with_reducible repeat (first | apply Kd.QaM | apply Kd.QaP | apply Kd.QaO)); exact HO_4.out⟩, ⟨by (with_reducible repeat (first | apply Kd.QaM | apply Kd.QaP | apply Kd.QaO)); exact HO_6.out⟩, ⟨bw_⟩⟩
       case round =>
        clear H'; (try clear c1); (try clear c2); (try clear p2); (try clear c5); (try clear c5b0); (try clear c5b1); (try clear c5b2); (try clear c10); (try clear c10b0); (try clear c10b1); (try clear p2); obtain ⟨x7_3, x8_3, rfl, rfl, HA, HK3, HO_4, HO_6, HB⟩ := hrel
        cases gk with
        | zero => exact absurd HA.out (by simp [Qal.l2])
        | succ k3 =>
         have H := HA.out; clear HA; simp only [Qal.l2] at H
         by_cases c12 : x8_3 < (x4_2.length : Int)
         ·rw [if_pos c12] at H; have c12b0 : decide (x8_3 < (x4_2.length : Int)) = true := decide_eq_true c12; clear c12
          by_cases c13 : 0 ≤ x8_3
          ·rw [if_pos c13] at H; have c13b0 : decide (0 ≤ x8_3) = true := decide_eq_true c13; clear c13
           by_cases c14 : 0 ≤ x7_3
           ·rw [if_pos c14] at H; have c14b0 : decide (0 ≤ x7_3) = true := decide_eq_true c14; clear c14
            by_cases c15 : x7_3 < (x4_2.length : Int)
            ·rw [if_pos c15] at H; have c15b0 : decide (x7_3 < (x4_2.length : Int)) = true := decide_eq_true c15; clear c15; replace H := Option.bind_eq_some_iff.mp H; obtain ⟨t109, A160, H⟩ := H; replace H : (if t109 = true then (Qal.l2 k3 x4_2 x6_2 x8_3 (wrap64 (x8_3 + 1))) else (Qal.l2 k3 x4_2 x6_2 x7_3 (wrap64 (x8_3 + 1)))) = some r := H; have A16 := Qaa.mk A160; clear A160
             by_cases c17 : t109 = true
             ·subst c17
              have H1 : (Qal.l2 k3 x4_2 x6_2 x8_3 (wrap64 (x8_3 + 1))) = some r := by rw [if_pos rfl] at H; exact H
              clear H; have H := H1; clear H1; have H' := Qaa.mk H; clear H
              try go_wp2
              replace HO_4 := Qaa.mk (Kd.QaO HO_4.out); replace HO_6 := Qaa.mk (Kd.QaO HO_6.out); replace HB := Qaa.mk (Qam HB.out); have p107 : 0 ≤ (x8_3 : Int) := dd_; have q107 : x8_3 < (x4_2.length : Int) := dd_; obtain ⟨ad107, e107, hx107_0, hx107_1, hx107_2⟩ := Qb7 (Kd.QaG HO_4.out).2.2 x8_3 p107 q107; cases e107; replace p107 := eq_true p107; replace q107 := eq_true q107; have p108 : 0 ≤ (x7_3 : Int) := dd_; have q108 : x7_3 < (x4_2.length : Int) := dd_; obtain ⟨ad108, e108, hx108_0, hx108_1, hx108_2⟩ := Qb7 (Kd.QaG HO_4.out).2.2 x7_3 p108 q108
              obtain rfl : ad107 = ad108 := (by injection e108)
              replace p108 := eq_true p108; replace q108 := eq_true q108; refine Qbt (n := 9) (S := fun w' => cr_sss w' (ad107.add ((x8_3).toNat * 3)) ((Qaq x4_2 x8_3).f0.f0) ((Qaq x4_2 x8_3).f0.f1) ((Qaq x4_2 x8_3).f1) (crl_sss w' (ad107.add ((x7_3).toNat * 3)) ((Qaq x4_2 x7_3).f0.f0) ((Qaq x4_2 x7_3).f0.f1) ((Qaq x4_2 x7_3).f1))) (ds := []) #[ff,ff,ff,ff,ff,ff,ff,ff,ff] (by kernel_rfl) rfl rfl ⟨hx107_0, hx107_1, hx107_2, hx108_0, hx108_1, hx108_2⟩ (fun hHeld => ?_); refine Qbh Qal.tab12 Qal.bits12 (fun HT_ HW_ => ?_)
              generalize wr.drew = w18 at HO_4 HO_6 HB hx107_0 hx107_1 hx107_2 hx108_0 hx108_1 hx108_2 hHeld ⊢
              refine pz 0 30 ?_; refine pz 1 31 ?_; refine pz 2 32 ?_; refine pz 4 34 ?_; refine pz 5 35 ?_; refine pz 6 36 ?_; refine tk6 3 33 ?_; refine tk6 7 37 ?_; refine one_ (i := 8) (N := some 38) #[tt,tt,tt,tt,tt,tt,tt,tt,tt] rfl rfl (Qbx HT_.out (by kernel_rfl)) (by decide) (fun K hK => ?_); refine QbY Tryz.func35 (by kernel_rfl) rfl #[.agg #[.string ((Qaq x4_2 x8_3).f0.f0), .string ((Qaq x4_2 x8_3).f0.f1), .string ((Qaq x4_2 x8_3).f1)], .agg #[.string ((Qaq x4_2 x7_3).f0.f0), .string ((Qaq x4_2 x7_3).f0.f1), .string ((Qaq x4_2 x7_3).f1)]] (by rfl) rfl rfl (by (try simp only [List.map_toArray, List.map_cons, List.map_nil]); first | done | rfl | (simp only [List.length_drop, List.length_take]; rfl)) ?_
              with_reducible refine (QbA.calls ((Qaq x4_2 x8_3).f0.f0) ((Qaq x4_2 x8_3).f0.f1) ((Qaq x4_2 x8_3).f1) ((Qaq x4_2 x7_3).f0.f0) ((Qaq x4_2 x7_3).f0.f1) ((Qaq x4_2 x7_3).f1) true _ A16.out).mono ?_
              rintro e w19 ⟨rfl, hb⟩; have HS0_ := cc_ hb hHeld.1; have HS1_ := cc_ hb hHeld.2.1; have HS2_ := cc_ hb hHeld.2.2.1; have HS3_ := cc_ hb hHeld.2.2.2.1; have HS4_ := cc_ hb hHeld.2.2.2.2.1; have HS5_ := cc_ hb hHeld.2.2.2.2.2; refine ⟨_, rfl, ?_⟩; replace HO_4 := Qaa.mk (Kd.QaJ (ro_ HO_4) hb); replace HO_6 := Qaa.mk (Kd.QaJ (ro_ HO_6) hb); replace HB := Qaa.mk (Qag bw_ hb)
              (try clear hb)
              (try clear hb2)
              (try clear hk)
              (try clear hi)
              refine hK.out _ _ ⟨HS0_, HS1_, HS2_, HS3_, HS4_, HS5_⟩ (fun hHeld => ?_); clear hK K; refine Qbu (a' := ?_) ?_ ?_; rotate_left
              ·show Act.put _ (some 38) _ = _
               simp only [Act.put, put_, Qbl, Qbm]; rfl
              refine QbK (Qbz HT_.out (by kernel_rfl)) ?_
              try go_wp2
              go_roundg k3
              case measure => have := HK1.out; have := HK2.out; have := HK3.out; omega
              case rel => exact ⟨(x8_3), (wrap64 (x8_3 + 1)), (by first | rfl | (simp; done) | (simp [*]; done)), (by first | rfl | (simp; done) | (simp [*]; done)), H', ⟨by have := HK1.out; have := HK2.out; have := HK3.out; omega⟩, ⟨by (with_reducible repeat (first | apply Kd.QaM | apply Kd.QaP | apply Kd.QaO)); exact HO_4.out⟩, ⟨by (with_reducible repeat (first | apply Kd.QaM | apply Kd.QaP | apply Kd.QaO)); exact HO_6.out⟩, ⟨bw_⟩⟩
             ·replace c17 := Bool.eq_false_iff.mpr c17; subst c17
              have H1 : (Qal.l2 k3 x4_2 x6_2 x7_3 (wrap64 (x8_3 + 1))) = some r := by rw [if_neg (show ¬ (false = true) by decide)] at H; exact H
              clear H; have H := H1; clear H1; have H' := Qaa.mk H; clear H
              try go_wp2
              replace HO_4 := Qaa.mk (Kd.QaO HO_4.out); replace HO_6 := Qaa.mk (Kd.QaO HO_6.out); replace HB := Qaa.mk (Qam HB.out); have p107 : 0 ≤ (x8_3 : Int) := dd_; have q107 : x8_3 < (x4_2.length : Int) := dd_; obtain ⟨ad107, e107, hx107_0, hx107_1, hx107_2⟩ := Qb7 (Kd.QaG HO_4.out).2.2 x8_3 p107 q107; cases e107; replace p107 := eq_true p107; replace q107 := eq_true q107; have p108 : 0 ≤ (x7_3 : Int) := dd_; have q108 : x7_3 < (x4_2.length : Int) := dd_; obtain ⟨ad108, e108, hx108_0, hx108_1, hx108_2⟩ := Qb7 (Kd.QaG HO_4.out).2.2 x7_3 p108 q108
              obtain rfl : ad107 = ad108 := (by injection e108)
              replace p108 := eq_true p108; replace q108 := eq_true q108; refine Qbt (n := 9) (S := fun w' => cr_sss w' (ad107.add ((x8_3).toNat * 3)) ((Qaq x4_2 x8_3).f0.f0) ((Qaq x4_2 x8_3).f0.f1) ((Qaq x4_2 x8_3).f1) (crl_sss w' (ad107.add ((x7_3).toNat * 3)) ((Qaq x4_2 x7_3).f0.f0) ((Qaq x4_2 x7_3).f0.f1) ((Qaq x4_2 x7_3).f1))) (ds := []) #[ff,ff,ff,ff,ff,ff,ff,ff,ff] (by kernel_rfl) rfl rfl ⟨hx107_0, hx107_1, hx107_2, hx108_0, hx108_1, hx108_2⟩ (fun hHeld => ?_); refine Qbh Qal.tab12 Qal.bits12 (fun HT_ HW_ => ?_)
              generalize wr.drew = w20 at HO_4 HO_6 HB hx107_0 hx107_1 hx107_2 hx108_0 hx108_1 hx108_2 hHeld ⊢
              refine pz 0 30 ?_; refine pz 1 31 ?_; refine pz 2 32 ?_; refine pz 4 34 ?_; refine pz 5 35 ?_; refine pz 6 36 ?_; refine tk6 3 33 ?_; refine tk6 7 37 ?_; refine one_ (i := 8) (N := some 38) #[tt,tt,tt,tt,tt,tt,tt,tt,tt] rfl rfl (Qbx HT_.out (by kernel_rfl)) (by decide) (fun K hK => ?_); refine QbY Tryz.func35 (by kernel_rfl) rfl #[.agg #[.string ((Qaq x4_2 x8_3).f0.f0), .string ((Qaq x4_2 x8_3).f0.f1), .string ((Qaq x4_2 x8_3).f1)], .agg #[.string ((Qaq x4_2 x7_3).f0.f0), .string ((Qaq x4_2 x7_3).f0.f1), .string ((Qaq x4_2 x7_3).f1)]] (by rfl) rfl rfl (by (try simp only [List.map_toArray, List.map_cons, List.map_nil]); first | done | rfl | (simp only [List.length_drop, List.length_take]; rfl)) ?_
              with_reducible refine (QbA.calls ((Qaq x4_2 x8_3).f0.f0) ((Qaq x4_2 x8_3).f0.f1) ((Qaq x4_2 x8_3).f1) ((Qaq x4_2 x7_3).f0.f0) ((Qaq x4_2 x7_3).f0.f1) ((Qaq x4_2 x7_3).f1) false _ A16.out).mono ?_
              rintro e w21 ⟨rfl, hb⟩; have HS0_ := cc_ hb hHeld.1; have HS1_ := cc_ hb hHeld.2.1; have HS2_ := cc_ hb hHeld.2.2.1; have HS3_ := cc_ hb hHeld.2.2.2.1; have HS4_ := cc_ hb hHeld.2.2.2.2.1; have HS5_ := cc_ hb hHeld.2.2.2.2.2; refine ⟨_, rfl, ?_⟩; replace HO_4 := Qaa.mk (Kd.QaJ (ro_ HO_4) hb); replace HO_6 := Qaa.mk (Kd.QaJ (ro_ HO_6) hb); replace HB := Qaa.mk (Qag bw_ hb)
              (try clear hb)
              (try clear hb2)
              (try clear hk)
              (try clear hi)
              refine hK.out _ _ ⟨HS0_, HS1_, HS2_, HS3_, HS4_, HS5_⟩ (fun hHeld => ?_); clear hK K; refine Qbu (a' := ?_) ?_ ?_; rotate_left
              ·show Act.put _ (some 38) _ = _
               simp only [Act.put, put_, Qbl, Qbm]; rfl
              refine QbK (Qbz HT_.out (by kernel_rfl)) ?_
              try go_wp2
              go_roundg k3
              case measure => have := HK1.out; have := HK2.out; have := HK3.out; omega
              case rel => exact ⟨(x7_3), (wrap64 (x8_3 + 1)), (by first | rfl | (simp; done) | (simp [*]; done)), (by first | rfl | (simp; done) | (simp [*]; done)), H', ⟨by have := HK1.out; have := HK2.out; have := HK3.out; omega⟩, ⟨by (with_reducible repeat (first | apply Kd.QaM | apply Kd.QaP | apply Kd.QaO)); exact HO_4.out⟩, ⟨by (with_reducible repeat (first | apply Kd.QaM | apply Kd.QaP | apply Kd.QaO)); exact HO_6.out⟩, ⟨bw_⟩⟩
            ·rw [if_neg c15] at H; exact absurd H (by simp)
           ·rw [if_neg c14] at H; exact absurd H (by simp)
          ·rw [if_neg c13] at H; exact absurd H (by simp)
         ·rw [if_neg c12] at H; have c12b0 : decide (x8_3 < (x4_2.length : Int)) = false := decide_eq_false c12; clear c12
          by_cases c22 : 0 ≤ x7_3
          ·rw [if_pos c22] at H; have c22b0 : decide (0 ≤ x7_3) = true := decide_eq_true c22; clear c22
           by_cases c23 : x7_3 < (x4_2.length : Int)
           ·rw [if_pos c23] at H; have c23b0 : decide (x7_3 < (x4_2.length : Int)) = true := decide_eq_true c23; clear c23
            by_cases c24 : x6_2.length < 2932031007402
            ·rw [if_pos c24] at H; have LMc24 := Qaa.mk c24; clear c24
             obtain ⟨y111, hy111⟩ : ∃ y_ : List (S51), y_ = (x6_2 ++ [(⟨(⟨(Qaq x4_2 x7_3).f0.f0, (Qaq x4_2 x7_3).f0.f1⟩ : S24), (Qaq x4_2 x7_3).f1⟩ : S51)]) := ⟨_, rfl⟩
             replace H : (if x7_3 ≤ (x4_2.length : Int) then ((some (x4_2.take (x7_3 : Int).toNat : List (S51))).bind fun y114 => (if ([] : List (S51)).length + y114.length < 2932031007402 then ((some (([] : List (S51)) ++ y114 : List (S51))).bind fun y118 => (if 0 ≤ (wrap64 (x7_3 + 1)) then (if (wrap64 (x7_3 + 1)) ≤ (x4_2.length : Int) then ((some (x4_2.drop ((wrap64 (x7_3 + 1)) : Int).toNat : List (S51))).bind fun y121 => (if y118.length + y121.length < 2932031007402 then (Qal.l1 k3 (y118 ++ y121) y111) else (none))) else (none)) else (none))) else (none))) else (none)) = some r := by first | (rw [hy111]; with_reducible exact H) | (have H2_ := (Option.bind_some _ _).symm.trans H; rw [hy111]; with_reducible exact H2_) | (have H2_ := (Option.bind_some _ _).symm.trans H; with_reducible exact H2_) | with_reducible exact H | (rw [hy111]; exact H) | exact H
             have Ny111 := Qaa.mk hy111; clear hy111; have c25b0 := eq_true (dd_ : 0 ≤ x7_3)
             by_cases c26 : x7_3 ≤ (x4_2.length : Int)
             ·rw [if_pos c26] at H; have c26b0 := eq_true c26; have c26b1 : decide (x7_3 ≤ (x4_2.length : Int)) = true := decide_eq_true c26; clear c26
              obtain ⟨y114, hy114⟩ : ∃ y_ : List (S51), y_ = (x4_2.take (x7_3 : Int).toNat) := ⟨_, rfl⟩
              replace H : (if ([] : List (S51)).length + y114.length < 2932031007402 then ((some (([] : List (S51)) ++ y114 : List (S51))).bind fun y118 => (if 0 ≤ (wrap64 (x7_3 + 1)) then (if (wrap64 (x7_3 + 1)) ≤ (x4_2.length : Int) then ((some (x4_2.drop ((wrap64 (x7_3 + 1)) : Int).toNat : List (S51))).bind fun y121 => (if y118.length + y121.length < 2932031007402 then (Qal.l1 k3 (y118 ++ y121) y111) else (none))) else (none)) else (none))) else (none)) = some r := by first | (rw [hy114]; with_reducible exact H) | (have H2_ := (Option.bind_some _ _).symm.trans H; rw [hy114]; with_reducible exact H2_) | (have H2_ := (Option.bind_some _ _).symm.trans H; with_reducible exact H2_) | with_reducible exact H | (rw [hy114]; exact H) | exact H
              have Ny114 := Qaa.mk hy114; clear hy114
              by_cases c27 : ([] : List (S51)).length + y114.length < 2932031007402
              ·rw [if_pos c27] at H; have LMc27 := Qaa.mk c27; clear c27
               obtain ⟨y118, hy118⟩ : ∃ y_ : List (S51), y_ = (([] : List (S51)) ++ y114) := ⟨_, rfl⟩
               replace H : (if 0 ≤ (wrap64 (x7_3 + 1)) then (if (wrap64 (x7_3 + 1)) ≤ (x4_2.length : Int) then ((some (x4_2.drop ((wrap64 (x7_3 + 1)) : Int).toNat : List (S51))).bind fun y121 => (if y118.length + y121.length < 2932031007402 then (Qal.l1 k3 (y118 ++ y121) y111) else (none))) else (none)) else (none)) = some r := by first | (rw [hy118]; with_reducible exact H) | (have H2_ := (Option.bind_some _ _).symm.trans H; rw [hy118]; with_reducible exact H2_) | (have H2_ := (Option.bind_some _ _).symm.trans H; with_reducible exact H2_) | with_reducible exact H | (rw [hy118]; exact H) | exact H
               have Ny118 := Qaa.mk hy118; clear hy118
               obtain ⟨ji28, hji28⟩ : ∃ j_ : Int, (wrap64 (x7_3 + 1)) = j_ := ⟨_, rfl⟩
               replace H : (if 0 ≤ (ji28) then (if (ji28) ≤ (x4_2.length : Int) then ((some (x4_2.drop ((ji28) : Int).toNat : List (S51))).bind fun y121 => (if y118.length + y121.length < 2932031007402 then (Qal.l1 k3 (y118 ++ y121) y111) else (none))) else (none)) else (none)) = some r := by first | (rw [hji28] at H; exact H) | (simp only [hji28] at H ⊢; exact H)
               have hji28w : (IntKind.i64.wrap (x7_3 + 1)) = ji28 := (Qbl _).trans hji28
               by_cases c29 : 0 ≤ (ji28)
               ·rw [if_pos c29] at H; have c29b0 := eq_true c29; have c29b1 : decide (0 ≤ (ji28)) = true := decide_eq_true c29; clear c29
                by_cases c30 : (ji28) ≤ (x4_2.length : Int)
                ·rw [if_pos c30] at H; have c30b0 := eq_true c30; have c30b1 : decide ((ji28) ≤ (x4_2.length : Int)) = true := decide_eq_true c30; clear c30
                 obtain ⟨y121, hy121⟩ : ∃ y_ : List (S51), y_ = (x4_2.drop ((ji28) : Int).toNat) := ⟨_, rfl⟩
                 replace H : (if y118.length + y121.length < 2932031007402 then (Qal.l1 k3 (y118 ++ y121) y111) else (none)) = some r := by first | (rw [hy121]; with_reducible exact H) | (have H2_ := (Option.bind_some _ _).symm.trans H; rw [hy121]; with_reducible exact H2_) | (have H2_ := (Option.bind_some _ _).symm.trans H; with_reducible exact H2_) | with_reducible exact H | (rw [hy121]; exact H) | exact H
                 have Ny121 := Qaa.mk hy121; clear hy121
                 by_cases c31 : y118.length + y121.length < 2932031007402
                 ·rw [if_pos c31] at H; have LMc31 := Qaa.mk c31; clear c31
                  obtain ⟨y125, hy125⟩ : ∃ y_ : List (S51), y_ = (y118 ++ y121) := ⟨_, rfl⟩
                  replace H : (Qal.l1 k3 y125 y111) = some r := by first | (rw [hy125]; with_reducible exact H) | (have H2_ := (Option.bind_some _ _).symm.trans H; rw [hy125]; with_reducible exact H2_) | (have H2_ := (Option.bind_some _ _).symm.trans H; with_reducible exact H2_) | with_reducible exact H | (rw [hy125]; exact H) | exact H
                  have Ny125 := Qaa.mk hy125; clear hy125; have H' := Qaa.mk H; clear H; have p110 : 0 ≤ (x7_3 : Int) := dd_; have q110 : x7_3 < (x4_2.length : Int) := dd_; obtain ⟨ad110, e110, hx110_0, hx110_1, hx110_2⟩ := Qb7 (Kd.QaG HO_4.out).2.2 x7_3 p110 q110; cases e110; replace p110 := eq_true p110; replace q110 := eq_true q110
                  go_wp2_with (first | ((with_reducible refine Qbj (b := .append) (xs := #[.tmp 40, .tmp 45]) rfl ?_); at_builtin; refine Kd.Qcu k51 (w0 := w) w.heap.size rfl (.tmp 40) (.tmp 45) 48 51 (.agg #[(.string ⟨#[]⟩), (.string ⟨#[]⟩), (.string ⟨#[]⟩)]) 48 rfl Tryz.underlying48 info51 rfl (by decide) (by omega) u6 x6_2 (⟨(⟨(Qaq x4_2 x7_3).f0.f0, (Qaq x4_2 x7_3).f0.f1⟩ : S24), (Qaq x4_2 x7_3).f1⟩ : S51) [.string ((Qaq x4_2 x7_3).f0.f0), .string ((Qaq x4_2 x7_3).f0.f1), .string ((Qaq x4_2 x7_3).f1)] (fun k_ => some k_ ≠ (.slice (some ad110) x4_2.length co11 : Value).ownBlock) (fun _ => False) rfl rfl ?aP (fun _ hk => hk.elim) ?aF ?aO ?aB ?aS ?aL ?_; (case aP => exact k51_mkM _ _ _ (⟨(⟨(Qaq x4_2 x7_3).f0.f0, (Qaq x4_2 x7_3).f0.f1⟩ : S24), (Qaq x4_2 x7_3).f1⟩ : S51)); (case aB => exact bw_); (case aF => exact (fun k_ hk => Kd.fresh' (Kd.R_lt (ro_ HO_4)) k_ hk)); (case aO => exact (ro_ HO_6)); (case aS => exact (QaI bw_)); (case aL => have := LMc24.out; omega); intro v112 w32 ho hb hg hat; rw [← Ny111.out] at ho; have n0_ := Qaa.mk (Kd.R_after (ok := (fun _ => True)) (by (with_reducible repeat (first | apply Kd.QaM | apply Kd.QaP | apply Kd.QaO)); exact Kd.Qa2 HO_4.out (fun _ hk => ⟨trivial, hk⟩)) hg hat); have n1_ := Qaa.mk (hb); have n2_ := Qaa.mk (ho); clear HO_4; clear HB; clear HO_6; have HO_4 := n0_; have HB := n1_; have HO113 := n2_; clear n0_ n1_ n2_; clear ho hb hg hat; have q33 : (x7_3 : Int) ≤ ((x4_2.length : Int) : Int) := dd_; obtain ⟨i033, hi033, _, hsz33, _⟩ := info_parts info51; have hroom33 : x4_2.length ≤ co11 := (Kd.QaG HO_4.out).2.1; have hC33 : Kd.C k51 _ (some ad110) x4_2.length x4_2 := (Kd.QaG HO_4.out).2.2; have hcut33 := cut_to (P := Tryz.prog) 48 51 .i64 Tryz.underlying48 hi033 (some ad110) x4_2.length co11 x7_3 (dd_) q33 hroom33; have hr33 := Kd.C_take (m := (x7_3 : Int).toNat) hC33 (by omega); have hy33 : y114.length = (x7_3 : Int).toNat := (by rw [Ny114.out, List.length_take]; omega); rw [← Ny114.out] at hr33; rw [← hy33] at hcut33; have HR117 := Qaa.mk hr33; have HC117 := Qaa.mk (show y114.length ≤ co11 from by omega); clear hr33 hC33 hroom33 hi033 hsz33; have KY33 := Qaa.mk hy33; clear hy33; have KL33 := Qaa.mk (show (x7_3 : Int).toNat ≤ x4_2.length from by omega); replace q33 := eq_true q33) | ((with_reducible refine Qbj (b := .append) (xs := #[.tmp 47, .tmp 50]) rfl ?_); at_builtin; refine Kd.Qcd k51 (w0 := w) w.heap.size rfl (.tmp 47) (.tmp 50) 48 51 (.agg #[(.string ⟨#[]⟩), (.string ⟨#[]⟩), (.string ⟨#[]⟩)]) 48 rfl Tryz.underlying48 info51 rfl (by decide) (by omega) (.slice none 0 0) ([] : List (S51)) y114 _ _ _ (fun k_ => some k_ ≠ (.slice (some ad110) x4_2.length co11 : Value).ownBlock ∧ some k_ ≠ (v112 : Value).ownBlock) (fun _ => False) rfl rfl ?aO ?aR (fun _ _ h => h) (fun _ h => h.elim) ?aF ?aB ?aS ?aL ?_; (case aR => repeat (first | exact (by repeat (first | (with_reducible exact HR117.out) | (with_reducible refine Kd.C_alloc ?_ _) | (with_reducible refine Kd.C_drewN ?_ _) | (with_reducible refine Kd.C_drew ?_) | exact HR117.out)) | (with_reducible refine Kd.C_alloc ?_ _) | (with_reducible refine Kd.C_drewN ?_ _) | (with_reducible refine Kd.C_drew ?_))); (case aB => exact bw_); (case aF => exact (fun k_ hk => ⟨Kd.fresh' (Kd.R_lt (ro_ HO_4)) k_ hk, Kd.fresh' (Kd.R_lt (ro_ HO113)) k_ hk⟩)); (case aO => exact ((Kd.Qci _ _ _ _ (fun k_ => some k_ ≠ (.slice (some ad110) x4_2.length co11 : Value).ownBlock ∧ some k_ ≠ (v112 : Value).ownBlock)))); (case aS => exact (QaI bw_)); (case aL => have := LMc27.out; omega); intro v119 w34 ho hb hg hat; rw [← Ny118.out] at ho; have n0_ := Qaa.mk (Kd.R_after (Kd.R_apart_nil (ro_ HO_4)) hg hat); have n1_ := Qaa.mk (Kd.R_after (Kd.R_apart_nil (ro_ HO113)) hg hat); have n2_ := Qaa.mk (hb); have n3_ := Qaa.mk ((show Kd.C k51 w34 (some ad110) y114.length y114 from by rw [Ny114.out]; exact Kd.C_take (m := (x7_3 : Int).toNat) ((Kd.QaG (Kd.R_after (Kd.R_apart_nil (ro_ HO_4)) hg hat)).2.2) KL33.out)); have n4_ := Qaa.mk (ho); clear HO_4; clear HO113; clear HB; clear HR117; have HO_4 := n0_; have HO113 := n1_; have HB := n2_; have HR117 := n3_; have HO120 := n4_; clear n0_ n1_ n2_ n3_ n4_; clear ho hb hg hat; have q35 : ((ji28) : Int) ≤ ((x4_2.length : Int) : Int) := dd_; obtain ⟨i035, hi035, _, hsz35, _⟩ := info_parts info51; have hroom35 : x4_2.length ≤ co11 := (Kd.QaG HO_4.out).2.1; have hC35 : Kd.C k51 _ (some ad110) x4_2.length x4_2 := (Kd.QaG HO_4.out).2.2; have q035 : (0 : Int) ≤ ((ji28) : Int) := dd_; have hcut35 := cut_from (P := Tryz.prog) 48 51 .i64 Tryz.underlying48 hi035 3 hsz35 (some ad110) x4_2.length co11 (ji28) q035 q35; have hr35 := Kd.C_drop (m := ((ji28) : Int).toNat) (c := co11) hC35 (by omega) hroom35; obtain ⟨A35, hA35⟩ : ∃ A1, A1 = (if co11 = ((ji28) : Int).toNat then (some ad110) else ((some ad110) : Option Addr).map (·.add (((ji28) : Int).toNat * 3))) := ⟨_, rfl⟩; obtain ⟨c35, hc35⟩ : ∃ c1, c1 = co11 - ((ji28) : Int).toNat := ⟨_, rfl⟩; have hy35 : y121.length = x4_2.length - ((ji28) : Int).toNat := (by rw [Ny121.out, List.length_drop] <;> omega); rw [show (x4_2).drop ((ji28) : Int).toNat = y121 from Ny121.out.symm] at hr35; replace hr35 : Kd.C k51 _ A35 y121.length y121 := (by rw [hA35]; exact hr35); rw [← hy35, ← hA35, ← hc35] at hcut35; have HR124 := Qaa.mk hr35; have HC124 := Qaa.mk (show y121.length ≤ c35 from by rw [hy35, hc35]; exact Nat.sub_le_sub_right hroom35 _); clear hr35 hC35 hroom35 hi035 hsz35 hc35; have KY35 := Qaa.mk hy35; have KA35 := Qaa.mk hA35; clear hy35 hA35; have KL35 := Qaa.mk (show ((ji28) : Int).toNat ≤ x4_2.length from by omega); replace q35 := eq_true q35) | ((with_reducible refine Qbj (b := .append) (xs := #[.tmp 52, .tmp 56]) rfl ?_); at_builtin; refine Kd.Qcd k51 (w0 := w) w.heap.size rfl (.tmp 52) (.tmp 56) 48 51 (.agg #[(.string ⟨#[]⟩), (.string ⟨#[]⟩), (.string ⟨#[]⟩)]) 48 rfl Tryz.underlying48 info51 rfl (by decide) (by omega) v119 y118 y121 _ _ _ (fun k_ => some k_ ≠ (.slice (some ad110) x4_2.length co11 : Value).ownBlock ∧ some k_ ≠ (v112 : Value).ownBlock) (fun _ => False) rfl rfl ?aO ?aR (fun _ _ h => h) (fun _ h => h.elim) ?aF ?aB ?aS ?aL ?_; (case aR => repeat (first | exact (by repeat (first | (with_reducible exact HR124.out) | (with_reducible refine Kd.C_alloc ?_ _) | (with_reducible refine Kd.C_drewN ?_ _) | (with_reducible refine Kd.C_drew ?_) | exact HR124.out)) | (with_reducible refine Kd.C_alloc ?_ _) | (with_reducible refine Kd.C_drewN ?_ _) | (with_reducible refine Kd.C_drew ?_))); (case aB => exact bw_); (case aF => exact (fun k_ hk => ⟨Kd.fresh' (Kd.R_lt (ro_ HO_4)) k_ hk, Kd.fresh' (Kd.R_lt (ro_ HO113)) k_ hk⟩)); (case aO => exact (ro_ HO120)); (case aS => exact (QaI bw_)); (case aL => have := LMc31.out; omega); intro v126 w36 ho hb hg hat; rw [← Ny125.out] at ho; have n0_ := Qaa.mk (Kd.R_after (ok := (fun k_ => some k_ ≠ (v112 : Value).ownBlock)) (by (with_reducible repeat (first | apply Kd.QaM | apply Kd.QaP | apply Kd.QaO)); exact Kd.Qa2 HO_4.out (fun _ hk => ⟨hk.1.2, hk.2⟩)) hg hat); have n1_ := Qaa.mk (Kd.R_after (ok := (fun k_ => some k_ ≠ (.slice (some ad110) x4_2.length co11 : Value).ownBlock)) (ro_ HO113) hg hat); have n2_ := Qaa.mk (hb); have n3_ := Qaa.mk ((show Kd.C k51 w36 (some ad110) y114.length y114 from by rw [Ny114.out]; exact Kd.C_take (m := (x7_3 : Int).toNat) ((Kd.QaG (Kd.R_after (ok := (fun k_ => some k_ ≠ (v112 : Value).ownBlock)) (by (with_reducible repeat (first | apply Kd.QaM | apply Kd.QaP | apply Kd.QaO)); exact Kd.Qa2 HO_4.out (fun _ hk => ⟨hk.1.2, hk.2⟩)) hg hat)).2.2) KL33.out)); have n4_ := Qaa.mk ((show Kd.C k51 w36 A35 y121.length y121 from by rw [Ny121.out, KA35.out]; exact Kd.C_drop (m := ((ji28) : Int).toNat) (c := co11) ((Kd.QaG (Kd.R_after (ok := (fun k_ => some k_ ≠ (v112 : Value).ownBlock)) (by (with_reducible repeat (first | apply Kd.QaM | apply Kd.QaP | apply Kd.QaO)); exact Kd.Qa2 HO_4.out (fun _ hk => ⟨hk.1.2, hk.2⟩)) hg hat)).2.2) KL35.out ((Kd.QaG (Kd.R_after (ok := (fun k_ => some k_ ≠ (v112 : Value).ownBlock)) (by (with_reducible repeat (first | apply Kd.QaM | apply Kd.QaP | apply Kd.QaO)); exact Kd.Qa2 HO_4.out (fun _ hk => ⟨hk.1.2, hk.2⟩)) hg hat)).2.1))); have n5_ := Qaa.mk (ho); clear HO_4; clear HO113; clear HB; clear HR117; clear HR124; clear HO120; have HO_4 := n0_; have HO113 := n1_; have HB := n2_; have HR117 := n3_; have HR124 := n4_; have HO127 := n5_; clear n0_ n1_ n2_ n3_ n4_ n5_; clear ho hb hg hat))
                  go_roundg k3
                  case measure => have := HK1.out; have := HK2.out; have := HK3.out; omega
                  case rel => exact ⟨(y125), (y111), H', ⟨by have := HK1.out; have := HK2.out; have := HK3.out; omega⟩, ⟨by (with_reducible repeat (first | apply Kd.QaM | apply Kd.QaP | apply Kd.QaO)); exact Kd.Qa2 HO127.out (fun _ hk => hk.2)⟩, ⟨by (with_reducible repeat (first | apply Kd.QaM | apply Kd.QaP | apply Kd.QaO)); exact Kd.Qa2 HO113.out (fun _ hk => hk.2)⟩, ⟨bw_⟩⟩
                 ·rw [if_neg c31] at H; exact absurd H (by simp)
                ·rw [if_neg c30] at H; exact absurd H (by simp)
               ·rw [if_neg c29] at H; exact absurd H (by simp)
              ·rw [if_neg c27] at H; exact absurd H (by simp)
             ·rw [if_neg c26] at H; exact absurd H (by simp)
            ·rw [if_neg c24] at H; exact absurd H (by simp)
           ·rw [if_neg c23] at H; exact absurd H (by simp)
          ·rw [if_neg c22] at H; exact absurd H (by simp)
      ·rw [if_neg c10] at H; have c10b0 : decide (0 < (x4_2.length : Int)) = false := decide_eq_false c10; have c10b1 : decide (0 < x4_2.length) = false := decide_eq_false (by omega); clear c10; obtain rfl := Option.some.inj H; obtain ⟨Ao37, co37, eo37⟩ := Kd.Qa4 HO_4.out; subst eo37; go_wp2; go_ret; exact ⟨_, by first | rfl | (simp [Qat, Qas] <;> rfl) | (simp [*, Qat, Qas] <;> rfl), by (with_reducible repeat (first | apply Kd.QaM | apply Kd.QaP | apply Kd.QaO)); exact Kd.Qa2 HO_6.out (fun _ hk => trivial), bw_⟩
   ·rw [if_neg c5] at H; have c5b0 : ((t104.length : Int) == (x4_1.length : Int)) = false := beq_eq_false_iff_ne.mpr c5; have c5b1 : ((t104.length : Int) != (x4_1.length : Int)) = true := bne_iff_ne.mpr c5
    have c5b2 : (t104.length == x4_1.length) = false := by first | simpa using c5 | (simp at c5 ⊢; omega)
    have H' := Qaa.mk H; clear H; obtain ⟨Ao38, co38, eo38⟩ := Kd.Qa4 HO_3.out; subst eo38; obtain ⟨Ao39, co39, eo39⟩ := Kd.Qa4 HO_4.out; subst eo39
    go_wp2_with (first | ((with_reducible refine QaC (f := 27) rfl ?_); refine gL 14 Tryz.func27 #[.slice Ao38 t101.length co38, .slice Ao39 x4_1.length co39] ?_; (with_reducible refine (Qaw.calls k1 _ _ t101 _ _ x4_1 t104 _ ?side1 ?side2 ?side3 ?side4 A4.out).mono ?_); (case side1 => exact kd_ ((Kd.QaG HO_3.out).2.2)); (case side2 => exact (Kd.QaG HO_3.out).2.1); (case side3 => exact kd_ ((Kd.QaG HO_4.out).2.2)); (case side4 => exact (Kd.QaG HO_4.out).2.1); rintro e w40 ⟨v105, rfl, ho0, hb⟩; refine ⟨_, rfl, ?_⟩; have HO106 := Qaa.mk (Kd.Qa8 (Kd.R_new' ho0 (Kd.R_lt (ro_ HO_4))) (QaI bw_)); replace HO_3 := Qaa.mk (Kd.QaJ (ro_ HO_3) hb); replace HO_4 := Qaa.mk (Kd.QbP (ro_ HO_4) (Kd.Qco ho0) hb); replace HB := Qaa.mk (Qag bw_ hb); (try clear hb); (try clear hb2); (try clear hk); (try clear hi); (try clear ho0); obtain ⟨Ao41, co41, eo41⟩ := Kd.Qa4 HO106.out; subst eo41))
    go_roundg k1
    case measure => have := HK1.out; omega
    case rel => exact ⟨(t104), H', ⟨by have := HK1.out; omega⟩, ⟨by (with_reducible repeat (first | apply Kd.QaM | apply Kd.QaP | apply Kd.QaO)); exact HO_3.out⟩, ⟨by (with_reducible repeat (first | apply Kd.QaM | apply Kd.QaP | apply Kd.QaO)); exact Kd.Qa2 HO106.out (fun _ hk => trivial)⟩, ⟨bw_⟩⟩

def QaF.l0 : Nat → List (S46) → List (S51) → Int → ByteArray → ByteArray → ByteArray → Option (Int)
 | 0, _, _, _, _, _, _ => none
 | k + 1, x7, x10, x11, x106000, x106001, x106002 => (Qaw.f k x7 x10).bind fun t110 => ((Qau.f k t110 x106000 x106001 x106002).bind fun t113 => (if t113 = true then (some x11) else (QaF.l0 k x7 t110 (wrap64 (x11 + 1)) x106000 x106001 x106002)))
def QaF.f (k : Nat) (l0 : List (S46)) (a1 : ByteArray) (a2_0 : ByteArray) (a2_1 : ByteArray) : Option (Int) := (Qar.f k l0).bind fun t102 => ((Qal.f k l0).bind fun t106 => ((Qau.f k t106 a2_0 a2_1 a1).bind fun t109 => (if t109 = true then (QaF.l0 k t102 ([] : List (S51)) 1 a2_0 a2_1 a1) else (some 0))))
set_option maxHeartbeats 8000000 in
set_option maxRecDepth 100000 in
theorem QaF.calls (k : Nat) (A0 : Option Addr) (c0 : Nat) (l0 : List (S46)) (a1 : ByteArray) (a2_0 : ByteArray) (a2_1 : ByteArray) (r : Int) (w : World) (hr0 : Kd.C k46 w A0 l0.length l0) (hc0 : l0.length ≤ c0) (h : QaF.f k l0 a1 a2_0 a2_1 = some r) :
  Calls Tryz.prog 12 #[.slice A0 l0.length c0, .string a1, .agg #[.string a2_0, .string a2_1]] w fun e w' => e = .returned (.int .i64 r) ∧ Below w.heap.size w w' := by
 have hu24 := Tryz.underlying24; have hu51 := Tryz.underlying51; have HR0 := Qaa.mk hr0; have HC0 := Qaa.mk hc0; clear hr0 hc0; have HB := Qaa.mk (Below.refl w.heap.size w); have H : ((Qar.f k l0).bind fun t102 => ((Qal.f k l0).bind fun t106 => ((Qau.f k t106 a2_0 a2_1 a1).bind fun t109 => (if t109 = true then (QaF.l0 k t102 ([] : List (S51)) 1 a2_0 a2_1 a1) else (some 0))))) = some r := h; clear h; replace H := Option.bind_eq_some_iff.mp H; obtain ⟨t102, A40, H⟩ := H; replace H : ((Qal.f k l0).bind fun t106 => ((Qau.f k t106 a2_0 a2_1 a1).bind fun t109 => (if t109 = true then (QaF.l0 k t102 ([] : List (S51)) 1 a2_0 a2_1 a1) else (some 0)))) = some r := H; have A4 := Qaa.mk A40; clear A40; replace H := Option.bind_eq_some_iff.mp H; obtain ⟨t106, A50, H⟩ := H; replace H : ((Qau.f k t106 a2_0 a2_1 a1).bind fun t109 => (if t109 = true then (QaF.l0 k t102 ([] : List (S51)) 1 a2_0 a2_1 a1) else (some 0))) = some r := H; have A5 := Qaa.mk A50; clear A50; replace H := Option.bind_eq_some_iff.mp H; obtain ⟨t109, A60, H⟩ := H; replace H : (if t109 = true then (QaF.l0 k t102 ([] : List (S51)) 1 a2_0 a2_1 a1) else (some 0)) = some r := H; have A6 := Qaa.mk A60; clear A60
 by_cases c7 : t109 = true
 ·subst c7
  have H1 : (QaF.l0 k t102 ([] : List (S51)) 1 a2_0 a2_1 a1) = some r := by rw [if_pos rfl] at H; exact H
  clear H; have H := H1; clear H1; have H' := Qaa.mk H; clear H; go_enter Tryz.func12, Tryz.ntmps12
  try go_wp2_with (first | ((with_reducible refine QaH (N := 5) rfl ?_); refine QaD ?hg (N := 5) ?hd (cs := #[.string a2_0, .string a2_1]) (t := 24) ?hr ?_; (case hd => rfl); (case hg => rfl); (case hr => first | (go_simp; done) | (go_simp; rfl)); intro gb101 hg w8 hbox hb; have BK101 := Qaa.mk (hbox); have GW101 := (gz_ hg : Qaa (w.heap.size ≤ gb101)); have GE101 := (gz_ hg : Qaa (w.heap.size ≤ gb101)); replace HB := Qaa.mk (Qag bw_ hb); clear hb hbox hg) | ((with_reducible refine QaC (f := 18) rfl ?_); refine gL 14 Tryz.func18 #[.slice A0 l0.length c0] ?_; (with_reducible refine (Qar.calls k _ _ l0 t102 _ ?side1 ?side2 A4.out).mono ?_); (case side1 => exact kd_ (Kd.Qbe HR0.out HB.out)); (case side2 => exact HC0.out); rintro e w9 ⟨v103, rfl, ho0, hb⟩; refine ⟨_, rfl, ?_⟩; have HO104 := Qaa.mk (Kd.Qa8 ho0 (QaI bw_)); replace BK101 := Qaa.mk (Qab (g := gb101) bk_ hb); replace HB := Qaa.mk (Qag bw_ hb); (try clear hb); (try clear hb2); (try clear hk); (try clear hi); (try clear ho0); obtain ⟨c10_0, c10_1⟩ := Qca BK101.out; obtain ⟨f10_0, f10_1⟩ := fz_2 BK101.out) | ((with_reducible refine QaH (N := 8) rfl ?_); refine QaD ?hg (N := 8) ?hd (cs := #[.string (⟨#[]⟩ : ByteArray), .string (⟨#[]⟩ : ByteArray), .string (⟨#[]⟩ : ByteArray)]) (t := 51) ?hr ?_; (case hd => rfl); (case hg => rfl); (case hr => first | (go_simp; done) | (go_simp; rfl)); intro gb105 hg w11 hbox hb; have BK105 := Qaa.mk (hbox); have GW105 := (gz_ hg : Qaa (w.heap.size ≤ gb105)); have GE105 := (gz_ hg : Qaa (w.heap.size ≤ gb105)); have NB101_105 := (nl_ hg : Qaa (gb101 ≠ gb105)); have NB105_101 := (ng_ hg : Qaa (gb105 ≠ gb101)); replace HO104 := Qaa.mk (Kd.QaJ (ro_ HO104) hb); replace BK101 := Qaa.mk (Qab (g := gb101) bk_ hb); replace HB := Qaa.mk (Qag bw_ hb); clear hb hbox hg; have hnb12 := NB105_101.out; have hnc12 := NB101_105.out; obtain ⟨c13_0, c13_1, c13_2⟩ := Qbn BK105.out; obtain ⟨f13_0, f13_1, f13_2⟩ := fz_3 BK105.out))
  have n0_ : Qaa (Kd.R k46 46 (((w11.setCell ⟨gb105, 0, none⟩ (.string a2_0)).setCell ⟨gb105, 1, none⟩ (.string a2_1)).setCell ⟨gb105, 2, none⟩ (.string a1)) w.heap.size (fun _ => True) v103 t102) := ⟨by (with_reducible repeat (first | apply Kd.QaM | apply Kd.QaP | apply Kd.QaO)); exact Kd.Qa2 (Kd.Qa6 (p := ⟨gb105, 2, none⟩) (Kd.Qa6 (p := ⟨gb105, 1, none⟩) (Kd.Qa6 (p := ⟨gb105, 0, none⟩) (Kd.R_types HO104.out BK105.out (by decide)) (fun _ hk => hk.2) (.string a2_0)) (fun _ hk => hk.2) (.string a2_1)) (fun _ hk => hk.2) (.string a1)) (fun _ hk => trivial)⟩
  have n1_ : Qaa ((((w11.setCell ⟨gb105, 0, none⟩ (.string a2_0)).setCell ⟨gb105, 1, none⟩ (.string a2_1)).setCell ⟨gb105, 2, none⟩ (.string a1)).heap[gb101]? = some (.cells #[.string a2_0, .string a2_1] 24 (0, 0))) := ⟨by (with_reducible repeat (first | refine Qae ?_ _ | refine Qaf ?_ | refine Qad ?_ _)); refine Qbo ?_ NB101_105.out _; (with_reducible repeat (first | refine Qae ?_ _ | refine Qaf ?_ | refine Qad ?_ _)); refine Qbo ?_ NB101_105.out _; (with_reducible repeat (first | refine Qae ?_ _ | refine Qaf ?_ | refine Qad ?_ _)); refine Qbo ?_ NB101_105.out _; (with_reducible repeat (first | refine Qae ?_ _ | refine Qaf ?_ | refine Qad ?_ _)); exact BK101.out⟩
  have n2_ : Qaa ((((w11.setCell ⟨gb105, 0, none⟩ (.string a2_0)).setCell ⟨gb105, 1, none⟩ (.string a2_1)).setCell ⟨gb105, 2, none⟩ (.string a1)).heap[gb105]? = some (.cells #[.string a2_0, .string a2_1, .string a1] 51 (0, 0))) := ⟨by (with_reducible repeat (first | refine Qae ?_ _ | refine Qaf ?_ | refine Qad ?_ _)); refine Qao (cs := #[.string a2_0, .string a2_1, .string (⟨#[]⟩ : ByteArray)]) ?_ 2 _ rfl; (with_reducible repeat (first | refine Qae ?_ _ | refine Qaf ?_ | refine Qad ?_ _)); refine Qao (cs := #[.string a2_0, .string (⟨#[]⟩ : ByteArray), .string (⟨#[]⟩ : ByteArray)]) ?_ 1 _ rfl; (with_reducible repeat (first | refine Qae ?_ _ | refine Qaf ?_ | refine Qad ?_ _)); refine Qao (cs := #[.string (⟨#[]⟩ : ByteArray), .string (⟨#[]⟩ : ByteArray), .string (⟨#[]⟩ : ByteArray)]) ?_ 0 _ rfl; (with_reducible repeat (first | refine Qae ?_ _ | refine Qaf ?_ | refine Qad ?_ _)); exact BK105.out⟩
  have n3_ : Qaa (Below w.heap.size w (((w11.setCell ⟨gb105, 0, none⟩ (.string a2_0)).setCell ⟨gb105, 1, none⟩ (.string a2_1)).setCell ⟨gb105, 2, none⟩ (.string a1))) := ⟨bw_⟩
  (try clear HO104)
  (try clear BK101)
  (try clear BK105)
  (try clear HB)
  generalize (((w11.setCell ⟨gb105, 0, none⟩ (.string a2_0)).setCell ⟨gb105, 1, none⟩ (.string a2_1)).setCell ⟨gb105, 2, none⟩ (.string a1)) = w14 at n0_ n1_ n2_ n3_ ⊢
  have HO104 := n0_; have BK101 := n1_; have BK105 := n2_; have HB := n3_; clear n0_ n1_ n2_ n3_; replace HO104 := Qaa.mk (Kd.QaO HO104.out); replace BK101 := Qaa.mk (Qaf BK101.out); replace BK105 := Qaa.mk (Qaf BK105.out); replace HB := Qaa.mk (Qam HB.out); refine Qbt (n := 5) (S := fun w' => cgl_sss w' gb105 a2_0 a2_1 a1) (ds := []) #[ff,ff,ff,ff,ff] (by kernel_rfl) rfl rfl (cl_3 BK105.out) (fun hHeld => ?_)
  generalize w14.drew = w15 at HO104 BK101 BK105 HB hHeld ⊢
  refine kz 0 18 ?_; refine kk3 2 20 ?_; refine one_ (i := 1) (N := some 19) #[tt,tt,tt,ff,ff] rfl rfl (by kernel_rfl) (by decide) (fun K hK => ?_); refine QbY Tryz.func21 (by kernel_rfl) rfl #[.slice A0 l0.length c0] (by rfl) rfl rfl (by (try simp only [List.map_toArray, List.map_cons, List.map_nil]); first | done | rfl | (simp only [List.length_drop, List.length_take]; rfl)) ?_
  with_reducible refine (Qal.calls k _ _ l0 t106 _ ?side1 ?side2 A5.out).mono ?_
  (case side1 => exact kd_ (Kd.Qbe HR0.out HB.out))
  (case side2 => exact HC0.out)
  rintro e w16 ⟨v107, rfl, ho0, hb⟩; refine ⟨_, rfl, ?_⟩; have HO108 := Qaa.mk (Kd.Qa8 (Kd.QbO ho0 (g := gb105) bk_) (QaI bw_)); replace HO104 := Qaa.mk (Kd.QaJ (ro_ HO104) hb); replace BK101 := Qaa.mk (Qab (g := gb101) bk_ hb); replace BK105 := Qaa.mk (Qab (g := gb105) bk_ hb); replace HB := Qaa.mk (Qag bw_ hb)
  (try clear hb)
  (try clear hb2)
  (try clear hk)
  (try clear hi)
  (try clear ho0)
  obtain ⟨Ao17, co17, eo17⟩ := Kd.Qa4 HO108.out
  (first | subst eo17 | (injection eo17 with f1_ f2_ f3_; have f4_ := f1_.symm; have f5_ := f3_.symm; clear f1_ f2_ f3_; subst f4_; subst f5_))
  refine hK.out _ _ (cl_3 BK105.out) (fun hHeld => ?_); clear hK K; refine Qbu (a' := ?_) ?_ ?_; rotate_left
  ·show Act.put _ (some 19) _ = _
   simp only [Act.put, put_, Qbl, Qbm]; rfl
  refine one_ (i := 3) (N := some 21) #[tt,tt,tt,tt,ff] rfl rfl (by kernel_rfl) (by decide) (fun K hK => ?_); refine QbY Tryz.func23 (by kernel_rfl) rfl #[.slice Ao17 t106.length co17, .agg #[.string a2_0, .string a2_1, .string a1]] (by rfl) rfl rfl (by (try simp only [List.map_toArray, List.map_cons, List.map_nil]); first | done | rfl | (simp only [List.length_drop, List.length_take]; rfl)) ?_
  with_reducible refine (Qau.calls k _ _ t106 a2_0 a2_1 a1 true _ ?side1 ?side2 A6.out).mono ?_
  (case side1 => exact kd_ ((Kd.QaG HO108.out).2.2))
  (case side2 => exact (Kd.QaG HO108.out).2.1)
  rintro e w18 ⟨rfl, hb⟩; refine ⟨_, rfl, ?_⟩; replace HO104 := Qaa.mk (Kd.QaJ (ro_ HO104) hb); replace HO108 := Qaa.mk (Kd.QaJ (ro_ HO108) hb); replace BK101 := Qaa.mk (Qab (g := gb101) bk_ hb); replace BK105 := Qaa.mk (Qab (g := gb105) bk_ hb); replace HB := Qaa.mk (Qag bw_ hb)
  (try clear hb)
  (try clear hb2)
  (try clear hk)
  (try clear hi)
  refine hK.out _ _ (cl_3 BK105.out) (fun hHeld => ?_); clear hK K; refine Qbu (a' := ?_) ?_ ?_; rotate_left
  ·show Act.put _ (some 21) _ = _
   simp only [Act.put, put_, Qbl, Qbm]; rfl
  refine kz 4 9 ?_; refine QbK (by kernel_rfl) ?_
  try go_wp2
  go_loopg [10, 11] k (fun kq v10 v11 w' => ∃ (x10_1 : List (S51)) (x11_1 : Int), v11 = .int .i64 x11_1 ∧ Qaa (QaF.l0 kq t102 x10_1 x11_1 a2_0 a2_1 a1 = some r) ∧ Qaa (kq ≤ k) ∧ Qaa (Kd.R k46 46 w' w.heap.size (fun _ => True) v103 t102) ∧ Qaa (Kd.R k51 51 w' w.heap.size (fun k_ => k_ ≠ gb105) v10 x10_1) ∧ Qaa (w'.heap[gb101]? = some (.cells #[.string a2_0, .string a2_1] 24 (0, 0))) ∧ Qaa (w'.heap[gb105]? = some (.cells #[.string a2_0, .string a2_1, .string a1] 51 (0, 0))) ∧ Qaa (Below w.heap.size w w'))
  case atStart => exact ⟨(([] : List (S51))), (1), (by first | rfl | (simp; done) | (simp [*]; done)), H', ⟨Nat.le_refl _⟩, ⟨by (with_reducible repeat (first | apply Kd.QaM | apply Kd.QaP | apply Kd.QaO)); exact HO104.out⟩, ⟨by first | exact Kd.Qci _ _ _ _ _ | exact Kd.N_nil _ _ _ _ _ | exact Kd.V_nil _ _ _ _ _ | exact Kd.Q_nil _ _ _ _ _ | exact Kd.S_nil _ _ _ _ _⟩, ⟨by (with_reducible repeat (first | refine Qae ?_ _ | refine Qaf ?_ | refine Qad ?_ _)); exact BK101.out⟩, ⟨by (with_reducible repeat (first | refine Qae ?_ _ | refine Qaf ?_ | refine Qad ?_ _)); exact BK105.out⟩, ⟨bw_⟩⟩
  case round =>
   clear H'; (try clear c1); (try clear c2); (try clear p2); (try clear c7); (try clear c12); (try clear c18); (try clear c10_0 c10_1); (try clear c13_0 c13_1 c13_2); (try clear f10_0 f10_1); (try clear f13_0 f13_1 f13_2); obtain ⟨x10_1, x11_1, rfl, HA, HK1, HO_7, HO_10, BK101, BK105, HB⟩ := hrel
   cases gk with
   | zero => exact absurd HA.out (by simp [QaF.l0])
   | succ k1 =>
    have H := HA.out; clear HA; simp only [QaF.l0] at H; replace H := Option.bind_eq_some_iff.mp H; obtain ⟨t110, A190, H⟩ := H; replace H : ((Qau.f k1 t110 a2_0 a2_1 a1).bind fun t113 => (if t113 = true then (some x11_1) else (QaF.l0 k1 t102 t110 (wrap64 (x11_1 + 1)) a2_0 a2_1 a1))) = some r := H; have A19 := Qaa.mk A190; clear A190; replace H := Option.bind_eq_some_iff.mp H; obtain ⟨t113, A200, H⟩ := H; replace H : (if t113 = true then (some x11_1) else (QaF.l0 k1 t102 t110 (wrap64 (x11_1 + 1)) a2_0 a2_1 a1)) = some r := H; have A20 := Qaa.mk A200; clear A200
    by_cases c21 : t113 = true
    ·subst c21
     have H1 : (some x11_1) = some r := by rw [if_pos rfl] at H; exact H
     clear H; have H := H1; clear H1; obtain rfl := Option.some.inj H; obtain ⟨Ao22, co22, eo22⟩ := Kd.Qa4 HO_7.out; subst eo22; obtain ⟨Ao23, co23, eo23⟩ := Kd.Qa4 HO_10.out; subst eo23
     go_wp2_with (first | ((with_reducible refine QaC (f := 27) rfl ?_); refine gL 28 Tryz.func27 #[.slice Ao22 t102.length co22, .slice Ao23 x10_1.length co23] ?_; (with_reducible refine (Qaw.calls k1 _ _ t102 _ _ x10_1 t110 _ ?side1 ?side2 ?side3 ?side4 A19.out).mono ?_); (case side1 => exact kd_ ((Kd.QaG HO_7.out).2.2)); (case side2 => exact (Kd.QaG HO_7.out).2.1); (case side3 => exact kd_ ((Kd.QaG HO_10.out).2.2)); (case side4 => exact (Kd.QaG HO_10.out).2.1); rintro e w24 ⟨v111, rfl, ho0, hb⟩; refine ⟨_, rfl, ?_⟩; have HO112 := Qaa.mk (Kd.Qa8 (Kd.QbO (Kd.R_new' ho0 (Kd.R_lt (ro_ HO_10))) (g := gb105) bk_) (QaI bw_)); replace HO_7 := Qaa.mk (Kd.QaJ (ro_ HO_7) hb); replace HO_10 := Qaa.mk (Kd.QbP (ro_ HO_10) (Kd.Qco ho0) hb); replace BK101 := Qaa.mk (Qab (g := gb101) bk_ hb); replace BK105 := Qaa.mk (Qab (g := gb105) bk_ hb); replace HB := Qaa.mk (Qag bw_ hb); (try clear hb); (try clear hb2); (try clear hk); (try clear hi); (try clear ho0); have hnb25 := NB105_101.out; have hnc25 := NB101_105.out; obtain ⟨c26_0, c26_1, c26_2⟩ := Qbn BK105.out; obtain ⟨f26_0, f26_1, f26_2⟩ := fz_3 BK105.out; obtain ⟨Ao27, co27, eo27⟩ := Kd.Qa4 HO112.out; subst eo27) | ((with_reducible refine QaC (f := 23) rfl ?_); refine gL 31 Tryz.func23 #[.slice Ao27 t110.length co27, .agg #[.string a2_0, .string a2_1, .string a1]] ?_; (with_reducible refine (Qau.calls k1 _ _ t110 a2_0 a2_1 a1 true _ ?side1 ?side2 A20.out).mono ?_); (case side1 => exact kd_ ((Kd.QaG HO112.out).2.2)); (case side2 => exact (Kd.QaG HO112.out).2.1); rintro e w28 ⟨rfl, hb⟩; refine ⟨_, rfl, ?_⟩; replace HO_7 := Qaa.mk (Kd.QaJ (ro_ HO_7) hb); replace HO_10 := Qaa.mk (Kd.QaJ (ro_ HO_10) hb); replace HO112 := Qaa.mk (Kd.QaJ (ro_ HO112) hb); replace BK101 := Qaa.mk (Qab (g := gb101) bk_ hb); replace BK105 := Qaa.mk (Qab (g := gb105) bk_ hb); replace HB := Qaa.mk (Qag bw_ hb); (try clear hb); (try clear hb2); (try clear hk); (try clear hi)))
     go_ret; exact ⟨by first | rfl | (simp [Qat, Qas] <;> rfl) | (simp [*, Qat, Qas] <;> rfl), bw_⟩
    ·replace c21 := Bool.eq_false_iff.mpr c21; subst c21
     have H1 : (QaF.l0 k1 t102 t110 (wrap64 (x11_1 + 1)) a2_0 a2_1 a1) = some r := by rw [if_neg (show ¬ (false = true) by decide)] at H; exact H
     clear H; have H := H1; clear H1; have H' := Qaa.mk H; clear H; obtain ⟨Ao29, co29, eo29⟩ := Kd.Qa4 HO_7.out; subst eo29; obtain ⟨Ao30, co30, eo30⟩ := Kd.Qa4 HO_10.out; subst eo30
     go_wp2_with (first | ((with_reducible refine QaC (f := 27) rfl ?_); refine gL 28 Tryz.func27 #[.slice Ao29 t102.length co29, .slice Ao30 x10_1.length co30] ?_; (with_reducible refine (Qaw.calls k1 _ _ t102 _ _ x10_1 t110 _ ?side1 ?side2 ?side3 ?side4 A19.out).mono ?_); (case side1 => exact kd_ ((Kd.QaG HO_7.out).2.2)); (case side2 => exact (Kd.QaG HO_7.out).2.1); (case side3 => exact kd_ ((Kd.QaG HO_10.out).2.2)); (case side4 => exact (Kd.QaG HO_10.out).2.1); rintro e w31 ⟨v111, rfl, ho0, hb⟩; refine ⟨_, rfl, ?_⟩; have HO112 := Qaa.mk (Kd.Qa8 (Kd.QbO (Kd.R_new' ho0 (Kd.R_lt (ro_ HO_10))) (g := gb105) bk_) (QaI bw_)); replace HO_7 := Qaa.mk (Kd.QaJ (ro_ HO_7) hb); replace HO_10 := Qaa.mk (Kd.QbP (ro_ HO_10) (Kd.Qco ho0) hb); replace BK101 := Qaa.mk (Qab (g := gb101) bk_ hb); replace BK105 := Qaa.mk (Qab (g := gb105) bk_ hb); replace HB := Qaa.mk (Qag bw_ hb); (try clear hb); (try clear hb2); (try clear hk); (try clear hi); (try clear ho0); have hnb32 := NB105_101.out; have hnc32 := NB101_105.out; obtain ⟨c33_0, c33_1, c33_2⟩ := Qbn BK105.out; obtain ⟨f33_0, f33_1, f33_2⟩ := fz_3 BK105.out; obtain ⟨Ao34, co34, eo34⟩ := Kd.Qa4 HO112.out; subst eo34) | ((with_reducible refine QaC (f := 23) rfl ?_); refine gL 31 Tryz.func23 #[.slice Ao34 t110.length co34, .agg #[.string a2_0, .string a2_1, .string a1]] ?_; (with_reducible refine (Qau.calls k1 _ _ t110 a2_0 a2_1 a1 false _ ?side1 ?side2 A20.out).mono ?_); (case side1 => exact kd_ ((Kd.QaG HO112.out).2.2)); (case side2 => exact (Kd.QaG HO112.out).2.1); rintro e w35 ⟨rfl, hb⟩; refine ⟨_, rfl, ?_⟩; replace HO_7 := Qaa.mk (Kd.QaJ (ro_ HO_7) hb); replace HO_10 := Qaa.mk (Kd.QaJ (ro_ HO_10) hb); replace HO112 := Qaa.mk (Kd.QaJ (ro_ HO112) hb); replace BK101 := Qaa.mk (Qab (g := gb101) bk_ hb); replace BK105 := Qaa.mk (Qab (g := gb105) bk_ hb); replace HB := Qaa.mk (Qag bw_ hb); (try clear hb); (try clear hb2); (try clear hk); (try clear hi)))
     go_roundg k1
     case measure => have := HK1.out; omega
     case rel => exact ⟨(t110), (wrap64 (x11_1 + 1)), (by first | rfl | (simp; done) | (simp [*]; done)), H', ⟨by have := HK1.out; omega⟩, ⟨by (with_reducible repeat (first | apply Kd.QaM | apply Kd.QaP | apply Kd.QaO)); exact HO_7.out⟩, ⟨by (with_reducible repeat (first | apply Kd.QaM | apply Kd.QaP | apply Kd.QaO)); exact Kd.Qa2 HO112.out (fun _ hk => hk.2)⟩, ⟨by (with_reducible repeat (first | refine Qae ?_ _ | refine Qaf ?_ | refine Qad ?_ _)); exact BK101.out⟩, ⟨by (with_reducible repeat (first | refine Qae ?_ _ | refine Qaf ?_ | refine Qad ?_ _)); exact BK105.out⟩, ⟨bw_⟩⟩
 ·replace c7 := Bool.eq_false_iff.mpr c7; subst c7
  have H1 : (some 0) = some r := by rw [if_neg (show ¬ (false = true) by decide)] at H; exact H
  clear H; have H := H1; clear H1; obtain rfl := Option.some.inj H; go_enter Tryz.func12, Tryz.ntmps12
  try go_wp2_with (first | ((with_reducible refine QaH (N := 5) rfl ?_); refine QaD ?hg (N := 5) ?hd (cs := #[.string a2_0, .string a2_1]) (t := 24) ?hr ?_; (case hd => rfl); (case hg => rfl); (case hr => first | (go_simp; done) | (go_simp; rfl)); intro gb101 hg w36 hbox hb; have BK101 := Qaa.mk (hbox); have GW101 := (gz_ hg : Qaa (w.heap.size ≤ gb101)); have GE101 := (gz_ hg : Qaa (w.heap.size ≤ gb101)); replace HB := Qaa.mk (Qag bw_ hb); clear hb hbox hg) | ((with_reducible refine QaC (f := 18) rfl ?_); refine gL 14 Tryz.func18 #[.slice A0 l0.length c0] ?_; (with_reducible refine (Qar.calls k _ _ l0 t102 _ ?side1 ?side2 A4.out).mono ?_); (case side1 => exact kd_ (Kd.Qbe HR0.out HB.out)); (case side2 => exact HC0.out); rintro e w37 ⟨v103, rfl, ho0, hb⟩; refine ⟨_, rfl, ?_⟩; have HO104 := Qaa.mk (Kd.Qa8 ho0 (QaI bw_)); replace BK101 := Qaa.mk (Qab (g := gb101) bk_ hb); replace HB := Qaa.mk (Qag bw_ hb); (try clear hb); (try clear hb2); (try clear hk); (try clear hi); (try clear ho0); obtain ⟨c38_0, c38_1⟩ := Qca BK101.out; obtain ⟨f38_0, f38_1⟩ := fz_2 BK101.out) | ((with_reducible refine QaH (N := 8) rfl ?_); refine QaD ?hg (N := 8) ?hd (cs := #[.string (⟨#[]⟩ : ByteArray), .string (⟨#[]⟩ : ByteArray), .string (⟨#[]⟩ : ByteArray)]) (t := 51) ?hr ?_; (case hd => rfl); (case hg => rfl); (case hr => first | (go_simp; done) | (go_simp; rfl)); intro gb105 hg w39 hbox hb; have BK105 := Qaa.mk (hbox); have GW105 := (gz_ hg : Qaa (w.heap.size ≤ gb105)); have GE105 := (gz_ hg : Qaa (w.heap.size ≤ gb105)); have NB101_105 := (nl_ hg : Qaa (gb101 ≠ gb105)); have NB105_101 := (ng_ hg : Qaa (gb105 ≠ gb101)); replace HO104 := Qaa.mk (Kd.QaJ (ro_ HO104) hb); replace BK101 := Qaa.mk (Qab (g := gb101) bk_ hb); replace HB := Qaa.mk (Qag bw_ hb); clear hb hbox hg; have hnb40 := NB105_101.out; have hnc40 := NB101_105.out; obtain ⟨c41_0, c41_1, c41_2⟩ := Qbn BK105.out; obtain ⟨f41_0, f41_1, f41_2⟩ := fz_3 BK105.out))
  have n0_ : Qaa (Kd.R k46 46 (((w39.setCell ⟨gb105, 0, none⟩ (.string a2_0)).setCell ⟨gb105, 1, none⟩ (.string a2_1)).setCell ⟨gb105, 2, none⟩ (.string a1)) w.heap.size (fun _ => True) v103 t102) := ⟨by (with_reducible repeat (first | apply Kd.QaM | apply Kd.QaP | apply Kd.QaO)); exact Kd.Qa2 (Kd.Qa6 (p := ⟨gb105, 2, none⟩) (Kd.Qa6 (p := ⟨gb105, 1, none⟩) (Kd.Qa6 (p := ⟨gb105, 0, none⟩) (Kd.R_types HO104.out BK105.out (by decide)) (fun _ hk => hk.2) (.string a2_0)) (fun _ hk => hk.2) (.string a2_1)) (fun _ hk => hk.2) (.string a1)) (fun _ hk => trivial)⟩
  have n1_ : Qaa ((((w39.setCell ⟨gb105, 0, none⟩ (.string a2_0)).setCell ⟨gb105, 1, none⟩ (.string a2_1)).setCell ⟨gb105, 2, none⟩ (.string a1)).heap[gb101]? = some (.cells #[.string a2_0, .string a2_1] 24 (0, 0))) := ⟨by (with_reducible repeat (first | refine Qae ?_ _ | refine Qaf ?_ | refine Qad ?_ _)); refine Qbo ?_ NB101_105.out _; (with_reducible repeat (first | refine Qae ?_ _ | refine Qaf ?_ | refine Qad ?_ _)); refine Qbo ?_ NB101_105.out _; (with_reducible repeat (first | refine Qae ?_ _ | refine Qaf ?_ | refine Qad ?_ _)); refine Qbo ?_ NB101_105.out _; (with_reducible repeat (first | refine Qae ?_ _ | refine Qaf ?_ | refine Qad ?_ _)); exact BK101.out⟩
  have n2_ : Qaa ((((w39.setCell ⟨gb105, 0, none⟩ (.string a2_0)).setCell ⟨gb105, 1, none⟩ (.string a2_1)).setCell ⟨gb105, 2, none⟩ (.string a1)).heap[gb105]? = some (.cells #[.string a2_0, .string a2_1, .string a1] 51 (0, 0))) := ⟨by (with_reducible repeat (first | refine Qae ?_ _ | refine Qaf ?_ | refine Qad ?_ _)); refine Qao (cs := #[.string a2_0, .string a2_1, .string (⟨#[]⟩ : ByteArray)]) ?_ 2 _ rfl; (with_reducible repeat (first | refine Qae ?_ _ | refine Qaf ?_ | refine Qad ?_ _)); refine Qao (cs := #[.string a2_0, .string (⟨#[]⟩ : ByteArray), .string (⟨#[]⟩ : ByteArray)]) ?_ 1 _ rfl; (with_reducible repeat (first | refine Qae ?_ _ | refine Qaf ?_ | refine Qad ?_ _)); refine Qao (cs := #[.string (⟨#[]⟩ : ByteArray), .string (⟨#[]⟩ : ByteArray), .string (⟨#[]⟩ : ByteArray)]) ?_ 0 _ rfl; (with_reducible repeat (first | refine Qae ?_ _ | refine Qaf ?_ | refine Qad ?_ _)); exact BK105.out⟩
  have n3_ : Qaa (Below w.heap.size w (((w39.setCell ⟨gb105, 0, none⟩ (.string a2_0)).setCell ⟨gb105, 1, none⟩ (.string a2_1)).setCell ⟨gb105, 2, none⟩ (.string a1))) := ⟨bw_⟩
  (try clear HO104)
  (try clear BK101)
  (try clear BK105)
  (try clear HB)
  generalize (((w39.setCell ⟨gb105, 0, none⟩ (.string a2_0)).setCell ⟨gb105, 1, none⟩ (.string a2_1)).setCell ⟨gb105, 2, none⟩ (.string a1)) = w42 at n0_ n1_ n2_ n3_ ⊢
  have HO104 := n0_; have BK101 := n1_; have BK105 := n2_; have HB := n3_; clear n0_ n1_ n2_ n3_; replace HO104 := Qaa.mk (Kd.QaO HO104.out); replace BK101 := Qaa.mk (Qaf BK101.out); replace BK105 := Qaa.mk (Qaf BK105.out); replace HB := Qaa.mk (Qam HB.out); refine Qbt (n := 5) (S := fun w' => cgl_sss w' gb105 a2_0 a2_1 a1) (ds := []) #[ff,ff,ff,ff,ff] (by kernel_rfl) rfl rfl (cl_3 BK105.out) (fun hHeld => ?_)
  generalize w42.drew = w43 at HO104 BK101 BK105 HB hHeld ⊢
  refine kz 0 18 ?_; refine kk3 2 20 ?_; refine one_ (i := 1) (N := some 19) #[tt,tt,tt,ff,ff] rfl rfl (by kernel_rfl) (by decide) (fun K hK => ?_); refine QbY Tryz.func21 (by kernel_rfl) rfl #[.slice A0 l0.length c0] (by rfl) rfl rfl (by (try simp only [List.map_toArray, List.map_cons, List.map_nil]); first | done | rfl | (simp only [List.length_drop, List.length_take]; rfl)) ?_
  with_reducible refine (Qal.calls k _ _ l0 t106 _ ?side1 ?side2 A5.out).mono ?_
  (case side1 => exact kd_ (Kd.Qbe HR0.out HB.out))
  (case side2 => exact HC0.out)
  rintro e w44 ⟨v107, rfl, ho0, hb⟩; refine ⟨_, rfl, ?_⟩; have HO108 := Qaa.mk (Kd.Qa8 (Kd.QbO ho0 (g := gb105) bk_) (QaI bw_)); replace HO104 := Qaa.mk (Kd.QaJ (ro_ HO104) hb); replace BK101 := Qaa.mk (Qab (g := gb101) bk_ hb); replace BK105 := Qaa.mk (Qab (g := gb105) bk_ hb); replace HB := Qaa.mk (Qag bw_ hb)
  (try clear hb)
  (try clear hb2)
  (try clear hk)
  (try clear hi)
  (try clear ho0)
  obtain ⟨Ao45, co45, eo45⟩ := Kd.Qa4 HO108.out
  (first | subst eo45 | (injection eo45 with f1_ f2_ f3_; have f4_ := f1_.symm; have f5_ := f3_.symm; clear f1_ f2_ f3_; subst f4_; subst f5_))
  refine hK.out _ _ (cl_3 BK105.out) (fun hHeld => ?_); clear hK K; refine Qbu (a' := ?_) ?_ ?_; rotate_left
  ·show Act.put _ (some 19) _ = _
   simp only [Act.put, put_, Qbl, Qbm]; rfl
  refine one_ (i := 3) (N := some 21) #[tt,tt,tt,tt,ff] rfl rfl (by kernel_rfl) (by decide) (fun K hK => ?_); refine QbY Tryz.func23 (by kernel_rfl) rfl #[.slice Ao45 t106.length co45, .agg #[.string a2_0, .string a2_1, .string a1]] (by rfl) rfl rfl (by (try simp only [List.map_toArray, List.map_cons, List.map_nil]); first | done | rfl | (simp only [List.length_drop, List.length_take]; rfl)) ?_
  with_reducible refine (Qau.calls k _ _ t106 a2_0 a2_1 a1 false _ ?side1 ?side2 A6.out).mono ?_
  (case side1 => exact kd_ ((Kd.QaG HO108.out).2.2))
  (case side2 => exact (Kd.QaG HO108.out).2.1)
  rintro e w46 ⟨rfl, hb⟩; refine ⟨_, rfl, ?_⟩; replace HO104 := Qaa.mk (Kd.QaJ (ro_ HO104) hb); replace HO108 := Qaa.mk (Kd.QaJ (ro_ HO108) hb); replace BK101 := Qaa.mk (Qab (g := gb101) bk_ hb); replace BK105 := Qaa.mk (Qab (g := gb105) bk_ hb); replace HB := Qaa.mk (Qag bw_ hb)
  (try clear hb)
  (try clear hb2)
  (try clear hk)
  (try clear hi)
  refine hK.out _ _ (cl_3 BK105.out) (fun hHeld => ?_); clear hK K; refine Qbu (a' := ?_) ?_ ?_; rotate_left
  ·show Act.put _ (some 21) _ = _
   simp only [Act.put, put_, Qbl, Qbm]; rfl
  refine kz 4 9 ?_; refine QbK (by kernel_rfl) ?_
  try go_wp2
  go_ret; exact ⟨by first | rfl | (simp [Qat, Qas] <;> rfl) | (simp [*, Qat, Qas] <;> rfl), bw_⟩

mutual
def Qan.j1 : Nat → List (S46) → List (S51) → ByteArray → ByteArray → ByteArray → Option (Int × Int × (List (S51)))
 | 0, _, _, _, _, _ => none
 | k + 1, x0, x6, x102000, x102001, x102002 => Qan.l1 k x0 x6 0 x102000 x102001 x102002
def Qan.l1 : Nat → List (S46) → List (S51) → Int → ByteArray → ByteArray → ByteArray → Option (Int × Int × (List (S51)))
 | 0, _, _, _, _, _, _ => none
 | k + 1, x0, x6, x9, x102000, x102001, x102002 => if x9 < (x0.length : Int) then (if 0 ≤ x9 then ((QaA.f k ((Qah x0 x9).f0.f0) ((Qah x0 x9).f0.f1) ((Qah x0 x9).f1) ((Qah x0 x9).f2) ((Qah x0 x9).f3) ((Qah x0 x9).f4.f0) ((Qah x0 x9).f4.f1) ((Qah x0 x9).f5.f0) ((Qah x0 x9).f5.f1) x102000 x102001 x102002 x6).bind fun bt108 => (if bt108.2 = true then (some ((Qah x0 x9).f0.f0, (Qah x0 x9).f0.f1, bt108.1)) else (Qan.l1 k x0 x6 (wrap64 (x9 + 1)) x102000 x102001 x102002))) else (none)) else (some (0, 0, ([] : List (S51))))
def Qan.l0 : Nat → List (S46) → List (S51) → ByteArray → ByteArray → ByteArray → Option (Int × Int × (List (S51)))
 | 0, _, _, _, _, _ => none
 | k + 1, x0, x6, x102000, x102001, x102002 => (Qaw.f k x0 x6).bind fun t103 => ((Qau.f k t103 x102000 x102001 x102002).bind fun t106 => (if t106 = true then (Qan.j1 k x0 x6 x102000 x102001 x102002) else (if (t103.length : Int) = (x6.length : Int) then (Qan.j1 k x0 x6 x102000 x102001 x102002) else (Qan.l0 k x0 t103 x102000 x102001 x102002))))
end
def Qan.f (k : Nat) (l0 : List (S46)) (a1_0 : ByteArray) (a1_1 : ByteArray) (a1_2 : ByteArray) : Option (Int × Int × (List (S51))) := Qan.l0 k l0 ([] : List (S51)) a1_0 a1_1 a1_2
def Qan.T9 : Bool × List (List Nat × List Nat) := (true, [([], []), ([], []), ([0, 1], [0, 1]), ([2], [2]), ([], []), ([], []), ([3, 4, 5], [3, 4, 5]), ([6], [6]), ([7], [7]), ([7], [7]), ([8, 6, 0, 1, 2, 3, 4, 5, 6, 7, 8], [8]), ([9, 10, 0, 1, 2, 3, 4, 5, 6, 7, 8, 9, 10], [9])])
def Qan.B9 : List Nat := [0, 0, 3, 7, 0, 0, 63, 127, 255, 255, 511, 2047]
theorem Qan.tab9 : rtab .any (opsOf Tryz.f29 9) = Qan.T9 := by kernel_rfl
theorem Qan.bits9 : waitsOk Qan.T9.2 Qan.B9 = true := by kernel_rfl
set_option maxHeartbeats 8000000 in
set_option maxRecDepth 100000 in
theorem Qan.calls (k : Nat) (A0 : Option Addr) (c0 : Nat) (l0 : List (S46)) (a1_0 : ByteArray) (a1_1 : ByteArray) (a1_2 : ByteArray) (r1 : Int) (r2 : Int) (r3 : List (S51)) (w : World) (hr0 : Kd.C k46 w A0 l0.length l0) (hc0 : l0.length ≤ c0) (h : Qan.f k l0 a1_0 a1_1 a1_2 = some (r1, r2, r3)) :
  Calls Tryz.prog 29 #[.slice A0 l0.length c0, .agg #[.string a1_0, .string a1_1, .string a1_2]] w fun e w' => ∃ v2_ : Value, e = .returned (.tuple #[.agg #[.int .i64 r1, .int .i64 r2], v2_]) ∧ Kd.R k51 51 w' w.heap.size (fun _ => True) v2_ r3 ∧ Below w.heap.size w w' := by
 have hu51 := Tryz.underlying51; have hu27 := Tryz.underlying27; have hu46 := Tryz.underlying46; have HR0 := Qaa.mk hr0; have HC0 := Qaa.mk hc0; clear hr0 hc0; have HB := Qaa.mk (Below.refl w.heap.size w); have H : (Qan.l0 k l0 ([] : List (S51)) a1_0 a1_1 a1_2) = some (r1, r2, r3) := h; clear h; have HC3 := Qaa.mk H; clear H; go_enter Tryz.func29, Tryz.ntmps29
 go_upto_block 0 with (first | ((with_reducible refine QaH (N := 3) rfl ?_); (try (refine Qcc (by rfl) ?_; dsimp only)); refine QaD ?hg (N := 3) ?hd (cs := #[.string a1_0, .string a1_1, .string a1_2]) (t := 51) ?hr ?_; (case hd => rfl); (case hg => rfl); (case hr => first | (go_simp; done) | (go_simp; rfl)); intro gb101 hg w4 hbox hb; have BK101 := Qaa.mk (hbox); have GW101 := (gz_ hg : Qaa (w.heap.size ≤ gb101)); have GE101 := (gz_ hg : Qaa (w.heap.size ≤ gb101)); replace HB := Qaa.mk (Qag bw_ hb); clear hb hbox hg) | ((with_reducible refine QaH (N := 4) rfl ?_); (try (refine Qcc (by rfl) ?_; dsimp only)); refine QaD ?hg (N := 4) ?hd (cs := #[.int .i64 0, .int .i64 0]) (t := 27) ?hr ?_; (case hd => rfl); (case hg => rfl); (case hr => first | (go_simp; done) | (go_simp; rfl)); intro gb102 hg w5 hbox hb; have BK102 := Qaa.mk (hbox); have GW102 := (gz_ hg : Qaa (w.heap.size ≤ gb102)); have GE102 := (gz_ hg : Qaa (w.heap.size ≤ gb102)); have NB101_102 := (nl_ hg : Qaa (gb101 ≠ gb102)); have NB102_101 := (ng_ hg : Qaa (gb102 ≠ gb101)); replace BK101 := Qaa.mk (Qab (g := gb101) bk_ hb); replace HB := Qaa.mk (Qag bw_ hb); clear hb hbox hg))
 (try simp only [Act.put, put_])
 go_cut [6] (fun v6 wc => ∃ (kq : Nat) (x6_2 : List (S51)), Qaa (Qan.j1 kq l0 x6_2 a1_0 a1_1 a1_2 = some (r1, r2, r3)) ∧ Qaa (kq ≤ k) ∧ Qaa (Kd.R k51 51 wc w.heap.size (fun k_ => k_ ≠ gb101) v6 x6_2) ∧ Qaa (wc.heap[gb101]? = some (.cells #[.string a1_0, .string a1_1, .string a1_2] 51 (0, 0))) ∧ Qaa (wc.heap[gb102]? = some (.cells #[.int .i64 0, .int .i64 0] 27 (0, 0))) ∧ Qaa (Below w.heap.size w wc))
 case first =>
  have H := HC3.out; clear HC3; have H' := Qaa.mk H; clear H; go_wp2
  go_loopg [6] k (fun kq v6 w' => ∃ (x6_1 : List (S51)), Qaa (Qan.l0 kq l0 x6_1 a1_0 a1_1 a1_2 = some (r1, r2, r3)) ∧ Qaa (kq ≤ k) ∧ Qaa (Kd.R k51 51 w' w.heap.size (fun k_ => k_ ≠ gb101) v6 x6_1) ∧ Qaa (w'.heap[gb101]? = some (.cells #[.string a1_0, .string a1_1, .string a1_2] 51 (0, 0))) ∧ Qaa (w'.heap[gb102]? = some (.cells #[.int .i64 0, .int .i64 0] 27 (0, 0))) ∧ Qaa (Below w.heap.size w w'))
  case atStart => exact ⟨(([] : List (S51))), H', ⟨Nat.le_refl _⟩, ⟨by first | exact Kd.Qci _ _ _ _ _ | exact Kd.N_nil _ _ _ _ _ | exact Kd.V_nil _ _ _ _ _ | exact Kd.Q_nil _ _ _ _ _ | exact Kd.S_nil _ _ _ _ _⟩, ⟨by (with_reducible repeat (first | refine Qae ?_ _ | refine Qaf ?_ | refine Qad ?_ _)); exact BK101.out⟩, ⟨by (with_reducible repeat (first | refine Qae ?_ _ | refine Qaf ?_ | refine Qad ?_ _)); exact BK102.out⟩, ⟨bw_⟩⟩
  case round =>
   clear H'; (try clear c2); (try clear p2); obtain ⟨x6_1, HA, HK1, HO_6, BK101, BK102, HB⟩ := hrel
   cases gk with
   | zero => exact absurd HA.out (by simp [Qan.l0])
   | succ k1 =>
    have H := HA.out; clear HA; simp only [Qan.l0] at H; replace H := Option.bind_eq_some_iff.mp H; obtain ⟨t103, A60, H⟩ := H; replace H : ((Qau.f k1 t103 a1_0 a1_1 a1_2).bind fun t106 => (if t106 = true then (Qan.j1 k1 l0 x6_1 a1_0 a1_1 a1_2) else (if (t103.length : Int) = (x6_1.length : Int) then (Qan.j1 k1 l0 x6_1 a1_0 a1_1 a1_2) else (Qan.l0 k1 l0 t103 a1_0 a1_1 a1_2)))) = some (r1, r2, r3) := H; have A6 := Qaa.mk A60; clear A60; replace H := Option.bind_eq_some_iff.mp H; obtain ⟨t106, A70, H⟩ := H; replace H : (if t106 = true then (Qan.j1 k1 l0 x6_1 a1_0 a1_1 a1_2) else (if (t103.length : Int) = (x6_1.length : Int) then (Qan.j1 k1 l0 x6_1 a1_0 a1_1 a1_2) else (Qan.l0 k1 l0 t103 a1_0 a1_1 a1_2))) = some (r1, r2, r3) := H; have A7 := Qaa.mk A70; clear A70
    by_cases c8 : t106 = true
    ·subst c8
     have H1 : (Qan.j1 k1 l0 x6_1 a1_0 a1_1 a1_2) = some (r1, r2, r3) := by rw [if_pos rfl] at H; exact H
     clear H; have H := H1; clear H1; have H' := Qaa.mk H; clear H; obtain ⟨Ao9, co9, eo9⟩ := Kd.Qa4 HO_6.out; subst eo9
     go_wp2_with (first | ((with_reducible refine QaC (f := 27) rfl ?_); refine gL 14 Tryz.func27 #[.slice A0 l0.length c0, .slice Ao9 x6_1.length co9] ?_; (with_reducible refine (Qaw.calls k1 _ _ l0 _ _ x6_1 t103 _ ?side1 ?side2 ?side3 ?side4 A6.out).mono ?_); (case side1 => exact kd_ (Kd.Qbe HR0.out HB.out)); (case side2 => exact HC0.out); (case side3 => exact kd_ ((Kd.QaG HO_6.out).2.2)); (case side4 => exact (Kd.QaG HO_6.out).2.1); rintro e w10 ⟨v104, rfl, ho0, hb⟩; refine ⟨_, rfl, ?_⟩; have HO105 := Qaa.mk (Kd.Qa8 (Kd.QbO (Kd.R_new' ho0 (Kd.R_lt (ro_ HO_6))) (g := gb101) bk_) (QaI bw_)); replace HO_6 := Qaa.mk (Kd.QbP (ro_ HO_6) (Kd.Qco ho0) hb); replace BK101 := Qaa.mk (Qab (g := gb101) bk_ hb); replace BK102 := Qaa.mk (Qab (g := gb102) bk_ hb); replace HB := Qaa.mk (Qag bw_ hb); (try clear hb); (try clear hb2); (try clear hk); (try clear hi); (try clear ho0); have hnb11 := NB101_102.out; have hnc11 := NB102_101.out; obtain ⟨c12_0, c12_1, c12_2⟩ := Qbn BK101.out; obtain ⟨f12_0, f12_1, f12_2⟩ := fz_3 BK101.out; obtain ⟨Ao13, co13, eo13⟩ := Kd.Qa4 HO105.out; subst eo13) | ((with_reducible refine QaC (f := 23) rfl ?_); refine gL 17 Tryz.func23 #[.slice Ao13 t103.length co13, .agg #[.string a1_0, .string a1_1, .string a1_2]] ?_; (with_reducible refine (Qau.calls k1 _ _ t103 a1_0 a1_1 a1_2 true _ ?side1 ?side2 A7.out).mono ?_); (case side1 => exact kd_ ((Kd.QaG HO105.out).2.2)); (case side2 => exact (Kd.QaG HO105.out).2.1); rintro e w14 ⟨rfl, hb⟩; refine ⟨_, rfl, ?_⟩; replace HO_6 := Qaa.mk (Kd.QaJ (ro_ HO_6) hb); replace HO105 := Qaa.mk (Kd.QaJ (ro_ HO105) hb); replace BK101 := Qaa.mk (Qab (g := gb101) bk_ hb); replace BK102 := Qaa.mk (Qab (g := gb102) bk_ hb); replace HB := Qaa.mk (Qag bw_ hb); (try clear hb); (try clear hb2); (try clear hk); (try clear hi)))
     go_meet
     case rel => exact ⟨_, (x6_1), H', ⟨by have := HK1.out; first | omega | exact Nat.le_refl _⟩, ⟨by (with_reducible repeat (first | apply Kd.QaM | apply Kd.QaP | apply Kd.QaO)); exact Kd.Qa2 HO_6.out (fun _ hk => hk.1)⟩, ⟨by (with_reducible repeat (first | refine Qae ?_ _ | refine Qaf ?_ | refine Qad ?_ _)); exact BK101.out⟩, ⟨by (with_reducible repeat (first | refine Qae ?_ _ | refine Qaf ?_ | refine Qad ?_ _)); exact BK102.out⟩, ⟨bw_⟩⟩
    ·replace c8 := Bool.eq_false_iff.mpr c8; subst c8
     have H1 : (if (t103.length : Int) = (x6_1.length : Int) then (Qan.j1 k1 l0 x6_1 a1_0 a1_1 a1_2) else (Qan.l0 k1 l0 t103 a1_0 a1_1 a1_2)) = some (r1, r2, r3) := by rw [if_neg (show ¬ (false = true) by decide)] at H; exact H
     clear H; have H := H1; clear H1
     by_cases c15 : (t103.length : Int) = (x6_1.length : Int)
     ·rw [if_pos c15] at H; have c15b0 : ((t103.length : Int) == (x6_1.length : Int)) = true := beq_iff_eq.mpr c15; have c15b1 : ((t103.length : Int) != (x6_1.length : Int)) = false := bne_eq_false_iff_eq.mpr c15
      have c15b2 : (t103.length == x6_1.length) = true := by first | simpa using c15 | (simp at c15 ⊢; omega)
      clear c15
      (first | rw [c15b0] | (simp only [Qbl, Qbm]; rw [c15b0]) | skip)
      have H' := Qaa.mk H; clear H; obtain ⟨Ao16, co16, eo16⟩ := Kd.Qa4 HO_6.out; subst eo16
      go_wp2_with (first | ((with_reducible refine QaC (f := 27) rfl ?_); refine gL 14 Tryz.func27 #[.slice A0 l0.length c0, .slice Ao16 x6_1.length co16] ?_; (with_reducible refine (Qaw.calls k1 _ _ l0 _ _ x6_1 t103 _ ?side1 ?side2 ?side3 ?side4 A6.out).mono ?_); (case side1 => exact kd_ (Kd.Qbe HR0.out HB.out)); (case side2 => exact HC0.out); (case side3 => exact kd_ ((Kd.QaG HO_6.out).2.2)); (case side4 => exact (Kd.QaG HO_6.out).2.1); rintro e w17 ⟨v104, rfl, ho0, hb⟩; refine ⟨_, rfl, ?_⟩; have HO105 := Qaa.mk (Kd.Qa8 (Kd.QbO (Kd.R_new' ho0 (Kd.R_lt (ro_ HO_6))) (g := gb101) bk_) (QaI bw_)); replace HO_6 := Qaa.mk (Kd.QbP (ro_ HO_6) (Kd.Qco ho0) hb); replace BK101 := Qaa.mk (Qab (g := gb101) bk_ hb); replace BK102 := Qaa.mk (Qab (g := gb102) bk_ hb); replace HB := Qaa.mk (Qag bw_ hb); (try clear hb); (try clear hb2); (try clear hk); (try clear hi); (try clear ho0); have hnb18 := NB101_102.out; have hnc18 := NB102_101.out; obtain ⟨c19_0, c19_1, c19_2⟩ := Qbn BK101.out; obtain ⟨f19_0, f19_1, f19_2⟩ := fz_3 BK101.out; obtain ⟨Ao20, co20, eo20⟩ := Kd.Qa4 HO105.out; subst eo20) | ((with_reducible refine QaC (f := 23) rfl ?_); refine gL 17 Tryz.func23 #[.slice Ao20 t103.length co20, .agg #[.string a1_0, .string a1_1, .string a1_2]] ?_; (with_reducible refine (Qau.calls k1 _ _ t103 a1_0 a1_1 a1_2 false _ ?side1 ?side2 A7.out).mono ?_); (case side1 => exact kd_ ((Kd.QaG HO105.out).2.2)); (case side2 => exact (Kd.QaG HO105.out).2.1); rintro e w21 ⟨rfl, hb⟩; refine ⟨_, rfl, ?_⟩; replace HO_6 := Qaa.mk (Kd.QaJ (ro_ HO_6) hb); replace HO105 := Qaa.mk (Kd.QaJ (ro_ HO105) hb); replace BK101 := Qaa.mk (Qab (g := gb101) bk_ hb); replace BK102 := Qaa.mk (Qab (g := gb102) bk_ hb); replace HB := Qaa.mk (Qag bw_ hb); (try clear hb); (try clear hb2); (try clear hk); (try clear hi)))
      go_meet
      case rel => exact ⟨_, (x6_1), H', ⟨by have := HK1.out; first | omega | exact Nat.le_refl _⟩, ⟨by (with_reducible repeat (first | apply Kd.QaM | apply Kd.QaP | apply Kd.QaO)); exact Kd.Qa2 HO_6.out (fun _ hk => hk.1)⟩, ⟨by (with_reducible repeat (first | refine Qae ?_ _ | refine Qaf ?_ | refine Qad ?_ _)); exact BK101.out⟩, ⟨by (with_reducible repeat (first | refine Qae ?_ _ | refine Qaf ?_ | refine Qad ?_ _)); exact BK102.out⟩, ⟨bw_⟩⟩
     ·rw [if_neg c15] at H; have c15b0 : ((t103.length : Int) == (x6_1.length : Int)) = false := beq_eq_false_iff_ne.mpr c15; have c15b1 : ((t103.length : Int) != (x6_1.length : Int)) = true := bne_iff_ne.mpr c15
      have c15b2 : (t103.length == x6_1.length) = false := by first | simpa using c15 | (simp at c15 ⊢; omega)
      (first | rw [c15b0] | (simp only [Qbl, Qbm]; rw [c15b0]) | skip)
      have H' := Qaa.mk H; clear H; obtain ⟨Ao22, co22, eo22⟩ := Kd.Qa4 HO_6.out; subst eo22
      go_wp2_with (first | ((with_reducible refine QaC (f := 27) rfl ?_); refine gL 14 Tryz.func27 #[.slice A0 l0.length c0, .slice Ao22 x6_1.length co22] ?_; (with_reducible refine (Qaw.calls k1 _ _ l0 _ _ x6_1 t103 _ ?side1 ?side2 ?side3 ?side4 A6.out).mono ?_); (case side1 => exact kd_ (Kd.Qbe HR0.out HB.out)); (case side2 => exact HC0.out); (case side3 => exact kd_ ((Kd.QaG HO_6.out).2.2)); (case side4 => exact (Kd.QaG HO_6.out).2.1); rintro e w23 ⟨v104, rfl, ho0, hb⟩; refine ⟨_, rfl, ?_⟩; have HO105 := Qaa.mk (Kd.Qa8 (Kd.QbO (Kd.R_new' ho0 (Kd.R_lt (ro_ HO_6))) (g := gb101) bk_) (QaI bw_)); replace HO_6 := Qaa.mk (Kd.QbP (ro_ HO_6) (Kd.Qco ho0) hb); replace BK101 := Qaa.mk (Qab (g := gb101) bk_ hb); replace BK102 := Qaa.mk (Qab (g := gb102) bk_ hb); replace HB := Qaa.mk (Qag bw_ hb); (try clear hb); (try clear hb2); (try clear hk); (try clear hi); (try clear ho0); have hnb24 := NB101_102.out; have hnc24 := NB102_101.out; obtain ⟨c25_0, c25_1, c25_2⟩ := Qbn BK101.out; obtain ⟨f25_0, f25_1, f25_2⟩ := fz_3 BK101.out; obtain ⟨Ao26, co26, eo26⟩ := Kd.Qa4 HO105.out; subst eo26) | ((with_reducible refine QaC (f := 23) rfl ?_); refine gL 17 Tryz.func23 #[.slice Ao26 t103.length co26, .agg #[.string a1_0, .string a1_1, .string a1_2]] ?_; (with_reducible refine (Qau.calls k1 _ _ t103 a1_0 a1_1 a1_2 false _ ?side1 ?side2 A7.out).mono ?_); (case side1 => exact kd_ ((Kd.QaG HO105.out).2.2)); (case side2 => exact (Kd.QaG HO105.out).2.1); rintro e w27 ⟨rfl, hb⟩; refine ⟨_, rfl, ?_⟩; replace HO_6 := Qaa.mk (Kd.QaJ (ro_ HO_6) hb); replace HO105 := Qaa.mk (Kd.QaJ (ro_ HO105) hb); replace BK101 := Qaa.mk (Qab (g := gb101) bk_ hb); replace BK102 := Qaa.mk (Qab (g := gb102) bk_ hb); replace HB := Qaa.mk (Qag bw_ hb); (try clear hb); (try clear hb2); (try clear hk); (try clear hi)))
      go_roundg k1
      case measure => have := HK1.out; omega
      case rel => exact ⟨(t103), H', ⟨by have := HK1.out; omega⟩, ⟨by (with_reducible repeat (first | apply Kd.QaM | apply Kd.QaP | apply Kd.QaO)); exact Kd.Qa2 HO105.out (fun _ hk => hk.2)⟩, ⟨by (with_reducible repeat (first | refine Qae ?_ _ | refine Qaf ?_ | refine Qad ?_ _)); exact BK101.out⟩, ⟨by (with_reducible repeat (first | refine Qae ?_ _ | refine Qaf ?_ | refine Qad ?_ _)); exact BK102.out⟩, ⟨bw_⟩⟩
 case rest =>
  clear HC3; (try clear c1); (try clear c2); (try clear p2); (try clear c8); (try clear c11); (try clear c15); (try clear c15b0); (try clear c15b1); (try clear c15b2); (try clear c18); (try clear c23); (try clear c24); (try clear c27); (try clear c12_0 c12_1 c12_2); (try clear c19_0 c19_1 c19_2); (try clear c25_0 c25_1 c25_2); (try clear f12_0 f12_1 f12_2); (try clear f19_0 f19_1 f19_2); (try clear f25_0 f25_1 f25_2); (try clear p2); obtain ⟨kq, x6_2, HA, HJ2, HO_6, BK101, BK102, HB⟩ := hcut
  cases kq with
  | zero => exact absurd HA.out (by simp [Qan.j1])
  | succ kj2 =>
   have H := HA.out; clear HA; simp only [Qan.j1] at H; have H' := Qaa.mk H; clear H; go_wp2
   go_loopg [9] kj2 (fun kq v9 w' => ∃ (x9_2 : Int) (x103000_2 : Int) (x103001_2 : Int), v9 = .int .i64 x9_2 ∧ Qaa (Qan.l1 kq l0 x6_2 x9_2 a1_0 a1_1 a1_2 = some (r1, r2, r3)) ∧ Qaa (kq ≤ kj2) ∧ Qaa (Kd.R k51 51 w' w.heap.size (fun k_ => k_ ≠ gb101) u6 x6_2) ∧ Qaa (w'.heap[gb101]? = some (.cells #[.string a1_0, .string a1_1, .string a1_2] 51 (0, 0))) ∧ Qaa (w'.heap[gb102]? = some (.cells #[.int .i64 x103000_2, .int .i64 x103001_2] 27 (0, 0))) ∧ Qaa (Below w.heap.size w w'))
   case atStart => exact ⟨(0), (0), (0), (by first | rfl | (simp; done) | (simp [*]; done)), H', ⟨Nat.le_refl _⟩, ⟨by (with_reducible repeat (first | apply Kd.QaM | apply Kd.QaP | apply Kd.QaO)); exact HO_6.out⟩, ⟨by (with_reducible repeat (first | refine Qae ?_ _ | refine Qaf ?_ | refine Qad ?_ _)); exact BK101.out⟩, ⟨by (with_reducible repeat (first | refine Qae ?_ _ | refine Qaf ?_ | refine Qad ?_ _)); exact BK102.out⟩, ⟨bw_⟩⟩
   case round =>
    clear H'; (try clear c1); (try clear c2); (try clear p2); (try clear c8); (try clear c11); (try clear c15); (try clear c15b0); (try clear c15b1); (try clear c15b2); (try clear c18); (try clear c23); (try clear c24); (try clear c27); (try clear c12_0 c12_1 c12_2); (try clear c19_0 c19_1 c19_2); (try clear c25_0 c25_1 c25_2); (try clear f12_0 f12_1 f12_2); (try clear f19_0 f19_1 f19_2); (try clear f25_0 f25_1 f25_2); (try clear p2); obtain ⟨x9_2, x103000_2, x103001_2, rfl, HA, HK2, HO_6, BK101, BK102, HB⟩ := hrel
    cases gk with
    | zero => exact absurd HA.out (by simp [Qan.l1])
    | succ k2 =>
     have H := HA.out; clear HA; simp only [Qan.l1] at H
     by_cases c28 : x9_2 < (l0.length : Int)
     ·rw [if_pos c28] at H; have c28b0 : decide (x9_2 < (l0.length : Int)) = true := decide_eq_true c28; clear c28
      by_cases c29 : 0 ≤ x9_2
      ·rw [if_pos c29] at H; have c29b0 : decide (0 ≤ x9_2) = true := decide_eq_true c29; clear c29; replace H := Option.bind_eq_some_iff.mp H; obtain ⟨⟨t108, t111⟩, A300, H⟩ := H; replace H : (if t111 = true then (some ((Qah l0 x9_2).f0.f0, (Qah l0 x9_2).f0.f1, t108)) else (Qan.l1 k2 l0 x6_2 (wrap64 (x9_2 + 1)) a1_0 a1_1 a1_2)) = some (r1, r2, r3) := H; have A30 := Qaa.mk A300; clear A300
       by_cases c31 : t111 = true
       ·subst c31
        have H1 : (some ((Qah l0 x9_2).f0.f0, (Qah l0 x9_2).f0.f1, t108)) = some (r1, r2, r3) := by rw [if_pos rfl] at H; exact H
        clear H; have H := H1; clear H1; simp only [Option.some.injEq, Prod.mk.injEq] at H; obtain ⟨rfl, rfl, rfl⟩ := H
        try go_wp2
        replace HO_6 := Qaa.mk (Kd.QaO HO_6.out); replace BK101 := Qaa.mk (Qaf BK101.out); replace BK102 := Qaa.mk (Qaf BK102.out); replace HB := Qaa.mk (Qam HB.out); have p107 : 0 ≤ (x9_2 : Int) := dd_; have q107 : x9_2 < (l0.length : Int) := dd_; obtain ⟨ad107, e107, hx107_0, hx107_1, hx107_2, hx107_3, hx107_4, hx107_5, hx107_6, hx107_7, hx107_8⟩ := Qcs HR0.out x9_2 p107 q107; have hw107_8 := hx107_8; have hw107_7 := hx107_7; have hw107_6 := hx107_6; have hw107_5 := hx107_5; have hw107_4 := hx107_4; have hw107_3 := hx107_3; have hw107_2 := hx107_2; have hw107_1 := hx107_1; have hw107_0 := hx107_0; cases e107; replace hx107_0 := cb_ HB hx107_0; replace hx107_1 := cb_ HB hx107_1; replace hx107_2 := cb_ HB hx107_2; replace hx107_3 := cb_ HB hx107_3; replace hx107_4 := cb_ HB hx107_4; replace hx107_5 := cb_ HB hx107_5; replace hx107_6 := cb_ HB hx107_6
        replace hx107_7 := cb_ HB hx107_7; replace hx107_8 := cb_ HB hx107_8; replace p107 := eq_true p107; replace q107 := eq_true q107; obtain ⟨Ao33, co33, eo33⟩ := Kd.Qa4 HO_6.out
        (first | subst eo33 | (injection eo33 with f1_ f2_ f3_; have f4_ := f1_.symm; have f5_ := f3_.symm; clear f1_ f2_ f3_; subst f4_; subst f5_))
        refine Qbt (n := 12) (S := fun w' => cg_sss w' gb101 a1_0 a1_1 a1_2 (crl_iisisssss w' (ad107.add ((x9_2).toNat * 9)) ((Qah l0 x9_2).f0.f0) ((Qah l0 x9_2).f0.f1) ((Qah l0 x9_2).f1) ((Qah l0 x9_2).f2) ((Qah l0 x9_2).f3) ((Qah l0 x9_2).f4.f0) ((Qah l0 x9_2).f4.f1) ((Qah l0 x9_2).f5.f0) ((Qah l0 x9_2).f5.f1))) (ds := []) #[ff,ff,ff,ff,ff,ff,ff,ff,ff,ff,ff,ff] (by kernel_rfl) rfl rfl (cw_3 BK101.out ⟨(cb_ HB hw107_0), (cb_ HB hw107_1), (cb_ HB hw107_2), (cb_ HB hw107_3), (cb_ HB hw107_4), (cb_ HB hw107_5), (cb_ HB hw107_6), (cb_ HB hw107_7), (cb_ HB hw107_8)⟩) (fun hHeld => ?_); refine Qbh Qan.tab9 Qan.bits9 (fun HT_ HW_ => ?_)
        generalize wr.drew = w32 at HO_6 BK101 BK102 HB hx107_0 hx107_1 hx107_2 hx107_3 hx107_4 hx107_5 hx107_6 hx107_7 hx107_8 hHeld ⊢
        refine pz 0 34 ?_; refine pz 1 35 ?_; refine pz 2 36 ?_; refine pz 5 39 ?_; refine tk12 3 37 ?_; refine tk12 4 38 ?_; refine one_ (i := 6) (N := some 40) #[tt,tt,tt,tt,tt,tt,tt,ff,ff,ff,ff,ff] rfl rfl (Qbx HT_.out (by kernel_rfl)) (by decide) (fun K hK => ?_); refine QbY Tryz.func42 (by kernel_rfl) rfl #[.agg #[.int .i64 ((Qah l0 x9_2).f0.f0), .int .i64 ((Qah l0 x9_2).f0.f1), .string ((Qah l0 x9_2).f1), .int .i64 ((Qah l0 x9_2).f2), .string ((Qah l0 x9_2).f3), .string ((Qah l0 x9_2).f4.f0), .string ((Qah l0 x9_2).f4.f1), .string ((Qah l0 x9_2).f5.f0), .string ((Qah l0 x9_2).f5.f1)], .agg #[.string a1_0, .string a1_1, .string a1_2], .slice Ao33 x6_2.length co33] (by rfl) rfl rfl (by (try simp only [List.map_toArray, List.map_cons, List.map_nil]); first | done | rfl | (simp only [List.length_drop, List.length_take]; rfl)) ?_
        with_reducible refine (QaA.calls k2 ((Qah l0 x9_2).f0.f0) ((Qah l0 x9_2).f0.f1) ((Qah l0 x9_2).f1) ((Qah l0 x9_2).f2) ((Qah l0 x9_2).f3) ((Qah l0 x9_2).f4.f0) ((Qah l0 x9_2).f4.f1) ((Qah l0 x9_2).f5.f0) ((Qah l0 x9_2).f5.f1) a1_0 a1_1 a1_2 _ _ x6_2 t108 true _ ?side1 ?side2 A30.out).mono ?_
        (case side1 => exact kd_ ((Kd.QaG HO_6.out).2.2))
        (case side2 => exact (Kd.QaG HO_6.out).2.1)
        rintro e w34 ⟨v109, rfl, ho0, hb⟩; refine ⟨_, rfl, ?_⟩; have HO110 := Qaa.mk (Kd.Qa8 (Kd.QbO (Kd.R_new' ho0 (Kd.R_lt (ro_ HO_6))) (g := gb101) bk_) (QaI bw_)); replace HO_6 := Qaa.mk (Kd.QbP (ro_ HO_6) (Kd.Qco ho0) hb); replace BK101 := Qaa.mk (Qab (g := gb101) bk_ hb); replace BK102 := Qaa.mk (Qab (g := gb102) bk_ hb); replace HB := Qaa.mk (Qag bw_ hb)
        (try clear hb)
        (try clear hb2)
        (try clear hk)
        (try clear hi)
        (try clear ho0)
        refine hK.out _ _ (cw_3 BK101.out ⟨(cb_ HB hw107_0), (cb_ HB hw107_1), (cb_ HB hw107_2), (cb_ HB hw107_3), (cb_ HB hw107_4), (cb_ HB hw107_5), (cb_ HB hw107_6), (cb_ HB hw107_7), (cb_ HB hw107_8)⟩) (fun hHeld => ?_); clear hK K; refine Qbu (a' := ?_) ?_ ?_; rotate_left
        ·show Act.put _ (some 40) _ = _
         simp only [Act.put, put_, Qbl, Qbm]; rfl
        refine pz 7 33 ?_; refine pz 8 41 ?_; refine pz 9 42 ?_; refine pz 10 10 ?_; refine pz 11 11 ?_; refine QbK (Qbz HT_.out (by kernel_rfl)) ?_; have p112 : 0 ≤ (x9_2 : Int) := dd_; have q112 : x9_2 < (l0.length : Int) := dd_; obtain ⟨ad112, e112, hx112_0, hx112_1, hx112_2, hx112_3, hx112_4, hx112_5, hx112_6, hx112_7, hx112_8⟩ := Qcs HR0.out x9_2 p112 q112
        obtain rfl : ad107 = ad112 := (by injection e112)
        replace hx112_0 := cb_ HB hx112_0; replace hx112_1 := cb_ HB hx112_1; replace hx112_2 := cb_ HB hx112_2; replace hx112_3 := cb_ HB hx112_3; replace hx112_4 := cb_ HB hx112_4; replace hx112_5 := cb_ HB hx112_5; replace hx112_6 := cb_ HB hx112_6; replace hx112_7 := cb_ HB hx112_7; replace hx112_8 := cb_ HB hx112_8; replace p112 := eq_true p112; replace q112 := eq_true q112; have hnb35 := NB102_101.out; have hnc35 := NB101_102.out; obtain ⟨c36_0, c36_1⟩ := cz_ii BK102.out; obtain ⟨f36_0, f36_1⟩ := fz_2 BK102.out
        try go_wp2
        refine bodyPost_ret (results_ct rfl _ _ gb102 27 #[.int .i64 ((Qah l0 x9_2).f0.f0), .int .i64 ((Qah l0 x9_2).f0.f1)] (0, 0) _ rfl (by (with_reducible repeat (first | refine Qae ?_ _ | refine Qaf ?_ | refine Qad ?_ _)); refine Qao (cs := #[.int .i64 ((Qah l0 x9_2).f0.f0), .int .i64 x103001_2]) ?_ 1 _ rfl; (with_reducible repeat (first | refine Qae ?_ _ | refine Qaf ?_ | refine Qad ?_ _)); refine Qao (cs := #[.int .i64 x103000_2, .int .i64 x103001_2]) ?_ 0 _ rfl; (with_reducible repeat (first | refine Qae ?_ _ | refine Qaf ?_ | refine Qad ?_ _)); exact BK102.out) Tryz.underlying27 rfl (by kernel_rfl)) rfl ?_; exact ⟨_, by first | rfl | (simp [Qat, Qas] <;> rfl) | (simp [*, Qat, Qas] <;> rfl), by (with_reducible repeat (first | apply Kd.QaM | apply Kd.QaP | apply Kd.QaO)); exact Kd.Qa2 (Kd.Qa6 (p := ⟨gb102, 1, none⟩) (Kd.Qa6 (p := ⟨gb102, 0, none⟩) (Kd.R_types HO110.out BK102.out (by decide)) (fun _ hk => hk.2) (.int .i64 ((Qah l0 x9_2).f0.f0))) (fun _ hk => hk.2) (.int .i64 ((Qah l0 x9_2).f0.f1))) (fun _ hk => trivial), bw_⟩
       ·replace c31 := Bool.eq_false_iff.mpr c31; subst c31
        have H1 : (Qan.l1 k2 l0 x6_2 (wrap64 (x9_2 + 1)) a1_0 a1_1 a1_2) = some (r1, r2, r3) := by rw [if_neg (show ¬ (false = true) by decide)] at H; exact H
        clear H; have H := H1; clear H1; have H' := Qaa.mk H; clear H
        try go_wp2
        replace HO_6 := Qaa.mk (Kd.QaO HO_6.out); replace BK101 := Qaa.mk (Qaf BK101.out); replace BK102 := Qaa.mk (Qaf BK102.out); replace HB := Qaa.mk (Qam HB.out); have p107 : 0 ≤ (x9_2 : Int) := dd_; have q107 : x9_2 < (l0.length : Int) := dd_; obtain ⟨ad107, e107, hx107_0, hx107_1, hx107_2, hx107_3, hx107_4, hx107_5, hx107_6, hx107_7, hx107_8⟩ := Qcs HR0.out x9_2 p107 q107; have hw107_8 := hx107_8; have hw107_7 := hx107_7; have hw107_6 := hx107_6; have hw107_5 := hx107_5; have hw107_4 := hx107_4; have hw107_3 := hx107_3; have hw107_2 := hx107_2; have hw107_1 := hx107_1; have hw107_0 := hx107_0; cases e107; replace hx107_0 := cb_ HB hx107_0; replace hx107_1 := cb_ HB hx107_1; replace hx107_2 := cb_ HB hx107_2; replace hx107_3 := cb_ HB hx107_3; replace hx107_4 := cb_ HB hx107_4; replace hx107_5 := cb_ HB hx107_5; replace hx107_6 := cb_ HB hx107_6
        replace hx107_7 := cb_ HB hx107_7; replace hx107_8 := cb_ HB hx107_8; replace p107 := eq_true p107; replace q107 := eq_true q107; obtain ⟨Ao38, co38, eo38⟩ := Kd.Qa4 HO_6.out
        (first | subst eo38 | (injection eo38 with f1_ f2_ f3_; have f4_ := f1_.symm; have f5_ := f3_.symm; clear f1_ f2_ f3_; subst f4_; subst f5_))
        refine Qbt (n := 12) (S := fun w' => cg_sss w' gb101 a1_0 a1_1 a1_2 (crl_iisisssss w' (ad107.add ((x9_2).toNat * 9)) ((Qah l0 x9_2).f0.f0) ((Qah l0 x9_2).f0.f1) ((Qah l0 x9_2).f1) ((Qah l0 x9_2).f2) ((Qah l0 x9_2).f3) ((Qah l0 x9_2).f4.f0) ((Qah l0 x9_2).f4.f1) ((Qah l0 x9_2).f5.f0) ((Qah l0 x9_2).f5.f1))) (ds := []) #[ff,ff,ff,ff,ff,ff,ff,ff,ff,ff,ff,ff] (by kernel_rfl) rfl rfl (cw_3 BK101.out ⟨(cb_ HB hw107_0), (cb_ HB hw107_1), (cb_ HB hw107_2), (cb_ HB hw107_3), (cb_ HB hw107_4), (cb_ HB hw107_5), (cb_ HB hw107_6), (cb_ HB hw107_7), (cb_ HB hw107_8)⟩) (fun hHeld => ?_); refine Qbh Qan.tab9 Qan.bits9 (fun HT_ HW_ => ?_)
        generalize wr.drew = w37 at HO_6 BK101 BK102 HB hx107_0 hx107_1 hx107_2 hx107_3 hx107_4 hx107_5 hx107_6 hx107_7 hx107_8 hHeld ⊢
        refine pz 0 34 ?_; refine pz 1 35 ?_; refine pz 2 36 ?_; refine pz 5 39 ?_; refine tk12 3 37 ?_; refine tk12 4 38 ?_; refine one_ (i := 6) (N := some 40) #[tt,tt,tt,tt,tt,tt,tt,ff,ff,ff,ff,ff] rfl rfl (Qbx HT_.out (by kernel_rfl)) (by decide) (fun K hK => ?_); refine QbY Tryz.func42 (by kernel_rfl) rfl #[.agg #[.int .i64 ((Qah l0 x9_2).f0.f0), .int .i64 ((Qah l0 x9_2).f0.f1), .string ((Qah l0 x9_2).f1), .int .i64 ((Qah l0 x9_2).f2), .string ((Qah l0 x9_2).f3), .string ((Qah l0 x9_2).f4.f0), .string ((Qah l0 x9_2).f4.f1), .string ((Qah l0 x9_2).f5.f0), .string ((Qah l0 x9_2).f5.f1)], .agg #[.string a1_0, .string a1_1, .string a1_2], .slice Ao38 x6_2.length co38] (by rfl) rfl rfl (by (try simp only [List.map_toArray, List.map_cons, List.map_nil]); first | done | rfl | (simp only [List.length_drop, List.length_take]; rfl)) ?_
        with_reducible refine (QaA.calls k2 ((Qah l0 x9_2).f0.f0) ((Qah l0 x9_2).f0.f1) ((Qah l0 x9_2).f1) ((Qah l0 x9_2).f2) ((Qah l0 x9_2).f3) ((Qah l0 x9_2).f4.f0) ((Qah l0 x9_2).f4.f1) ((Qah l0 x9_2).f5.f0) ((Qah l0 x9_2).f5.f1) a1_0 a1_1 a1_2 _ _ x6_2 t108 false _ ?side1 ?side2 A30.out).mono ?_
        (case side1 => exact kd_ ((Kd.QaG HO_6.out).2.2))
        (case side2 => exact (Kd.QaG HO_6.out).2.1)
        rintro e w39 ⟨v109, rfl, ho0, hb⟩; refine ⟨_, rfl, ?_⟩; have HO110 := Qaa.mk (Kd.Qa8 (Kd.QbO (Kd.R_new' ho0 (Kd.R_lt (ro_ HO_6))) (g := gb101) bk_) (QaI bw_)); replace HO_6 := Qaa.mk (Kd.QbP (ro_ HO_6) (Kd.Qco ho0) hb); replace BK101 := Qaa.mk (Qab (g := gb101) bk_ hb); replace BK102 := Qaa.mk (Qab (g := gb102) bk_ hb); replace HB := Qaa.mk (Qag bw_ hb)
        (try clear hb)
        (try clear hb2)
        (try clear hk)
        (try clear hi)
        (try clear ho0)
        refine hK.out _ _ (cw_3 BK101.out ⟨(cb_ HB hw107_0), (cb_ HB hw107_1), (cb_ HB hw107_2), (cb_ HB hw107_3), (cb_ HB hw107_4), (cb_ HB hw107_5), (cb_ HB hw107_6), (cb_ HB hw107_7), (cb_ HB hw107_8)⟩) (fun hHeld => ?_); clear hK K; refine Qbu (a' := ?_) ?_ ?_; rotate_left
        ·show Act.put _ (some 40) _ = _
         simp only [Act.put, put_, Qbl, Qbm]; rfl
        refine pz 7 33 ?_; refine pz 8 41 ?_; refine pz 9 42 ?_; refine pz 10 10 ?_; refine pz 11 11 ?_; refine QbK (Qbz HT_.out (by kernel_rfl)) ?_
        try go_wp2
        go_roundg k2
        case measure => have := HJ2.out; have := HK2.out; omega
        case rel => exact ⟨(wrap64 (x9_2 + 1)), (x103000_2), (x103001_2), (by first | rfl | (simp; done) | (simp [*]; done)), H', ⟨by have := HJ2.out; have := HK2.out; omega⟩, ⟨by (with_reducible repeat (first | apply Kd.QaM | apply Kd.QaP | apply Kd.QaO)); exact Kd.Qa2 HO_6.out (fun _ hk => hk.1)⟩, ⟨by (with_reducible repeat (first | refine Qae ?_ _ | refine Qaf ?_ | refine Qad ?_ _)); exact BK101.out⟩, ⟨by (with_reducible repeat (first | refine Qae ?_ _ | refine Qaf ?_ | refine Qad ?_ _)); exact BK102.out⟩, ⟨bw_⟩⟩
      ·rw [if_neg c29] at H; exact absurd H (by simp)
     ·rw [if_neg c28] at H; have c28b0 : decide (x9_2 < (l0.length : Int)) = false := decide_eq_false c28; clear c28; simp only [Option.some.injEq, Prod.mk.injEq] at H; obtain ⟨rfl, rfl, rfl⟩ := H; have hnb40 := NB102_101.out; have hnc40 := NB101_102.out; have c41_0 : wr.cell? ⟨gb102, 0, none⟩ = some (.int .i64 x103000_2) := (Qai BK102.out 0).trans rfl; have c41_1 : wr.cell? ⟨gb102, 1, none⟩ = some (.int .i64 x103001_2) := (Qai BK102.out 1).trans rfl; obtain ⟨f41_0, f41_1⟩ := fz_2 BK102.out; go_wp2; refine bodyPost_ret (results_ct rfl _ _ gb102 27 #[.int .i64 0, .int .i64 0] (0, 0) _ rfl (by (with_reducible repeat (first | refine Qae ?_ _ | refine Qaf ?_ | refine Qad ?_ _)); refine Qao (cs := #[.int .i64 0, .int .i64 x103001_2]) ?_ 1 _ rfl; (with_reducible repeat (first | refine Qae ?_ _ | refine Qaf ?_ | refine Qad ?_ _)); refine Qao (cs := #[.int .i64 x103000_2, .int .i64 x103001_2]) ?_ 0 _ rfl; (with_reducible repeat (first | refine Qae ?_ _ | refine Qaf ?_ | refine Qad ?_ _)); exact BK102.out) Tryz.underlying27 rfl (by kernel_rfl)) rfl ?_; exact ⟨_, by first | rfl | (simp [Qat, Qas] <;> rfl) | (simp [*, Qat, Qas] <;> rfl), by first | exact Kd.Qci _ _ _ _ _ | exact Kd.N_nil _ _ _ _ _ | exact Kd.V_nil _ _ _ _ _ | exact Kd.Q_nil _ _ _ _ _ | exact Kd.S_nil _ _ _ _ _, bw_⟩

mutual
def QaE.l0 : Nat → List (S46) → List (S51) → Int → ByteArray → ByteArray → ByteArray → Int → Int → List (S30) → Option (ByteArray × ByteArray × ByteArray × Int × Int × (List (S30)))
 | 0, _, _, _, _, _, _, _, _, _ => none
 | k + 1, x0, x6, x8, x110000, x110001, x110002, x110003, x110004, x110005 => if x8 < (x6.length : Int) then (if 0 ≤ x8 then ((QaE.f k x0 ((Qaq x6 x8).f0.f0) ((Qaq x6 x8).f0.f1) ((Qaq x6 x8).f1)).bind fun bt111 => (if x110005.length < 1599289640401 then (QaE.l0 k x0 x6 (wrap64 (x8 + 1)) x110000 x110001 x110002 x110003 x110004 (x110005 ++ [(⟨(⟨bt111.1, bt111.2.1⟩ : S24), bt111.2.2.1, (⟨bt111.2.2.2.1, bt111.2.2.2.2.1⟩ : S27), bt111.2.2.2.2.2⟩ : S30)])) else (none))) else (none)) else (some (x110000, x110001, x110002, x110003, x110004, x110005))
def QaE.f : Nat → List (S46) → ByteArray → ByteArray → ByteArray → Option (ByteArray × ByteArray × ByteArray × Int × Int × (List (S30)))
 | 0, _, _, _, _ => none
 | k + 1, l0, a1_0, a1_1, a1_2 => (Qan.f k l0 a1_0 a1_1 a1_2).bind fun bt103 => (QaE.l0 k l0 bt103.2.2 0 a1_0 a1_1 a1_2 bt103.1 bt103.2.1 ([] : List (S30)))
end
def QaE.T6 : Bool × List (List Nat × List Nat) := (true, [([], []), ([0], [0]), ([], []), ([], []), ([], []), ([3, 4], [3, 4]), ([5], [5]), ([2, 6], [2, 6]), ([7], [7]), ([1, 8, 7], [1, 8]), ([0, 1, 2, 3, 4, 5, 6, 7, 8, 9], []), ([10, 9, 9, 0, 1, 2, 3, 4, 5, 6, 7, 8, 9], [9, 10])])
def QaE.B6 : List Nat := [0, 1, 0, 0, 0, 24, 56, 124, 252, 511, 1023, 2047]
theorem QaE.tab6 : rtab .any (opsOf Tryz.f26 6) = QaE.T6 := by kernel_rfl
theorem QaE.bits6 : waitsOk QaE.T6.2 QaE.B6 = true := by kernel_rfl
set_option maxHeartbeats 8000000 in
set_option maxRecDepth 100000 in
theorem QaE.calls (k : Nat) : ∀ (A0 : Option Addr) (c0 : Nat) (l0 : List (S46)) (a1_0 : ByteArray) (a1_1 : ByteArray) (a1_2 : ByteArray) (r1 : ByteArray) (r2 : ByteArray) (r3 : ByteArray) (r4 : Int) (r5 : Int) (r6 : List (S30)) (w : World) (hr0 : Kd.C k46 w A0 l0.length l0) (hc0 : l0.length ≤ c0) (h : QaE.f k l0 a1_0 a1_1 a1_2 = some (r1, r2, r3, r4, r5, r6)),
  Calls Tryz.prog 26 #[.slice A0 l0.length c0, .agg #[.string a1_0, .string a1_1, .string a1_2]] w fun e w' => ∃ v5_ : Value, e = .returned (.agg #[.string r1, .string r2, .string r3, .int .i64 r4, .int .i64 r5, v5_]) ∧ Kd.R k30 30 w' w.heap.size (fun _ => True) v5_ r6 ∧ Below w.heap.size w w' := by
 induction k using Nat.strongRecOn with
 | _ k ih =>
 intro A0 c0 l0 a1_0 a1_1 a1_2 r1 r2 r3 r4 r5 r6 w hr0 hc0 h
 cases k with
 | zero => exact absurd h (by simp [QaE.f])
 | succ k =>
 simp only [QaE.f] at h; have hu51 := Tryz.underlying51; have hu30 := Tryz.underlying30; have hu27 := Tryz.underlying27; have hu24 := Tryz.underlying24; have HR0 := Qaa.mk hr0; have HC0 := Qaa.mk hc0; clear hr0 hc0; have HB := Qaa.mk (Below.refl w.heap.size w); have H : ((Qan.f k l0 a1_0 a1_1 a1_2).bind fun bt103 => (QaE.l0 k l0 bt103.2.2 0 a1_0 a1_1 a1_2 bt103.1 bt103.2.1 ([] : List (S30)))) = some (r1, r2, r3, r4, r5, r6) := h; clear h; replace H := Option.bind_eq_some_iff.mp H; obtain ⟨⟨t103, t104, t105⟩, A30, H⟩ := H; replace H : (QaE.l0 k l0 t105 0 a1_0 a1_1 a1_2 t103 t104 ([] : List (S30))) = some (r1, r2, r3, r4, r5, r6) := H; have A3 := Qaa.mk A30; clear A30; have H' := Qaa.mk H; clear H; go_enter Tryz.func26, Tryz.ntmps26
 go_wp2_with (first | ((with_reducible refine QaH (N := 3) rfl ?_); refine QaD ?hg (N := 3) ?hd (cs := #[.string a1_0, .string a1_1, .string a1_2]) (t := 51) ?hr ?_; (case hd => rfl); (case hg => rfl); (case hr => first | (go_simp; done) | (go_simp; rfl)); intro gb101 hg w4 hbox hb; have BK101 := Qaa.mk (hbox); have GW101 := (gz_ hg : Qaa (w.heap.size ≤ gb101)); have GE101 := (gz_ hg : Qaa (w.heap.size ≤ gb101)); replace HB := Qaa.mk (Qag bw_ hb); clear hb hbox hg) | ((with_reducible refine QaH (N := 4) rfl ?_); refine QaD ?hg (N := 4) ?hd (cs := #[.string (⟨#[]⟩ : ByteArray), .string (⟨#[]⟩ : ByteArray), .string (⟨#[]⟩ : ByteArray), .int .i64 0, .int .i64 0, .slice none 0 0]) (t := 30) ?hr ?_; (case hd => rfl); (case hg => rfl); (case hr => first | (go_simp; done) | (go_simp; rfl)); intro gb102 hg w5 hbox hb; have BK102 := Qaa.mk (hbox); have GW102 := (gz_ hg : Qaa (w.heap.size ≤ gb102)); have GE102 := (gz_ hg : Qaa (w.heap.size ≤ gb102)); have NB101_102 := (nl_ hg : Qaa (gb101 ≠ gb102)); have NB102_101 := (ng_ hg : Qaa (gb102 ≠ gb101)); replace BK101 := Qaa.mk (Qab (g := gb101) bk_ hb); replace HB := Qaa.mk (Qag bw_ hb); clear hb hbox hg; have hnb6 := NB101_102.out; have hnc6 := NB102_101.out; obtain ⟨c7_0, c7_1, c7_2⟩ := Qbn BK101.out; obtain ⟨f7_0, f7_1, f7_2⟩ := fz_3 BK101.out) | ((with_reducible refine QaC (f := 29) rfl ?_); refine gL 12 Tryz.func29 #[.slice A0 l0.length c0, .agg #[.string a1_0, .string a1_1, .string a1_2]] ?_; (with_reducible refine (Qan.calls k _ _ l0 a1_0 a1_1 a1_2 t103 t104 t105 _ ?side1 ?side2 A3.out).mono ?_); (case side1 => exact kd_ (Kd.Qbe HR0.out HB.out)); (case side2 => exact HC0.out); rintro e w8 ⟨v106, rfl, ho0, hb⟩; refine ⟨_, rfl, ?_⟩; have HO107 := Qaa.mk (Kd.Qa8 (Kd.QbO ho0 (g := gb101) bk_) (QaI bw_)); replace BK101 := Qaa.mk (Qab (g := gb101) bk_ hb); replace BK102 := Qaa.mk (Qab (g := gb102) bk_ hb); replace HB := Qaa.mk (Qag bw_ hb); (try clear hb); (try clear hb2); (try clear hk); (try clear hi); (try clear ho0)) | ((with_reducible refine QaH (N := 5) rfl ?_); refine QaD ?hg (N := 5) ?hd (cs := #[.int .i64 0, .int .i64 0]) (t := 27) ?hr ?_; (case hd => rfl); (case hg => rfl); (case hr => first | (go_simp; done) | (go_simp; rfl)); intro gb108 hg w9 hbox hb; have BK108 := Qaa.mk (hbox); have GW108 := (gz_ hg : Qaa (w.heap.size ≤ gb108)); have GE108 := (gz_ hg : Qaa (w.heap.size ≤ gb108)); have NB101_108 := (nl_ hg : Qaa (gb101 ≠ gb108)); have NB108_101 := (ng_ hg : Qaa (gb108 ≠ gb101)); have NB102_108 := (nl_ hg : Qaa (gb102 ≠ gb108)); have NB108_102 := (ng_ hg : Qaa (gb108 ≠ gb102)); replace HO107 := Qaa.mk (Kd.QaJ (ro_ HO107) hb); replace BK101 := Qaa.mk (Qab (g := gb101) bk_ hb); replace BK102 := Qaa.mk (Qab (g := gb102) bk_ hb); replace HB := Qaa.mk (Qag bw_ hb); clear hb hbox hg; have hnb10 := NB108_101.out; have hnc10 := NB101_108.out; have hnb11 := NB108_102.out; have hnc11 := NB102_108.out; obtain ⟨c12_0, c12_1⟩ := cz_ii BK108.out; obtain ⟨f12_0, f12_1⟩ := fz_2 BK108.out; obtain ⟨c13_0, c13_1, c13_2⟩ := Qbn BK101.out; obtain ⟨f13_0, f13_1, f13_2⟩ := fz_3 BK101.out) | ((with_reducible refine QaH (N := 7) rfl ?_); refine QaD ?hg (N := 7) ?hd (cs := #[.string (⟨#[]⟩ : ByteArray), .string (⟨#[]⟩ : ByteArray), .string (⟨#[]⟩ : ByteArray), .int .i64 0, .int .i64 0, .slice none 0 0]) (t := 30) ?hr ?_; (case hd => rfl); (case hg => rfl); (case hr => first | (go_simp; done) | (go_simp; rfl)); intro gb109 hg w14 hbox hb; have BK109 := Qaa.mk (hbox); have GW109 := (gz_ hg : Qaa (w.heap.size ≤ gb109)); have GE109 := (gz_ hg : Qaa (w.heap.size ≤ gb109)); have NB101_109 := Qaa.mk ((by rw [hg]; exact Nat.ne_of_lt (Qbb (g := gb101) (o := Qbg a1_0 a1_1 a1_2 51) bf_) : gb101 ≠ gb109)); have NB109_101 := Qaa.mk ((by rw [hg]; exact Nat.ne_of_gt (Qbb (g := gb101) (o := Qbg a1_0 a1_1 a1_2 51) bf_) : gb109 ≠ gb101)); have NB102_109 := Qaa.mk ((by rw [hg]; exact Nat.ne_of_lt (Qbb (g := gb102) (o := Qcb (⟨#[]⟩ : ByteArray) (⟨#[]⟩ : ByteArray) (⟨#[]⟩ : ByteArray) 0 0 (.slice none 0 0) 30) bf_) : gb102 ≠ gb109)); have NB109_102 := Qaa.mk ((by rw [hg]; exact Nat.ne_of_gt (Qbb (g := gb102) (o := Qcb (⟨#[]⟩ : ByteArray) (⟨#[]⟩ : ByteArray) (⟨#[]⟩ : ByteArray) 0 0 (.slice none 0 0) 30) bf_) : gb109 ≠ gb102)); have NB108_109 := Qaa.mk ((by rw [hg]; exact Nat.ne_of_lt (Qbb (g := gb108) (o := ob_ii t103 t104 27) (by (with_reducible repeat (first | refine Qae ?_ _ | refine Qaf ?_ | refine Qad ?_ _)); refine Qao (cs := #[.int .i64 t103, .int .i64 0]) ?_ 1 _ rfl; (with_reducible repeat (first | refine Qae ?_ _ | refine Qaf ?_ | refine Qad ?_ _)); refine Qao (cs := #[.int .i64 0, .int .i64 0]) ?_ 0 _ rfl; (with_reducible repeat (first | refine Qae ?_ _ | refine Qaf ?_ | refine Qad ?_ _)); exact BK108.out)) : gb108 ≠ gb109)); have NB109_108 := Qaa.mk ((by rw [hg]; exact Nat.ne_of_gt (Qbb (g := gb108) (o := ob_ii t103 t104 27) (by (with_reducible repeat (first | refine Qae ?_ _ | refine Qaf ?_ | refine Qad ?_ _)); refine Qao (cs := #[.int .i64 t103, .int .i64 0]) ?_ 1 _ rfl; (with_reducible repeat (first | refine Qae ?_ _ | refine Qaf ?_ | refine Qad ?_ _)); refine Qao (cs := #[.int .i64 0, .int .i64 0]) ?_ 0 _ rfl; (with_reducible repeat (first | refine Qae ?_ _ | refine Qaf ?_ | refine Qad ?_ _)); exact BK108.out)) : gb109 ≠ gb108)); replace HO107 := Qaa.mk (Kd.QaJ (by (with_reducible repeat (first | apply Kd.QaM | apply Kd.QaP | apply Kd.QaO)); exact (Kd.Qa2 (Kd.Qa6 (p := ⟨gb108, 1, none⟩) (Kd.Qa6 (p := ⟨gb108, 0, none⟩) (Kd.R_types HO107.out BK108.out (by decide)) (fun _ hk => hk.2) (.int .i64 t103)) (fun _ hk => hk.2) (.int .i64 t104)) (fun _ h_ => h_.1))) hb); replace BK101 := Qaa.mk (Qab (g := gb101) (o := Qbg a1_0 a1_1 a1_2 51) bf_ hb); replace BK102 := Qaa.mk (Qab (g := gb102) (o := Qcb (⟨#[]⟩ : ByteArray) (⟨#[]⟩ : ByteArray) (⟨#[]⟩ : ByteArray) 0 0 (.slice none 0 0) 30) bf_ hb); replace BK108 := Qaa.mk (Qab (g := gb108) (o := ob_ii t103 t104 27) (by (with_reducible repeat (first | refine Qae ?_ _ | refine Qaf ?_ | refine Qad ?_ _)); refine Qao (cs := #[.int .i64 t103, .int .i64 0]) ?_ 1 _ rfl; (with_reducible repeat (first | refine Qae ?_ _ | refine Qaf ?_ | refine Qad ?_ _)); refine Qao (cs := #[.int .i64 0, .int .i64 0]) ?_ 0 _ rfl; (with_reducible repeat (first | refine Qae ?_ _ | refine Qaf ?_ | refine Qad ?_ _)); exact BK108.out) hb); replace HB := Qaa.mk (Qag bw_ hb); clear hb hbox hg; have hnb15 := NB109_101.out; have hnc15 := NB101_109.out; have hnb16 := NB109_102.out; have hnc16 := NB102_109.out; have hnb17 := NB109_108.out; have hnc17 := NB108_109.out; obtain ⟨c18_0, c18_1, c18_2, c18_3, c18_4, c18_5⟩ := QbB BK109.out; obtain ⟨f18_0, f18_1, f18_2, f18_3, f18_4, f18_5⟩ := fz_6 BK109.out))
 go_loopg [8] k (fun kq v8 w' => ∃ (x8_1 : Int) (x110005_1 : List (S30)) (u110005 : Value), v8 = .int .i64 x8_1 ∧ Qaa (QaE.l0 kq l0 t105 x8_1 a1_0 a1_1 a1_2 t103 t104 x110005_1 = some (r1, r2, r3, r4, r5, r6)) ∧ Qaa (kq ≤ k) ∧ Qaa (Kd.R k51 51 w' w.heap.size (fun k_ => k_ ≠ gb101) v106 t105) ∧ Qaa (Kd.R k30 30 w' w.heap.size (fun k_ => k_ ≠ gb102 ∧ k_ ≠ gb109) u110005 x110005_1) ∧ Qaa (w'.heap[gb101]? = some (.cells #[.string a1_0, .string a1_1, .string a1_2] 51 (0, 0))) ∧ Qaa (w'.heap[gb102]? = some (.cells #[.string (⟨#[]⟩ : ByteArray), .string (⟨#[]⟩ : ByteArray), .string (⟨#[]⟩ : ByteArray), .int .i64 0, .int .i64 0, (.slice none 0 0)] 30 (0, 0))) ∧ Qaa (w'.heap[gb108]? = some (.cells #[.int .i64 t103, .int .i64 t104] 27 (0, 0))) ∧ Qaa (w'.heap[gb109]? = some (.cells #[.string a1_0, .string a1_1, .string a1_2, .int .i64 t103, .int .i64 t104, u110005] 30 (0, 0))) ∧ Qaa (Below w.heap.size w w'))
 case atStart => exact ⟨(0), (([] : List (S30))), (.slice none 0 0), (by first | rfl | (simp; done) | (simp [*]; done)), H', ⟨Nat.le_refl _⟩, ⟨by (with_reducible repeat (first | apply Kd.QaM | apply Kd.QaP | apply Kd.QaO)); exact Kd.Qa2 (Kd.Qa6 (p := ⟨gb109, 5, none⟩) (Kd.Qa6 (p := ⟨gb109, 4, none⟩) (Kd.Qa6 (p := ⟨gb109, 3, none⟩) (Kd.Qa6 (p := ⟨gb109, 2, none⟩) (Kd.Qa6 (p := ⟨gb109, 1, none⟩) (Kd.Qa6 (p := ⟨gb109, 0, none⟩) (Kd.R_types HO107.out BK109.out (by decide)) (fun _ hk => hk.2) (.string a1_0)) (fun _ hk => hk.2) (.string a1_1)) (fun _ hk => hk.2) (.string a1_2)) (fun _ hk => hk.2) (.int .i64 t103)) (fun _ hk => hk.2) (.int .i64 t104)) (fun _ hk => hk.2) (.slice none 0 0)) (fun _ hk => hk.1.2)⟩, ⟨by first | exact Kd.Qci _ _ _ _ _ | exact Kd.N_nil _ _ _ _ _ | exact Kd.V_nil _ _ _ _ _ | exact Kd.Q_nil _ _ _ _ _ | exact Kd.S_nil _ _ _ _ _⟩, ⟨by (with_reducible repeat (first | refine Qae ?_ _ | refine Qaf ?_ | refine Qad ?_ _)); refine Qbo ?_ NB101_109.out _; (with_reducible repeat (first | refine Qae ?_ _ | refine Qaf ?_ | refine Qad ?_ _)); refine Qbo ?_ NB101_109.out _; (with_reducible repeat (first | refine Qae ?_ _ | refine Qaf ?_ | refine Qad ?_ _)); refine Qbo ?_ NB101_109.out _; (with_reducible repeat (first | refine Qae ?_ _ | refine Qaf ?_ | refine Qad ?_ _)); refine Qbo ?_ NB101_109.out _; (with_reducible repeat (first | refine Qae ?_ _ | refine Qaf ?_ | refine Qad ?_ _)); refine Qbo ?_ NB101_109.out _; (with_reducible repeat (first | refine Qae ?_ _ | refine Qaf ?_ | refine Qad ?_ _)); refine Qbo ?_ NB101_109.out _; (with_reducible repeat (first | refine Qae ?_ _ | refine Qaf ?_ | refine Qad ?_ _)); exact BK101.out⟩, ⟨by (with_reducible repeat (first | refine Qae ?_ _ | refine Qaf ?_ | refine Qad ?_ _)); refine Qbo ?_ NB102_109.out _; (with_reducible repeat (first | refine Qae ?_ _ | refine Qaf ?_ | refine Qad ?_ _)); refine Qbo ?_ NB102_109.out _; (with_reducible repeat (first | refine Qae ?_ _ | refine Qaf ?_ | refine Qad ?_ _)); refine Qbo ?_ NB102_109.out _; (with_reducible repeat (first | refine Qae ?_ _ | refine Qaf ?_ | refine Qad ?_ _)); refine Qbo ?_ NB102_109.out _; (with_reducible repeat (first | refine Qae ?_ _ | refine Qaf ?_ | refine Qad ?_ _)); refine Qbo ?_ NB102_109.out _; (with_reducible repeat (first | refine Qae ?_ _ | refine Qaf ?_ | refine Qad ?_ _)); refine Qbo ?_ NB102_109.out _; (with_reducible repeat (first | refine Qae ?_ _ | refine Qaf ?_ | refine Qad ?_ _)); exact BK102.out⟩, ⟨by (with_reducible repeat (first | refine Qae ?_ _ | refine Qaf ?_ | refine Qad ?_ _)); refine Qbo ?_ NB108_109.out _; (with_reducible repeat (first | refine Qae ?_ _ | refine Qaf ?_ | refine Qad ?_ _)); refine Qbo ?_ NB108_109.out _; (with_reducible repeat (first | refine Qae ?_ _ | refine Qaf ?_ | refine Qad ?_ _)); refine Qbo ?_ NB108_109.out _; (with_reducible repeat (first | refine Qae ?_ _ | refine Qaf ?_ | refine Qad ?_ _)); refine Qbo ?_ NB108_109.out _; (with_reducible repeat (first | refine Qae ?_ _ | refine Qaf ?_ | refine Qad ?_ _)); refine Qbo ?_ NB108_109.out _; (with_reducible repeat (first | refine Qae ?_ _ | refine Qaf ?_ | refine Qad ?_ _)); refine Qbo ?_ NB108_109.out _; (with_reducible repeat (first | refine Qae ?_ _ | refine Qaf ?_ | refine Qad ?_ _)); exact BK108.out⟩, ⟨by (with_reducible repeat (first | refine Qae ?_ _ | refine Qaf ?_ | refine Qad ?_ _)); refine Qao (cs := #[.string a1_0, .string a1_1, .string a1_2, .int .i64 t103, .int .i64 t104, .slice none 0 0]) ?_ 5 _ rfl; (with_reducible repeat (first | refine Qae ?_ _ | refine Qaf ?_ | refine Qad ?_ _)); refine Qao (cs := #[.string a1_0, .string a1_1, .string a1_2, .int .i64 t103, .int .i64 0, .slice none 0 0]) ?_ 4 _ rfl; (with_reducible repeat (first | refine Qae ?_ _ | refine Qaf ?_ | refine Qad ?_ _)); refine Qao (cs := #[.string a1_0, .string a1_1, .string a1_2, .int .i64 0, .int .i64 0, .slice none 0 0]) ?_ 3 _ rfl; (with_reducible repeat (first | refine Qae ?_ _ | refine Qaf ?_ | refine Qad ?_ _)); refine Qao (cs := #[.string a1_0, .string a1_1, .string (⟨#[]⟩ : ByteArray), .int .i64 0, .int .i64 0, .slice none 0 0]) ?_ 2 _ rfl; (with_reducible repeat (first | refine Qae ?_ _ | refine Qaf ?_ | refine Qad ?_ _)); refine Qao (cs := #[.string a1_0, .string (⟨#[]⟩ : ByteArray), .string (⟨#[]⟩ : ByteArray), .int .i64 0, .int .i64 0, .slice none 0 0]) ?_ 1 _ rfl; (with_reducible repeat (first | refine Qae ?_ _ | refine Qaf ?_ | refine Qad ?_ _)); refine Qao (cs := #[.string (⟨#[]⟩ : ByteArray), .string (⟨#[]⟩ : ByteArray), .string (⟨#[]⟩ : ByteArray), .int .i64 0, .int .i64 0, .slice none 0 0]) ?_ 0 _ rfl; (with_reducible repeat (first | refine Qae ?_ _ | refine Qaf ?_ | refine Qad ?_ _)); exact BK109.out⟩, ⟨bw_⟩⟩
 case round =>
  clear H'; (try clear c1); (try clear c2); (try clear p2); (try clear c6); (try clear c10); (try clear c11); (try clear c15); (try clear c16); (try clear c17); (try clear c12_0 c12_1); (try clear c13_0 c13_1 c13_2); (try clear c18_0 c18_1 c18_2 c18_3 c18_4 c18_5); (try clear c7_0 c7_1 c7_2); (try clear f12_0 f12_1); (try clear f13_0 f13_1 f13_2); (try clear f18_0 f18_1 f18_2 f18_3 f18_4 f18_5); (try clear f7_0 f7_1 f7_2); obtain ⟨x8_1, x110005_1, u110005, rfl, HA, HK1, HO_6, HO_110005, BK101, BK102, BK108, BK109, HB⟩ := hrel
  cases gk with
  | zero => exact absurd HA.out (by simp [QaE.l0])
  | succ k1 =>
   have H := HA.out; clear HA; simp only [QaE.l0] at H
   by_cases c19 : x8_1 < (t105.length : Int)
   ·rw [if_pos c19] at H; have c19b0 : decide (x8_1 < (t105.length : Int)) = true := decide_eq_true c19; clear c19
    by_cases c20 : 0 ≤ x8_1
    ·rw [if_pos c20] at H; have c20b0 : decide (0 ≤ x8_1) = true := decide_eq_true c20; clear c20; replace H := Option.bind_eq_some_iff.mp H; obtain ⟨⟨t111, t112, t113, t114, t115, t116⟩, A210, H⟩ := H; replace H : (if x110005_1.length < 1599289640401 then (QaE.l0 k1 l0 t105 (wrap64 (x8_1 + 1)) a1_0 a1_1 a1_2 t103 t104 (x110005_1 ++ [(⟨(⟨t111, t112⟩ : S24), t113, (⟨t114, t115⟩ : S27), t116⟩ : S30)])) else (none)) = some (r1, r2, r3, r4, r5, r6) := H; have A21 := Qaa.mk A210; clear A210
     by_cases c22 : x110005_1.length < 1599289640401
     ·rw [if_pos c22] at H; have LMc22 := Qaa.mk c22; clear c22
      obtain ⟨y119, hy119⟩ : ∃ y_ : List (S30), y_ = (x110005_1 ++ [(⟨(⟨t111, t112⟩ : S24), t113, (⟨t114, t115⟩ : S27), t116⟩ : S30)]) := ⟨_, rfl⟩
      replace H : (QaE.l0 k1 l0 t105 (wrap64 (x8_1 + 1)) a1_0 a1_1 a1_2 t103 t104 y119) = some (r1, r2, r3, r4, r5, r6) := by first | (rw [hy119]; with_reducible exact H) | (have H2_ := (Option.bind_some _ _).symm.trans H; rw [hy119]; with_reducible exact H2_) | (have H2_ := (Option.bind_some _ _).symm.trans H; with_reducible exact H2_) | with_reducible exact H | (rw [hy119]; exact H) | exact H
      have Ny119 := Qaa.mk hy119; clear hy119; have H' := Qaa.mk H; clear H; obtain ⟨Ao23, co23, eo23⟩ := Kd.Qa4 HO_6.out; subst eo23
      try go_wp2
      replace HO_6 := Qaa.mk (Kd.QaO HO_6.out); replace HO_110005 := Qaa.mk (Kd.QaO HO_110005.out); replace BK101 := Qaa.mk (Qaf BK101.out); replace BK102 := Qaa.mk (Qaf BK102.out); replace BK108 := Qaa.mk (Qaf BK108.out); replace BK109 := Qaa.mk (Qaf BK109.out); replace HB := Qaa.mk (Qam HB.out); have p110 : 0 ≤ (x8_1 : Int) := dd_; have q110 : x8_1 < (t105.length : Int) := dd_; obtain ⟨ad110, e110, hx110_0, hx110_1, hx110_2⟩ := Qb7 (Kd.QaG HO_6.out).2.2 x8_1 p110 q110; cases e110; replace p110 := eq_true p110; replace q110 := eq_true q110; refine Qbt (n := 12) (S := fun w' => cg_sssii w' gb109 a1_0 a1_1 a1_2 t103 t104 (w'.cell? ⟨gb109, 5, none⟩ = some (u110005) ∧ crl_sss w' (ad110.add ((x8_1).toNat * 3)) ((Qaq t105 x8_1).f0.f0) ((Qaq t105 x8_1).f0.f1) ((Qaq t105 x8_1).f1))) (ds := [9, 11]) #[ff,ff,ff,ff,ff,ff,ff,ff,ff,ff,ff,ff] (by kernel_rfl) rfl rfl (cw_6 BK109.out ⟨hx110_0, hx110_1, hx110_2⟩) (fun hHeld => ?_); refine Qbh QaE.tab6 QaE.bits6 (fun HT_ HW_ => ?_)
      generalize wr.drew = w24 at HO_6 HO_110005 BK101 BK102 BK108 BK109 HB hx110_0 hx110_1 hx110_2 hHeld ⊢
      refine pz 0 27 ?_; refine pz 2 29 ?_; refine pz 3 30 ?_; refine pz 4 31 ?_; refine pz 5 32 ?_; refine tk9 1 28 ?_; refine tk9 6 33 ?_; refine one_ (i := 7) (N := some 34) #[tt,tt,tt,tt,tt,tt,tt,tt,ff,ff,ff,ff] rfl rfl (Qbx HT_.out (by kernel_rfl)) (by decide) (fun K hK => ?_); refine QbY Tryz.func26 (by kernel_rfl) rfl #[.slice A0 l0.length c0, .agg #[.string ((Qaq t105 x8_1).f0.f0), .string ((Qaq t105 x8_1).f0.f1), .string ((Qaq t105 x8_1).f1)]] (by rfl) rfl rfl (by (try simp only [List.map_toArray, List.map_cons, List.map_nil]); first | done | rfl | (simp only [List.length_drop, List.length_take]; rfl)) ?_
      with_reducible refine (ih k1 (by have := HK1.out; omega) _ _ l0 ((Qaq t105 x8_1).f0.f0) ((Qaq t105 x8_1).f0.f1) ((Qaq t105 x8_1).f1) t111 t112 t113 t114 t115 t116 _ ?side1 ?side2 A21.out).mono ?_
      (case side1 => exact kd_ (Kd.Qbe HR0.out HB.out))
      (case side2 => exact HC0.out)
      rintro e w25 ⟨v117, rfl, ho0, hb⟩; have HS6_ := cc_ hb hHeld.2.2.2.2.2.2.1; have HS7_ := cc_ hb hHeld.2.2.2.2.2.2.2.1; have HS8_ := cc_ hb hHeld.2.2.2.2.2.2.2.2; refine ⟨_, rfl, ?_⟩; have HO118 := Qaa.mk (Kd.Qa8 (Kd.QbO (Kd.QbO (Kd.R_new' ho0 (Kd.R_lt (ro_ HO_110005))) (g := gb102) bk_) (g := gb109) bk_) (QaI bw_)); replace HO_6 := Qaa.mk (Kd.QaJ (ro_ HO_6) hb); replace HO_110005 := Qaa.mk (Kd.QbP (ro_ HO_110005) (Kd.Qco ho0) hb); replace BK101 := Qaa.mk (Qab (g := gb101) bk_ hb); replace BK102 := Qaa.mk (Qab (g := gb102) bk_ hb); replace BK108 := Qaa.mk (Qab (g := gb108) bk_ hb); replace BK109 := Qaa.mk (Qab (g := gb109) bk_ hb); replace HB := Qaa.mk (Qag bw_ hb)
      (try clear hb)
      (try clear hb2)
      (try clear hk)
      (try clear hi)
      (try clear ho0)
      obtain ⟨Ao27, co27, eo27⟩ := Kd.Qa4 HO118.out
      (first | subst eo27 | (injection eo27 with f1_ f2_ f3_; have f4_ := f1_.symm; have f5_ := f3_.symm; clear f1_ f2_ f3_; subst f4_; subst f5_))
      refine hK.out _ _ (cw_6 BK109.out ⟨HS6_, HS7_, HS8_⟩) (fun hHeld => ?_); clear hK K; refine Qbu (a' := ?_) ?_ ?_; rotate_left
      ·show Act.put _ (some 34) _ = _
       simp only [Act.put, put_, Qbl, Qbm]; rfl
      refine one_ (i := 8) (N := some 35) #[tt,tt,tt,tt,tt,tt,tt,tt,tt,ff,ff,ff] rfl rfl (Qbx HT_.out (by kernel_rfl)) (by decide) (fun K hK => ?_); refine value_ (w1 := ?_) (v := ?_) (by rfl) rfl ?_ ?_; rotate_left 2
      ·go_simp; constructor
       ·rfl
       ·rfl
      refine hK.out _ _ ⟨(Qai (Qad BK109.out _) 0).trans rfl, (Qai (Qad BK109.out _) 1).trans rfl, (Qai (Qad BK109.out _) 2).trans rfl, (Qai (Qad BK109.out _) 3).trans rfl, (Qai (Qad BK109.out _) 4).trans rfl, (Qai (Qad BK109.out _) 5).trans rfl, (World.cell?_alloc_lt _ _ _ (World.block_lt_of_cell? _ _ (hHeld.2.2.2.2.2.2.1))).trans (hHeld.2.2.2.2.2.2.1), (World.cell?_alloc_lt _ _ _ (World.block_lt_of_cell? _ _ (hHeld.2.2.2.2.2.2.2.1))).trans (hHeld.2.2.2.2.2.2.2.1), (World.cell?_alloc_lt _ _ _ (World.block_lt_of_cell? _ _ (hHeld.2.2.2.2.2.2.2.2))).trans (hHeld.2.2.2.2.2.2.2.2)⟩ (fun hHeld => ?_); clear hK K; refine Qbu (a' := ?_) ?_ ?_; rotate_left
      ·show Act.put _ (some 35) _ = _
       simp only [Act.put, put_, Qbl, Qbm]; rfl
      refine last_ (i := 9) (N := some 36) #[tt,tt,tt,tt,tt,tt,tt,tt,tt,tt,ff,ff] rfl rfl (Qbx HT_.out (by kernel_rfl)) (by decide) (fun K hK => ?_); refine Kd.Qct k30 (w0 := w) w.heap.size (by rfl) (.tmp 28) (.tmp 35) 28 30 (.agg #[(.string ⟨#[]⟩), (.string ⟨#[]⟩), (.string ⟨#[]⟩), (.int .i64 0), (.int .i64 0), (.slice none 0 0)]) 88 rfl Tryz.underlying28 info30 rfl (by decide) (by omega) u110005 x110005_1 (⟨(⟨t111, t112⟩ : S24), t113, (⟨t114, t115⟩ : S27), t116⟩ : S30) [.string t111, .string t112, .string t113, .int .i64 t114, .int .i64 t115, .slice Ao27 t116.length co27] (fun k_ => k_ ≠ gb102 ∧ k_ ≠ gb109) (fun k_ => ((fun k_ => k_ ≠ gb102 ∧ k_ ≠ gb109)) k_ ∧ some k_ ≠ (u110005 : Value).ownBlock) rfl rfl ?aP (fun _ hk => hk) ?aF ?aO ?aB ?aS ?aL ?_
      (case aP => exact k30_mkM _ _ _ (⟨(⟨t111, t112⟩ : S24), t113, (⟨t114, t115⟩ : S27), t116⟩ : S30) (Kd.Qa2 (HO118.out) (fun k_ hk => ⟨⟨hk.1.2, hk.2⟩, hk.1.1.2⟩)))
      (case aB => exact bw_)
      (case aF => exact (fun k_ hk => ⟨Kd.freshB (g := gb102) bk_ k_ hk, Kd.freshB (g := gb109) bk_ k_ hk⟩))
      (case aO => exact (by (with_reducible repeat (first | apply Kd.QaM | apply Kd.QaP | apply Kd.QaO)); exact Kd.Qa2 HO_110005.out (fun _ hk => ⟨hk.1.1, hk.1.2⟩)))
      (case aS => exact (QaI bw_))
      (case aL => have := LMc22.out; omega)
      intro v120 w26 ho hb hg hat
      rw [← Ny119.out] at ho; have n0_ := Qaa.mk (Kd.R_over' (ro_ HO_6) (Kd.R_typed (ro_ HO_110005)) (by decide) hg); have n1_ := Qaa.mk (QbX (g := gb101) bk_ hg (Kd.R_ne HO_110005.out BK101.out (by decide))); have n2_ := Qaa.mk (QbX (g := gb102) bk_ hg (Kd.R_away HO_110005.out (fun _ hk => hk.1.1))); have n3_ := Qaa.mk (QbX (g := gb108) bk_ hg (Kd.R_ne HO_110005.out BK108.out (by decide))); have n4_ := Qaa.mk (QbX (g := gb109) bk_ hg (Kd.R_away HO_110005.out (fun _ hk => hk.1.2))); have n5_ := Qaa.mk (hb); have n6_ := Qaa.mk (ho); clear HO_6; clear BK101; clear BK102; clear BK108; clear BK109; clear HB; clear HO_110005; clear HO118; have HO_6 := n0_; have BK101 := n1_; have BK102 := n2_; have BK108 := n3_; have BK109 := n4_; have HB := n5_; have HO121 := n6_; clear n0_ n1_ n2_ n3_ n4_ n5_ n6_
      clear ho hb hg hat
      obtain ⟨Ao28, co28, eo28⟩ := Kd.Qa4 HO121.out
      (first | subst eo28 | (injection eo28 with f1_ f2_ f3_; have f4_ := f1_.symm; have f5_ := f3_.symm; clear f1_ f2_ f3_; subst f4_; subst f5_))
      refine hK.out _ _ ?_; clear hK K; refine Qbu (a' := ?_) ?_ ?_; rotate_left
      ·show Act.put _ (some 36) _ = _
       simp only [Act.put, put_, Qbl, Qbm]; rfl
      refine pz 10 37 ?_; refine last_ (i := 11) (N := none) #[tt,tt,tt,tt,tt,tt,tt,tt,tt,tt,tt,tt] rfl rfl (Qbx HT_.out (by kernel_rfl)) (by decide) (fun K hK => ?_); have hs29 : w26.cell? ⟨gb109, 5, none⟩ = some (u110005) := (Qai BK109.out 5).trans rfl; have hfs29 := Qaj BK109.out 5; have hns29_0 := NB101_109.out; have hns29_1 := NB102_109.out; have hns29_2 := NB108_109.out; have hms29_0 := NB109_101.out; have hms29_1 := NB109_102.out; have hms29_2 := NB109_108.out; refine skip_ (w1 := ?_) (by rfl) rfl ?_ ?_; rotate_left
      ·go_simp; rfl
      refine hK.out _ _ ?_; clear hK K; refine QbK (Qbz HT_.out (by kernel_rfl)) ?_
      try go_wp2
      go_roundg k1
      case measure => have := HK1.out; omega
      case rel => exact ⟨(wrap64 (x8_1 + 1)), (y119), (.slice Ao28 y119.length co28), (by first | rfl | (simp; done) | (simp [*]; done)), H', ⟨by have := HK1.out; omega⟩, ⟨by (with_reducible repeat (first | apply Kd.QaM | apply Kd.QaP | apply Kd.QaO)); exact Kd.Qa2 (Kd.Qa6 (p := ⟨gb109, 5, none⟩) (Kd.R_types HO_6.out BK109.out (by decide)) (fun _ hk => hk.2) (.slice Ao28 y119.length co28)) (fun _ hk => hk.1)⟩, ⟨by (with_reducible repeat (first | apply Kd.QaM | apply Kd.QaP | apply Kd.QaO)); exact Kd.Qa2 (Kd.Qa6 (p := ⟨gb109, 5, none⟩) (Kd.Qa2 HO121.out (fun k_ hk => (⟨hk, hk.2⟩ : _ ∧ k_ ≠ gb109))) (fun _ hk => hk.2) (.slice Ao28 y119.length co28)) (fun _ hk => ⟨hk.1.1, hk.1.2⟩)⟩, ⟨by (with_reducible repeat (first | refine Qae ?_ _ | refine Qaf ?_ | refine Qad ?_ _)); refine Qbo ?_ NB101_109.out _; (with_reducible repeat (first | refine Qae ?_ _ | refine Qaf ?_ | refine Qad ?_ _)); exact BK101.out⟩, ⟨by (with_reducible repeat (first | refine Qae ?_ _ | refine Qaf ?_ | refine Qad ?_ _)); refine Qbo ?_ NB102_109.out _; (with_reducible repeat (first | refine Qae ?_ _ | refine Qaf ?_ | refine Qad ?_ _)); exact BK102.out⟩, ⟨by (with_reducible repeat (first | refine Qae ?_ _ | refine Qaf ?_ | refine Qad ?_ _)); refine Qbo ?_ NB108_109.out _; (with_reducible repeat (first | refine Qae ?_ _ | refine Qaf ?_ | refine Qad ?_ _)); exact BK108.out⟩, ⟨by (with_reducible repeat (first | refine Qae ?_ _ | refine Qaf ?_ | refine Qad ?_ _)); refine Qao (cs := #[.string a1_0, .string a1_1, .string a1_2, .int .i64 t103, .int .i64 t104, u110005]) ?_ 5 _ rfl; (with_reducible repeat (first | refine Qae ?_ _ | refine Qaf ?_ | refine Qad ?_ _)); exact BK109.out⟩, ⟨bw_⟩⟩
     ·rw [if_neg c22] at H; exact absurd H (by simp)
    ·rw [if_neg c20] at H; exact absurd H (by simp)
   ·rw [if_neg c19] at H; have c19b0 : decide (x8_1 < (t105.length : Int)) = false := decide_eq_false c19; clear c19; simp only [Option.some.injEq, Prod.mk.injEq] at H; obtain ⟨rfl, rfl, rfl, rfl, rfl, rfl⟩ := H; obtain ⟨Ao30, co30, eo30⟩ := Kd.Qa4 HO_6.out; subst eo30; have hnb31 := NB109_101.out; have hnc31 := NB101_109.out; have hnb32 := NB109_102.out; have hnc32 := NB102_109.out; have hnb33 := NB109_108.out; have hnc33 := NB108_109.out; have c34_0 : wr.cell? ⟨gb109, 0, none⟩ = some (.string a1_0) := (Qai BK109.out 0).trans rfl; have c34_1 : wr.cell? ⟨gb109, 1, none⟩ = some (.string a1_1) := (Qai BK109.out 1).trans rfl; have c34_2 : wr.cell? ⟨gb109, 2, none⟩ = some (.string a1_2) := (Qai BK109.out 2).trans rfl; have c34_3 : wr.cell? ⟨gb109, 3, none⟩ = some (.int .i64 t103) := (Qai BK109.out 3).trans rfl; have c34_4 : wr.cell? ⟨gb109, 4, none⟩ = some (.int .i64 t104) := (Qai BK109.out 4).trans rfl; have c34_5 : wr.cell? ⟨gb109, 5, none⟩ = some (u110005) := (Qai BK109.out 5).trans rfl; obtain ⟨f34_0, f34_1, f34_2, f34_3, f34_4, f34_5⟩ := fz_6 BK109.out; have hnb35 := NB102_101.out; have hnc35 := NB101_102.out; have hnb36 := NB102_108.out; have hnc36 := NB108_102.out; have c37_0 : wr.cell? ⟨gb102, 0, none⟩ = some (.string (⟨#[]⟩ : ByteArray)) := (Qai BK102.out 0).trans rfl
    have c37_1 : wr.cell? ⟨gb102, 1, none⟩ = some (.string (⟨#[]⟩ : ByteArray)) := (Qai BK102.out 1).trans rfl; have c37_2 : wr.cell? ⟨gb102, 2, none⟩ = some (.string (⟨#[]⟩ : ByteArray)) := (Qai BK102.out 2).trans rfl; have c37_3 : wr.cell? ⟨gb102, 3, none⟩ = some (.int .i64 0) := (Qai BK102.out 3).trans rfl; have c37_4 : wr.cell? ⟨gb102, 4, none⟩ = some (.int .i64 0) := (Qai BK102.out 4).trans rfl; have c37_5 : wr.cell? ⟨gb102, 5, none⟩ = some (.slice none 0 0) := (Qai BK102.out 5).trans rfl; obtain ⟨f37_0, f37_1, f37_2, f37_3, f37_4, f37_5⟩ := fz_6 BK102.out; obtain ⟨Ao38, co38, eo38⟩ := Kd.Qa4 HO_110005.out; subst eo38; go_wp2; refine bodyPost_ret (results_cell_row rfl _ _ gb102 30 #[.string a1_0, .string a1_1, .string a1_2, .int .i64 t103, .int .i64 t104, .slice Ao38 x110005_1.length co38] (0, 0) _ rfl (by (with_reducible repeat (first | refine Qae ?_ _ | refine Qaf ?_ | refine Qad ?_ _)); refine Qao (cs := #[.string a1_0, .string a1_1, .string a1_2, .int .i64 t103, .int .i64 t104, .slice none 0 0]) ?_ 5 _ rfl; (with_reducible repeat (first | refine Qae ?_ _ | refine Qaf ?_ | refine Qad ?_ _)); refine Qao (cs := #[.string a1_0, .string a1_1, .string a1_2, .int .i64 t103, .int .i64 0, .slice none 0 0]) ?_ 4 _ rfl; (with_reducible repeat (first | refine Qae ?_ _ | refine Qaf ?_ | refine Qad ?_ _)); refine Qao (cs := #[.string a1_0, .string a1_1, .string a1_2, .int .i64 0, .int .i64 0, .slice none 0 0]) ?_ 3 _ rfl; (with_reducible repeat (first | refine Qae ?_ _ | refine Qaf ?_ | refine Qad ?_ _)); refine Qao (cs := #[.string a1_0, .string a1_1, .string (⟨#[]⟩ : ByteArray), .int .i64 0, .int .i64 0, .slice none 0 0]) ?_ 2 _ rfl; (with_reducible repeat (first | refine Qae ?_ _ | refine Qaf ?_ | refine Qad ?_ _)); refine Qao (cs := #[.string a1_0, .string (⟨#[]⟩ : ByteArray), .string (⟨#[]⟩ : ByteArray), .int .i64 0, .int .i64 0, .slice none 0 0]) ?_ 1 _ rfl; (with_reducible repeat (first | refine Qae ?_ _ | refine Qaf ?_ | refine Qad ?_ _)); refine Qao (cs := #[.string (⟨#[]⟩ : ByteArray), .string (⟨#[]⟩ : ByteArray), .string (⟨#[]⟩ : ByteArray), .int .i64 0, .int .i64 0, .slice none 0 0]) ?_ 0 _ rfl; (with_reducible repeat (first | refine Qae ?_ _ | refine Qaf ?_ | refine Qad ?_ _)); exact BK102.out) Tryz.underlying30 rfl (by kernel_rfl)) rfl ?_
    exact ⟨_, by first | rfl | (simp [Qat, Qas] <;> rfl) | (simp [*, Qat, Qas] <;> rfl), by (with_reducible repeat (first | apply Kd.QaM | apply Kd.QaP | apply Kd.QaO)); exact Kd.Qa2 (Kd.Qa6 (p := ⟨gb102, 5, none⟩) (Kd.Qa6 (p := ⟨gb102, 4, none⟩) (Kd.Qa6 (p := ⟨gb102, 3, none⟩) (Kd.Qa6 (p := ⟨gb102, 2, none⟩) (Kd.Qa6 (p := ⟨gb102, 1, none⟩) (Kd.Qa6 (p := ⟨gb102, 0, none⟩) (Kd.Qa2 HO_110005.out (fun k_ hk => (⟨hk, hk.1⟩ : _ ∧ k_ ≠ gb102))) (fun _ hk => hk.2) (.string a1_0)) (fun _ hk => hk.2) (.string a1_1)) (fun _ hk => hk.2) (.string a1_2)) (fun _ hk => hk.2) (.int .i64 t103)) (fun _ hk => hk.2) (.int .i64 t104)) (fun _ hk => hk.2) (.slice Ao38 x110005_1.length co38)) (fun _ hk => trivial), bw_⟩

def Qa3.f (k : Nat) (l0 : List (S46)) (a1 : ByteArray) (a2_0 : ByteArray) (a2_1 : ByteArray) : Option (ByteArray × ByteArray × ByteArray × Int × Int × (List (S30)) × Int) := (QaF.f k l0 a1 a2_0 a2_1).bind fun t103 => (if t103 = 0 then (some ((⟨#[]⟩ : ByteArray), (⟨#[]⟩ : ByteArray), (⟨#[]⟩ : ByteArray), 0, 0, ([] : List (S30)), 16)) else ((Qar.f k l0).bind fun t104 => ((QaE.f k t104 a2_0 a2_1 a1).bind fun bt107 => (some (bt107.1, bt107.2.1, bt107.2.2.1, bt107.2.2.2.1, bt107.2.2.2.2.1, bt107.2.2.2.2.2, 0)))))
def Qa3.T3 : Bool × List (List Nat × List Nat) := (true, [([], []), ([0], [0]), ([], []), ([], []), ([2, 3], [2, 3]), ([1, 4, 1], [1, 4]), ([5, 5, 0, 1, 2, 3, 4, 5], [5]), ([6, 0, 1, 2, 3, 4, 5, 6], [])])
def Qa3.B3 : List Nat := [0, 1, 0, 0, 12, 31, 63, 127]
theorem Qa3.tab3 : rtab .any (opsOf Tryz.f9 3) = Qa3.T3 := by kernel_rfl
theorem Qa3.bits3 : waitsOk Qa3.T3.2 Qa3.B3 = true := by kernel_rfl
set_option maxHeartbeats 8000000 in
set_option maxRecDepth 100000 in
theorem Qa3.calls (k : Nat) (A0 : Option Addr) (c0 : Nat) (l0 : List (S46)) (a1 : ByteArray) (a2_0 : ByteArray) (a2_1 : ByteArray) (r1 : ByteArray) (r2 : ByteArray) (r3 : ByteArray) (r4 : Int) (r5 : Int) (r6 : List (S30)) (r7 : Int) (w : World) (hr0 : Kd.C k46 w A0 l0.length l0) (hc0 : l0.length ≤ c0) (h : Qa3.f k l0 a1 a2_0 a2_1 = some (r1, r2, r3, r4, r5, r6, r7)) :
  Calls Tryz.prog 9 #[.slice A0 l0.length c0, .string a1, .agg #[.string a2_0, .string a2_1]] w fun e w' => ∃ v5_ : Value, e = .returned (.tuple #[.agg #[.string r1, .string r2, .string r3, .int .i64 r4, .int .i64 r5, v5_], .int .i64 r7]) ∧ Kd.R k30 30 w' w.heap.size (fun _ => True) v5_ r6 ∧ Below w.heap.size w w' := by
 have hu24 := Tryz.underlying24; have hu30 := Tryz.underlying30; have hu51 := Tryz.underlying51; have HR0 := Qaa.mk hr0; have HC0 := Qaa.mk hc0; clear hr0 hc0; have HB := Qaa.mk (Below.refl w.heap.size w); have H : ((QaF.f k l0 a1 a2_0 a2_1).bind fun t103 => (if t103 = 0 then (some ((⟨#[]⟩ : ByteArray), (⟨#[]⟩ : ByteArray), (⟨#[]⟩ : ByteArray), 0, 0, ([] : List (S30)), 16)) else ((Qar.f k l0).bind fun t104 => ((QaE.f k t104 a2_0 a2_1 a1).bind fun bt107 => (some (bt107.1, bt107.2.1, bt107.2.2.1, bt107.2.2.2.1, bt107.2.2.2.2.1, bt107.2.2.2.2.2, 0)))))) = some (r1, r2, r3, r4, r5, r6, r7) := h; clear h; replace H := Option.bind_eq_some_iff.mp H; obtain ⟨t103, A40, H⟩ := H; replace H : (if t103 = 0 then (some ((⟨#[]⟩ : ByteArray), (⟨#[]⟩ : ByteArray), (⟨#[]⟩ : ByteArray), 0, 0, ([] : List (S30)), 16)) else ((Qar.f k l0).bind fun t104 => ((QaE.f k t104 a2_0 a2_1 a1).bind fun bt107 => (some (bt107.1, bt107.2.1, bt107.2.2.1, bt107.2.2.2.1, bt107.2.2.2.2.1, bt107.2.2.2.2.2, 0))))) = some (r1, r2, r3, r4, r5, r6, r7) := H; have A4 := Qaa.mk A40; clear A40
 by_cases c5 : t103 = 0
 ·rw [if_pos c5] at H; have c5b0 : (t103 == 0) = true := beq_iff_eq.mpr c5; have c5b1 : (t103 != 0) = false := bne_eq_false_iff_eq.mpr c5; clear c5; simp only [Option.some.injEq, Prod.mk.injEq] at H; obtain ⟨rfl, rfl, rfl, rfl, rfl, rfl, rfl⟩ := H; go_enter Tryz.func9, Tryz.ntmps9
  go_wp2_with (first | ((with_reducible refine QaH (N := 5) rfl ?_); refine QaD ?hg (N := 5) ?hd (cs := #[.string a2_0, .string a2_1]) (t := 24) ?hr ?_; (case hd => rfl); (case hg => rfl); (case hr => first | (go_simp; done) | (go_simp; rfl)); intro gb101 hg w6 hbox hb; have BK101 := Qaa.mk (hbox); have GW101 := (gz_ hg : Qaa (w.heap.size ≤ gb101)); have GE101 := (gz_ hg : Qaa (w.heap.size ≤ gb101)); replace HB := Qaa.mk (Qag bw_ hb); clear hb hbox hg) | ((with_reducible refine QaH (N := 6) rfl ?_); refine QaD ?hg (N := 6) ?hd (cs := #[.string (⟨#[]⟩ : ByteArray), .string (⟨#[]⟩ : ByteArray), .string (⟨#[]⟩ : ByteArray), .int .i64 0, .int .i64 0, .slice none 0 0]) (t := 30) ?hr ?_; (case hd => rfl); (case hg => rfl); (case hr => first | (go_simp; done) | (go_simp; rfl)); intro gb102 hg w7 hbox hb; have BK102 := Qaa.mk (hbox); have GW102 := (gz_ hg : Qaa (w.heap.size ≤ gb102)); have GE102 := (gz_ hg : Qaa (w.heap.size ≤ gb102)); have NB101_102 := (nl_ hg : Qaa (gb101 ≠ gb102)); have NB102_101 := (ng_ hg : Qaa (gb102 ≠ gb101)); replace BK101 := Qaa.mk (Qab (g := gb101) bk_ hb); replace HB := Qaa.mk (Qag bw_ hb); clear hb hbox hg; have hnb8 := NB101_102.out; have hnc8 := NB102_101.out; obtain ⟨c9_0, c9_1⟩ := Qca BK101.out; obtain ⟨f9_0, f9_1⟩ := fz_2 BK101.out) | ((with_reducible refine QaC (f := 12) rfl ?_); refine gL 11 Tryz.func12 #[.slice A0 l0.length c0, .string a1, .agg #[.string a2_0, .string a2_1]] ?_; (with_reducible refine (QaF.calls k _ _ l0 a1 a2_0 a2_1 t103 _ ?side1 ?side2 A4.out).mono ?_); (case side1 => exact kd_ (Kd.Qbe HR0.out HB.out)); (case side2 => exact HC0.out); rintro e w10 ⟨rfl, hb⟩; refine ⟨_, rfl, ?_⟩; replace BK101 := Qaa.mk (Qab (g := gb101) bk_ hb); replace BK102 := Qaa.mk (Qab (g := gb102) bk_ hb); replace HB := Qaa.mk (Qag bw_ hb); (try clear hb); (try clear hb2); (try clear hk); (try clear hi); obtain ⟨c11_0, c11_1, c11_2, c11_3, c11_4, c11_5⟩ := QbB BK102.out; obtain ⟨f11_0, f11_1, f11_2, f11_3, f11_4, f11_5⟩ := fz_6 BK102.out))
  refine bodyPost_ret (results_ct rfl _ _ gb102 30 #[.string (⟨#[]⟩ : ByteArray), .string (⟨#[]⟩ : ByteArray), .string (⟨#[]⟩ : ByteArray), .int .i64 0, .int .i64 0, .slice none 0 0] (0, 0) _ rfl (by (with_reducible repeat (first | refine Qae ?_ _ | refine Qaf ?_ | refine Qad ?_ _)); refine Qao (cs := #[.string (⟨#[]⟩ : ByteArray), .string (⟨#[]⟩ : ByteArray), .string (⟨#[]⟩ : ByteArray), .int .i64 0, .int .i64 0, .slice none 0 0]) ?_ 5 _ rfl; (with_reducible repeat (first | refine Qae ?_ _ | refine Qaf ?_ | refine Qad ?_ _)); refine Qao (cs := #[.string (⟨#[]⟩ : ByteArray), .string (⟨#[]⟩ : ByteArray), .string (⟨#[]⟩ : ByteArray), .int .i64 0, .int .i64 0, .slice none 0 0]) ?_ 4 _ rfl; (with_reducible repeat (first | refine Qae ?_ _ | refine Qaf ?_ | refine Qad ?_ _)); refine Qao (cs := #[.string (⟨#[]⟩ : ByteArray), .string (⟨#[]⟩ : ByteArray), .string (⟨#[]⟩ : ByteArray), .int .i64 0, .int .i64 0, .slice none 0 0]) ?_ 3 _ rfl; (with_reducible repeat (first | refine Qae ?_ _ | refine Qaf ?_ | refine Qad ?_ _)); refine Qao (cs := #[.string (⟨#[]⟩ : ByteArray), .string (⟨#[]⟩ : ByteArray), .string (⟨#[]⟩ : ByteArray), .int .i64 0, .int .i64 0, .slice none 0 0]) ?_ 2 _ rfl; (with_reducible repeat (first | refine Qae ?_ _ | refine Qaf ?_ | refine Qad ?_ _)); refine Qao (cs := #[.string (⟨#[]⟩ : ByteArray), .string (⟨#[]⟩ : ByteArray), .string (⟨#[]⟩ : ByteArray), .int .i64 0, .int .i64 0, .slice none 0 0]) ?_ 1 _ rfl; (with_reducible repeat (first | refine Qae ?_ _ | refine Qaf ?_ | refine Qad ?_ _)); refine Qao (cs := #[.string (⟨#[]⟩ : ByteArray), .string (⟨#[]⟩ : ByteArray), .string (⟨#[]⟩ : ByteArray), .int .i64 0, .int .i64 0, .slice none 0 0]) ?_ 0 _ rfl; (with_reducible repeat (first | refine Qae ?_ _ | refine Qaf ?_ | refine Qad ?_ _)); exact BK102.out) Tryz.underlying30 rfl (by kernel_rfl)) rfl ?_
  exact ⟨_, by first | rfl | (simp [Qat, Qas] <;> rfl) | (simp [*, Qat, Qas] <;> rfl), by first | exact Kd.Qci _ _ _ _ _ | exact Kd.N_nil _ _ _ _ _ | exact Kd.V_nil _ _ _ _ _ | exact Kd.Q_nil _ _ _ _ _ | exact Kd.S_nil _ _ _ _ _, bw_⟩
 ·rw [if_neg c5] at H; have c5b0 : (t103 == 0) = false := beq_eq_false_iff_ne.mpr c5; have c5b1 : (t103 != 0) = true := bne_iff_ne.mpr c5; replace H := Option.bind_eq_some_iff.mp H; obtain ⟨t104, A120, H⟩ := H; replace H : ((QaE.f k t104 a2_0 a2_1 a1).bind fun bt107 => (some (bt107.1, bt107.2.1, bt107.2.2.1, bt107.2.2.2.1, bt107.2.2.2.2.1, bt107.2.2.2.2.2, 0))) = some (r1, r2, r3, r4, r5, r6, r7) := H; have A12 := Qaa.mk A120; clear A120; replace H := Option.bind_eq_some_iff.mp H; obtain ⟨⟨t107, t108, t109, t110, t111, t112⟩, A130, H⟩ := H; replace H : (some (t107, t108, t109, t110, t111, t112, 0)) = some (r1, r2, r3, r4, r5, r6, r7) := H; have A13 := Qaa.mk A130; clear A130; simp only [Option.some.injEq, Prod.mk.injEq] at H; obtain ⟨rfl, rfl, rfl, rfl, rfl, rfl, rfl⟩ := H; go_enter Tryz.func9, Tryz.ntmps9
  try go_wp2_with (first | ((with_reducible refine QaH (N := 5) rfl ?_); refine QaD ?hg (N := 5) ?hd (cs := #[.string a2_0, .string a2_1]) (t := 24) ?hr ?_; (case hd => rfl); (case hg => rfl); (case hr => first | (go_simp; done) | (go_simp; rfl)); intro gb101 hg w14 hbox hb; have BK101 := Qaa.mk (hbox); have GW101 := (gz_ hg : Qaa (w.heap.size ≤ gb101)); have GE101 := (gz_ hg : Qaa (w.heap.size ≤ gb101)); replace HB := Qaa.mk (Qag bw_ hb); clear hb hbox hg) | ((with_reducible refine QaH (N := 6) rfl ?_); refine QaD ?hg (N := 6) ?hd (cs := #[.string (⟨#[]⟩ : ByteArray), .string (⟨#[]⟩ : ByteArray), .string (⟨#[]⟩ : ByteArray), .int .i64 0, .int .i64 0, .slice none 0 0]) (t := 30) ?hr ?_; (case hd => rfl); (case hg => rfl); (case hr => first | (go_simp; done) | (go_simp; rfl)); intro gb102 hg w15 hbox hb; have BK102 := Qaa.mk (hbox); have GW102 := (gz_ hg : Qaa (w.heap.size ≤ gb102)); have GE102 := (gz_ hg : Qaa (w.heap.size ≤ gb102)); have NB101_102 := (nl_ hg : Qaa (gb101 ≠ gb102)); have NB102_101 := (ng_ hg : Qaa (gb102 ≠ gb101)); replace BK101 := Qaa.mk (Qab (g := gb101) bk_ hb); replace HB := Qaa.mk (Qag bw_ hb); clear hb hbox hg; have hnb16 := NB101_102.out; have hnc16 := NB102_101.out; obtain ⟨c17_0, c17_1⟩ := Qca BK101.out; obtain ⟨f17_0, f17_1⟩ := fz_2 BK101.out) | ((with_reducible refine QaC (f := 12) rfl ?_); refine gL 11 Tryz.func12 #[.slice A0 l0.length c0, .string a1, .agg #[.string a2_0, .string a2_1]] ?_; (with_reducible refine (QaF.calls k _ _ l0 a1 a2_0 a2_1 t103 _ ?side1 ?side2 A4.out).mono ?_); (case side1 => exact kd_ (Kd.Qbe HR0.out HB.out)); (case side2 => exact HC0.out); rintro e w18 ⟨rfl, hb⟩; refine ⟨_, rfl, ?_⟩; replace BK101 := Qaa.mk (Qab (g := gb101) bk_ hb); replace BK102 := Qaa.mk (Qab (g := gb102) bk_ hb); replace HB := Qaa.mk (Qag bw_ hb); (try clear hb); (try clear hb2); (try clear hk); (try clear hi)))
  replace BK101 := Qaa.mk (Qaf BK101.out); replace BK102 := Qaa.mk (Qaf BK102.out); replace HB := Qaa.mk (Qam HB.out); refine Qbt (n := 8) (S := fun w' => cgl_ss w' gb101 a2_0 a2_1) (ds := []) #[ff,ff,ff,ff,ff,ff,ff,ff] (by kernel_rfl) rfl rfl (cl_2 BK101.out) (fun hHeld => ?_); refine Qbh Qa3.tab3 Qa3.bits3 (fun HT_ HW_ => ?_)
  generalize w18.drew = w19 at BK101 BK102 HB hHeld ⊢
  refine pz 0 14 ?_; refine pz 3 17 ?_; refine tk2 2 16 ?_; refine pz 4 18 ?_; refine one_ (i := 1) (N := some 15) #[tt,tt,tt,tt,tt,ff,ff,ff] rfl rfl (Qbx HT_.out (by kernel_rfl)) (by decide) (fun K hK => ?_); refine QbY Tryz.func18 (by kernel_rfl) rfl #[.slice A0 l0.length c0] (by rfl) rfl rfl (by (try simp only [List.map_toArray, List.map_cons, List.map_nil]); first | done | rfl | (simp only [List.length_drop, List.length_take]; rfl)) ?_
  with_reducible refine (Qar.calls k _ _ l0 t104 _ ?side1 ?side2 A12.out).mono ?_
  (case side1 => exact kd_ (Kd.Qbe HR0.out HB.out))
  (case side2 => exact HC0.out)
  rintro e w20 ⟨v105, rfl, ho0, hb⟩; refine ⟨_, rfl, ?_⟩; have HO106 := Qaa.mk (Kd.Qa8 ho0 (QaI bw_)); replace BK101 := Qaa.mk (Qab (g := gb101) bk_ hb); replace BK102 := Qaa.mk (Qab (g := gb102) bk_ hb); replace HB := Qaa.mk (Qag bw_ hb)
  (try clear hb)
  (try clear hb2)
  (try clear hk)
  (try clear hi)
  (try clear ho0)
  obtain ⟨Ao21, co21, eo21⟩ := Kd.Qa4 HO106.out
  (first | subst eo21 | (injection eo21 with f1_ f2_ f3_; have f4_ := f1_.symm; have f5_ := f3_.symm; clear f1_ f2_ f3_; subst f4_; subst f5_))
  refine hK.out _ _ (cl_2 BK101.out) (fun hHeld => ?_); clear hK K; refine Qbu (a' := ?_) ?_ ?_; rotate_left
  ·show Act.put _ (some 15) _ = _
   simp only [Act.put, put_, Qbl, Qbm]; rfl
  refine one_ (i := 5) (N := some 19) #[tt,tt,tt,tt,tt,tt,ff,ff] rfl rfl (Qbx HT_.out (by kernel_rfl)) (by decide) (fun K hK => ?_); refine QbY Tryz.func26 (by kernel_rfl) rfl #[.slice Ao21 t104.length co21, .agg #[.string a2_0, .string a2_1, .string a1]] (by rfl) rfl rfl (by (try simp only [List.map_toArray, List.map_cons, List.map_nil]); first | done | rfl | (simp only [List.length_drop, List.length_take]; rfl)) ?_
  with_reducible refine (QaE.calls k _ _ t104 a2_0 a2_1 a1 t107 t108 t109 t110 t111 t112 _ ?side1 ?side2 A13.out).mono ?_
  (case side1 => exact kd_ ((Kd.QaG HO106.out).2.2))
  (case side2 => exact (Kd.QaG HO106.out).2.1)
  rintro e w22 ⟨v113, rfl, ho0, hb⟩; refine ⟨_, rfl, ?_⟩; have HO114 := Qaa.mk (Kd.Qa8 (Kd.QbO ho0 (g := gb102) bk_) (QaI bw_)); replace HO106 := Qaa.mk (Kd.QaJ (ro_ HO106) hb); replace BK101 := Qaa.mk (Qab (g := gb101) bk_ hb); replace BK102 := Qaa.mk (Qab (g := gb102) bk_ hb); replace HB := Qaa.mk (Qag bw_ hb)
  (try clear hb)
  (try clear hb2)
  (try clear hk)
  (try clear hi)
  (try clear ho0)
  obtain ⟨Ao28, co28, eo28⟩ := Kd.Qa4 HO114.out
  (first | subst eo28 | (injection eo28 with f1_ f2_ f3_; have f4_ := f1_.symm; have f5_ := f3_.symm; clear f1_ f2_ f3_; subst f4_; subst f5_))
  refine hK.out _ _ (cl_2 BK101.out) (fun hHeld => ?_); clear hK K; refine Qbu (a' := ?_) ?_ ?_; rotate_left
  ·show Act.put _ (some 19) _ = _
   simp only [Act.put, put_, Qbl, Qbm]; rfl
  refine one_ (i := 6) (N := none) #[tt,tt,tt,tt,tt,tt,tt,ff] rfl rfl (Qbx HT_.out (by kernel_rfl)) (by decide) (fun K hK => ?_); have hs23 : w22.cell? ⟨gb102, 0, none⟩ = some (.string (⟨#[]⟩ : ByteArray)) := (Qai BK102.out 0).trans rfl; have hfs23 := Qaj BK102.out 0; have hns23_0 := NB101_102.out; have hms23_0 := NB102_101.out; have hs24 : w22.cell? ⟨gb102, 1, none⟩ = some (.string (⟨#[]⟩ : ByteArray)) := (Qai BK102.out 1).trans rfl; have hfs24 := Qaj BK102.out 1; have hns24_0 := NB101_102.out; have hms24_0 := NB102_101.out; have hs25 : w22.cell? ⟨gb102, 2, none⟩ = some (.string (⟨#[]⟩ : ByteArray)) := (Qai BK102.out 2).trans rfl; have hfs25 := Qaj BK102.out 2; have hns25_0 := NB101_102.out; have hms25_0 := NB102_101.out; have hs26 : w22.cell? ⟨gb102, 3, none⟩ = some (.int .i64 0) := (Qai BK102.out 3).trans rfl; have hfs26 := Qaj BK102.out 3; have hns26_0 := NB101_102.out; have hms26_0 := NB102_101.out; have hs27 : w22.cell? ⟨gb102, 4, none⟩ = some (.int .i64 0) := (Qai BK102.out 4).trans rfl; have hfs27 := Qaj BK102.out 4; have hns27_0 := NB101_102.out; have hms27_0 := NB102_101.out; have hs29 : w22.cell? ⟨gb102, 5, none⟩ = some (.slice none 0 0) := (Qai BK102.out 5).trans rfl; have hfs29 := Qaj BK102.out 5; have hns29_0 := NB101_102.out; have hms29_0 := NB102_101.out; refine skip_ (w1 := ?_) (by rfl) rfl ?_ ?_; rotate_left
  ·go_simp; rfl
  refine hK.out _ _ ⟨((cell_far (p := ⟨gb102, _, none⟩) NB101_102.out _).trans (((cell_far (p := ⟨gb102, _, none⟩) NB101_102.out _).trans (((cell_far (p := ⟨gb102, _, none⟩) NB101_102.out _).trans (((cell_far (p := ⟨gb102, _, none⟩) NB101_102.out _).trans (((cell_far (p := ⟨gb102, _, none⟩) NB101_102.out _).trans (((cell_far (p := ⟨gb102, _, none⟩) NB101_102.out _).trans (hHeld.1)))))))))))), ((cell_far (p := ⟨gb102, _, none⟩) NB101_102.out _).trans (((cell_far (p := ⟨gb102, _, none⟩) NB101_102.out _).trans (((cell_far (p := ⟨gb102, _, none⟩) NB101_102.out _).trans (((cell_far (p := ⟨gb102, _, none⟩) NB101_102.out _).trans (((cell_far (p := ⟨gb102, _, none⟩) NB101_102.out _).trans (((cell_far (p := ⟨gb102, _, none⟩) NB101_102.out _).trans (hHeld.2))))))))))))⟩ (fun hHeld => ?_); clear hK K; refine pz 7 7 ?_; refine QbK (Qbz HT_.out (by kernel_rfl)) ?_
  try go_wp2
  refine bodyPost_ret (results_ct rfl _ _ gb102 30 #[.string t107, .string t108, .string t109, .int .i64 t110, .int .i64 t111, .slice Ao28 t112.length co28] (0, 0) _ rfl (by (with_reducible repeat (first | refine Qae ?_ _ | refine Qaf ?_ | refine Qad ?_ _)); refine Qao (cs := #[.string t107, .string t108, .string t109, .int .i64 t110, .int .i64 t111, .slice none 0 0]) ?_ 5 _ rfl; (with_reducible repeat (first | refine Qae ?_ _ | refine Qaf ?_ | refine Qad ?_ _)); refine Qao (cs := #[.string t107, .string t108, .string t109, .int .i64 t110, .int .i64 0, .slice none 0 0]) ?_ 4 _ rfl; (with_reducible repeat (first | refine Qae ?_ _ | refine Qaf ?_ | refine Qad ?_ _)); refine Qao (cs := #[.string t107, .string t108, .string t109, .int .i64 0, .int .i64 0, .slice none 0 0]) ?_ 3 _ rfl; (with_reducible repeat (first | refine Qae ?_ _ | refine Qaf ?_ | refine Qad ?_ _)); refine Qao (cs := #[.string t107, .string t108, .string (⟨#[]⟩ : ByteArray), .int .i64 0, .int .i64 0, .slice none 0 0]) ?_ 2 _ rfl; (with_reducible repeat (first | refine Qae ?_ _ | refine Qaf ?_ | refine Qad ?_ _)); refine Qao (cs := #[.string t107, .string (⟨#[]⟩ : ByteArray), .string (⟨#[]⟩ : ByteArray), .int .i64 0, .int .i64 0, .slice none 0 0]) ?_ 1 _ rfl; (with_reducible repeat (first | refine Qae ?_ _ | refine Qaf ?_ | refine Qad ?_ _)); refine Qao (cs := #[.string (⟨#[]⟩ : ByteArray), .string (⟨#[]⟩ : ByteArray), .string (⟨#[]⟩ : ByteArray), .int .i64 0, .int .i64 0, .slice none 0 0]) ?_ 0 _ rfl; (with_reducible repeat (first | refine Qae ?_ _ | refine Qaf ?_ | refine Qad ?_ _)); exact BK102.out) Tryz.underlying30 rfl (by kernel_rfl)) rfl ?_
  exact ⟨_, by first | rfl | (simp [Qat, Qas] <;> rfl) | (simp [*, Qat, Qas] <;> rfl), by (with_reducible repeat (first | apply Kd.QaM | apply Kd.QaP | apply Kd.QaO)); exact Kd.Qa2 (Kd.Qa6 (p := ⟨gb102, 5, none⟩) (Kd.Qa6 (p := ⟨gb102, 4, none⟩) (Kd.Qa6 (p := ⟨gb102, 3, none⟩) (Kd.Qa6 (p := ⟨gb102, 2, none⟩) (Kd.Qa6 (p := ⟨gb102, 1, none⟩) (Kd.Qa6 (p := ⟨gb102, 0, none⟩) (Kd.Qa2 HO114.out (fun k_ hk => (⟨hk, hk.2⟩ : _ ∧ k_ ≠ gb102))) (fun _ hk => hk.2) (.string t107)) (fun _ hk => hk.2) (.string t108)) (fun _ hk => hk.2) (.string t109)) (fun _ hk => hk.2) (.int .i64 t110)) (fun _ hk => hk.2) (.int .i64 t111)) (fun _ hk => hk.2) (.slice Ao28 t112.length co28)) (fun _ hk => trivial), bw_⟩

def QaX.f (k : Nat) (l0 : List (S46)) (a1 : ByteArray) (a2_0 : ByteArray) (a2_1 : ByteArray) : Option (Bool) := (QbG.f l0).bind fun t102 => ((Qbd.f t102 a1 a2_0 a2_1).bind fun bt105 => ((Qa3.f k t102 a1 a2_0 a2_1).bind fun bt115 => ((Qav.f k bt105.1 bt105.2.1 bt105.2.2.1 bt105.2.2.2.1 bt105.2.2.2.2.1 bt105.2.2.2.2.2.1 bt115.1 bt115.2.1 bt115.2.2.1 bt115.2.2.2.1 bt115.2.2.2.2.1 bt115.2.2.2.2.2.1).bind fun t125 => (if t125 = true then (if bt105.2.2.2.2.2.2 = bt115.2.2.2.2.2.2 then ((Qba.f t102 a1 a2_0 a2_1).bind fun t126 => ((QaF.f k t102 a1 a2_0 a2_1).bind fun t127 => (if t126 = t127 then ((Qa7.f).bind fun t128 => (some t128)) else (none)))) else (none)) else (none)))))
def QaX.T5 : Bool × List (List Nat × List Nat) := (true, [([], []), ([0], [0]), ([1], [1]), ([1], [1]), ([2, 3, 1], [1, 2, 3]), ([1, 4], [1, 4]), ([5, 1], [5]), ([6], [6]), ([6], [6]), ([6], [6]), ([7, 8, 9, 6, 6], [6, 7, 8, 9]), ([6], [6]), ([6], [6]), ([6], [6]), ([11, 12, 13, 10, 6], [6, 11, 12, 13]), ([10, 14, 6], [6, 10, 14]), ([6, 15], [6, 15]), ([16, 14], [16]), ([17, 17], [17]), ([17, 18], [17, 18]), ([19, 18, 0, 1, 2, 3, 4, 5, 6, 7, 8, 9, 10, 11, 12, 13, 14, 15, 16, 17, 18, 19], [19])])
def QaX.B5 : List Nat := [0, 1, 3, 3, 15, 31, 63, 127, 127, 127, 1023, 127, 127, 127, 16383, 32767, 65535, 131071, 262143, 524287, 1048575]
theorem QaX.tab5 : rtab .any (opsOf Tryz.f3 5) = QaX.T5 := by kernel_rfl
theorem QaX.bits5 : waitsOk QaX.T5.2 QaX.B5 = true := by kernel_rfl
set_option maxHeartbeats 8000000 in
set_option maxRecDepth 100000 in
theorem QaX.calls (k : Nat) (A0 : Option Addr) (c0 : Nat) (l0 : List (S46)) (a1 : ByteArray) (a2_0 : ByteArray) (a2_1 : ByteArray) (r : Bool) (w : World) (hr0 : Kd.C k46 w A0 l0.length l0) (hc0 : l0.length ≤ c0) (h : QaX.f k l0 a1 a2_0 a2_1 = some r) :
  Calls Tryz.prog 3 #[.slice A0 l0.length c0, .string a1, .agg #[.string a2_0, .string a2_1]] w fun e w' => e = .returned (.bool r) ∧ Below w.heap.size w w' := by
 have hu24 := Tryz.underlying24; have hu30 := Tryz.underlying30; have HR0 := Qaa.mk hr0; have HC0 := Qaa.mk hc0; clear hr0 hc0; have HB := Qaa.mk (Below.refl w.heap.size w); have H : ((QbG.f l0).bind fun t102 => ((Qbd.f t102 a1 a2_0 a2_1).bind fun bt105 => ((Qa3.f k t102 a1 a2_0 a2_1).bind fun bt115 => ((Qav.f k bt105.1 bt105.2.1 bt105.2.2.1 bt105.2.2.2.1 bt105.2.2.2.2.1 bt105.2.2.2.2.2.1 bt115.1 bt115.2.1 bt115.2.2.1 bt115.2.2.2.1 bt115.2.2.2.2.1 bt115.2.2.2.2.2.1).bind fun t125 => (if t125 = true then (if bt105.2.2.2.2.2.2 = bt115.2.2.2.2.2.2 then ((Qba.f t102 a1 a2_0 a2_1).bind fun t126 => ((QaF.f k t102 a1 a2_0 a2_1).bind fun t127 => (if t126 = t127 then ((Qa7.f).bind fun t128 => (some t128)) else (none)))) else (none)) else (none)))))) = some r := h; clear h; replace H := Option.bind_eq_some_iff.mp H; obtain ⟨t102, A40, H⟩ := H; replace H : ((Qbd.f t102 a1 a2_0 a2_1).bind fun bt105 => ((Qa3.f k t102 a1 a2_0 a2_1).bind fun bt115 => ((Qav.f k bt105.1 bt105.2.1 bt105.2.2.1 bt105.2.2.2.1 bt105.2.2.2.2.1 bt105.2.2.2.2.2.1 bt115.1 bt115.2.1 bt115.2.2.1 bt115.2.2.2.1 bt115.2.2.2.2.1 bt115.2.2.2.2.2.1).bind fun t125 => (if t125 = true then (if bt105.2.2.2.2.2.2 = bt115.2.2.2.2.2.2 then ((Qba.f t102 a1 a2_0 a2_1).bind fun t126 => ((QaF.f k t102 a1 a2_0 a2_1).bind fun t127 => (if t126 = t127 then ((Qa7.f).bind fun t128 => (some t128)) else (none)))) else (none)) else (none))))) = some r := H
 have A4 := Qaa.mk A40; clear A40; replace H := Option.bind_eq_some_iff.mp H; obtain ⟨⟨t105, t106, t107, t108, t109, t110, t113⟩, A50, H⟩ := H; replace H : ((Qa3.f k t102 a1 a2_0 a2_1).bind fun bt115 => ((Qav.f k t105 t106 t107 t108 t109 t110 bt115.1 bt115.2.1 bt115.2.2.1 bt115.2.2.2.1 bt115.2.2.2.2.1 bt115.2.2.2.2.2.1).bind fun t125 => (if t125 = true then (if t113 = bt115.2.2.2.2.2.2 then ((Qba.f t102 a1 a2_0 a2_1).bind fun t126 => ((QaF.f k t102 a1 a2_0 a2_1).bind fun t127 => (if t126 = t127 then ((Qa7.f).bind fun t128 => (some t128)) else (none)))) else (none)) else (none)))) = some r := H; have A5 := Qaa.mk A50; clear A50; replace H := Option.bind_eq_some_iff.mp H; obtain ⟨⟨t115, t116, t117, t118, t119, t120, t123⟩, A60, H⟩ := H; replace H : ((Qav.f k t105 t106 t107 t108 t109 t110 t115 t116 t117 t118 t119 t120).bind fun t125 => (if t125 = true then (if t113 = t123 then ((Qba.f t102 a1 a2_0 a2_1).bind fun t126 => ((QaF.f k t102 a1 a2_0 a2_1).bind fun t127 => (if t126 = t127 then ((Qa7.f).bind fun t128 => (some t128)) else (none)))) else (none)) else (none))) = some r := H; have A6 := Qaa.mk A60; clear A60; replace H := Option.bind_eq_some_iff.mp H; obtain ⟨t125, A70, H⟩ := H; replace H : (if t125 = true then (if t113 = t123 then ((Qba.f t102 a1 a2_0 a2_1).bind fun t126 => ((QaF.f k t102 a1 a2_0 a2_1).bind fun t127 => (if t126 = t127 then ((Qa7.f).bind fun t128 => (some t128)) else (none)))) else (none)) else (none)) = some r := H
 have A7 := Qaa.mk A70; clear A70
 by_cases c8 : t125 = true
 ·subst c8
  have H1 : (if t113 = t123 then ((Qba.f t102 a1 a2_0 a2_1).bind fun t126 => ((QaF.f k t102 a1 a2_0 a2_1).bind fun t127 => (if t126 = t127 then ((Qa7.f).bind fun t128 => (some t128)) else (none)))) else (none)) = some r := by rw [if_pos rfl] at H; exact H
  clear H; have H := H1; clear H1
  by_cases c9 : t113 = t123
  ·rw [if_pos c9] at H; have c9b0 : (t113 == t123) = true := beq_iff_eq.mpr c9; have c9b1 : (t113 != t123) = false := bne_eq_false_iff_eq.mpr c9; clear c9; replace H := Option.bind_eq_some_iff.mp H; obtain ⟨t126, A100, H⟩ := H; replace H : ((QaF.f k t102 a1 a2_0 a2_1).bind fun t127 => (if t126 = t127 then ((Qa7.f).bind fun t128 => (some t128)) else (none))) = some r := H; have A10 := Qaa.mk A100; clear A100; replace H := Option.bind_eq_some_iff.mp H; obtain ⟨t127, A110, H⟩ := H; replace H : (if t126 = t127 then ((Qa7.f).bind fun t128 => (some t128)) else (none)) = some r := H; have A11 := Qaa.mk A110; clear A110
   by_cases c12 : t126 = t127
   ·rw [if_pos c12] at H; have c12b0 : (t126 == t127) = true := beq_iff_eq.mpr c12; have c12b1 : (t126 != t127) = false := bne_eq_false_iff_eq.mpr c12; clear c12; replace H := Option.bind_eq_some_iff.mp H; obtain ⟨t128, A130, H⟩ := H; replace H : (some t128) = some r := H; have A13 := Qaa.mk A130; clear A130; obtain rfl := Option.some.inj H; go_enter Tryz.func3, Tryz.ntmps3
    try go_wp2_with (first | ((with_reducible refine QaH (N := 5) rfl ?_); refine QaD ?hg (N := 5) ?hd (cs := #[.string a2_0, .string a2_1]) (t := 24) ?hr ?_; (case hd => rfl); (case hg => rfl); (case hr => first | (go_simp; done) | (go_simp; rfl)); intro gb101 hg w14 hbox hb; have BK101 := Qaa.mk (hbox); have GW101 := (gz_ hg : Qaa (w.heap.size ≤ gb101)); have GE101 := (gz_ hg : Qaa (w.heap.size ≤ gb101)); replace HB := Qaa.mk (Qag bw_ hb); clear hb hbox hg) | ((with_reducible refine QaC (f := 7) rfl ?_); refine gL 13 Tryz.func7 #[.slice A0 l0.length c0] ?_; (with_reducible refine (QbG.calls (fun k_ => k_ < w.heap.size) _ _ l0 t102 _ ?side1 A4.out).mono ?_); (case side1 => exact Kd.V_mk HC0.out (Kd.F_below (Kd.C_F k46_heap HR0.out) bw_)); rintro e w15 ⟨v103, rfl, ho0, hb⟩; refine ⟨_, rfl, ?_⟩; have HO104 := Qaa.mk (Kd.V_lower (Kd.V_mono (ok' := fun k_ => k_ ≠ gb101) ho0 (fun k_ hk_ => Or.elim hk_ (fun hs_ => fun e_ => Nat.not_le.2 hs_ (by rw [e_]; exact GW101.out)) (fun hn_ => (Kd.freshB (g := gb101) bk_ k_ hn_)))) (QaI bw_)); replace BK101 := Qaa.mk (Qab (g := gb101) bk_ hb); replace HB := Qaa.mk (Qag bw_ hb); (try clear hb); (try clear hb2); (try clear hk); (try clear hi); (try clear ho0); obtain ⟨c16_0, c16_1⟩ := Qca BK101.out; obtain ⟨f16_0, f16_1⟩ := fz_2 BK101.out; obtain ⟨Ao17, co17, eo17⟩ := Kd.V_slice HO104.out; subst eo17) | ((with_reducible refine QaC (f := 8) rfl ?_); refine gL 18 Tryz.func8 #[.slice Ao17 t102.length co17, .string a1, .agg #[.string a2_0, .string a2_1]] ?_; (with_reducible refine (Qbd.calls _ _ t102 a1 a2_0 a2_1 t105 t106 t107 t108 t109 t110 t113 _ ?side1 ?side2 A5.out).mono ?_); (case side1 => exact kd_ ((Kd.QbJ HO104.out).2.2)); (case side2 => exact (Kd.QbJ HO104.out).2.1); rintro e w18 ⟨v111, rfl, ho0, hb⟩; refine ⟨_, rfl, ?_⟩; have HO112 := Qaa.mk (Kd.Qa8 ho0 (QaI bw_)); replace HO104 := Qaa.mk (Kd.V_elder' (by (with_reducible repeat (first | apply Kd.QbI | apply Kd.QbH | apply Kd.Qb0)); exact HO104.out) (Kd.Qco ho0) hb); replace BK101 := Qaa.mk (Qab (g := gb101) bk_ hb); replace HB := Qaa.mk (Qag bw_ hb); (try clear hb); (try clear hb2); (try clear hk); (try clear hi); (try clear ho0)) | ((with_reducible refine QaH (N := 7) rfl ?_); refine QaD ?hg (N := 7) ?hd (cs := #[.string (⟨#[]⟩ : ByteArray), .string (⟨#[]⟩ : ByteArray), .string (⟨#[]⟩ : ByteArray), .int .i64 0, .int .i64 0, .slice none 0 0]) (t := 30) ?hr ?_; (case hd => rfl); (case hg => rfl); (case hr => first | (go_simp; done) | (go_simp; rfl)); intro gb114 hg w19 hbox hb; have BK114 := Qaa.mk (hbox); have GW114 := (gz_ hg : Qaa (w.heap.size ≤ gb114)); have GE114 := (gz_ hg : Qaa (w.heap.size ≤ gb114)); have NB101_114 := (nl_ hg : Qaa (gb101 ≠ gb114)); have NB114_101 := (ng_ hg : Qaa (gb114 ≠ gb101)); replace HO104 := Qaa.mk (Kd.V_below (Kd.V_elderB (by (with_reducible repeat (first | apply Kd.QbI | apply Kd.QbH | apply Kd.Qb0)); exact HO104.out) gb114 (Nat.le_of_eq hg.symm)) hb); replace HO112 := Qaa.mk (Kd.QaJ (Kd.R_elderB (ro_ HO112) gb114 (Nat.le_of_eq hg.symm)) hb); replace BK101 := Qaa.mk (Qab (g := gb101) bk_ hb); replace HB := Qaa.mk (Qag bw_ hb); clear hb hbox hg; have hnb20 := NB114_101.out; have hnc20 := NB101_114.out; obtain ⟨c21_0, c21_1, c21_2, c21_3, c21_4, c21_5⟩ := QbB BK114.out; obtain ⟨f21_0, f21_1, f21_2, f21_3, f21_4, f21_5⟩ := fz_6 BK114.out; obtain ⟨Ao22, co22, eo22⟩ := Kd.Qa4 HO112.out; subst eo22; obtain ⟨c23_0, c23_1⟩ := Qca BK101.out; obtain ⟨f23_0, f23_1⟩ := fz_2 BK101.out) | ((with_reducible refine QaC (f := 9) rfl ?_); refine gL 25 Tryz.func9 #[.slice Ao17 t102.length co17, .string a1, .agg #[.string a2_0, .string a2_1]] ?_; (with_reducible refine (Qa3.calls k _ _ t102 a1 a2_0 a2_1 t115 t116 t117 t118 t119 t120 t123 _ ?side1 ?side2 A6.out).mono ?_); (case side1 => refine (Kd.QbJ (e := 46) (base := w.heap.size) (ok := fun k_ => ((k_ ≠ gb101 ∧ some k_ ≠ (.slice Ao22 t110.length co22 : Value).ownBlock) ∧ k_ ≠ gb114)) (n := t102.length) (c := co17) ?_).2.2; exact (by (with_reducible repeat (first | apply Kd.QbI | apply Kd.QbH | apply Kd.Qb0)); exact (Kd.V_mono (Kd.V_far (p := ⟨gb114, 5, none⟩) (Kd.V_far (p := ⟨gb114, 4, none⟩) (Kd.V_far (p := ⟨gb114, 3, none⟩) (Kd.V_far (p := ⟨gb114, 2, none⟩) (Kd.V_far (p := ⟨gb114, 1, none⟩) (Kd.V_far (p := ⟨gb114, 0, none⟩) (Kd.V_mono HO104.out (fun k_ hk => (⟨hk, hk.2⟩ : _ ∧ k_ ≠ gb114))) (fun _ hk => hk.2) (.string t105)) (fun _ hk => hk.2) (.string t106)) (fun _ hk => hk.2) (.string t107)) (fun _ hk => hk.2) (.int .i64 t108)) (fun _ hk => hk.2) (.int .i64 t109)) (fun _ hk => hk.2) (.slice Ao22 t110.length co22)) (fun _ h_ => h_.1)))); (case side2 => exact (Kd.QbJ HO104.out).2.1); rintro e w24 ⟨v121, rfl, ho0, hb⟩; refine ⟨_, rfl, ?_⟩; have HO122 := Qaa.mk (Kd.Qa8 (Kd.QbO (Kd.R_new' ho0 (Kd.R_lt (by (with_reducible repeat (first | apply Kd.QaM | apply Kd.QaP | apply Kd.QaO)); exact (Kd.Qa2 (Kd.Qa6 (p := ⟨gb114, 5, none⟩) (Kd.Qa6 (p := ⟨gb114, 4, none⟩) (Kd.Qa6 (p := ⟨gb114, 3, none⟩) (Kd.Qa6 (p := ⟨gb114, 2, none⟩) (Kd.Qa6 (p := ⟨gb114, 1, none⟩) (Kd.Qa6 (p := ⟨gb114, 0, none⟩) (Kd.Qa2 HO112.out (fun k_ hk => (⟨hk, hk.2⟩ : _ ∧ k_ ≠ gb114))) (fun _ hk => hk.2) (.string t105)) (fun _ hk => hk.2) (.string t106)) (fun _ hk => hk.2) (.string t107)) (fun _ hk => hk.2) (.int .i64 t108)) (fun _ hk => hk.2) (.int .i64 t109)) (fun _ hk => hk.2) (.slice Ao22 t110.length co22)) (fun _ h_ => h_.1))))) (g := gb114) (o := Qcb t105 t106 t107 t108 t109 (.slice Ao22 t110.length co22) 30) (by (with_reducible repeat (first | refine Qae ?_ _ | refine Qaf ?_ | refine Qad ?_ _)); refine Qao (cs := #[.string t105, .string t106, .string t107, .int .i64 t108, .int .i64 t109, .slice none 0 0]) ?_ 5 _ rfl; (with_reducible repeat (first | refine Qae ?_ _ | refine Qaf ?_ | refine Qad ?_ _)); refine Qao (cs := #[.string t105, .string t106, .string t107, .int .i64 t108, .int .i64 0, .slice none 0 0]) ?_ 4 _ rfl; (with_reducible repeat (first | refine Qae ?_ _ | refine Qaf ?_ | refine Qad ?_ _)); refine Qao (cs := #[.string t105, .string t106, .string t107, .int .i64 0, .int .i64 0, .slice none 0 0]) ?_ 3 _ rfl; (with_reducible repeat (first | refine Qae ?_ _ | refine Qaf ?_ | refine Qad ?_ _)); refine Qao (cs := #[.string t105, .string t106, .string (⟨#[]⟩ : ByteArray), .int .i64 0, .int .i64 0, .slice none 0 0]) ?_ 2 _ rfl; (with_reducible repeat (first | refine Qae ?_ _ | refine Qaf ?_ | refine Qad ?_ _)); refine Qao (cs := #[.string t105, .string (⟨#[]⟩ : ByteArray), .string (⟨#[]⟩ : ByteArray), .int .i64 0, .int .i64 0, .slice none 0 0]) ?_ 1 _ rfl; (with_reducible repeat (first | refine Qae ?_ _ | refine Qaf ?_ | refine Qad ?_ _)); refine Qao (cs := #[.string (⟨#[]⟩ : ByteArray), .string (⟨#[]⟩ : ByteArray), .string (⟨#[]⟩ : ByteArray), .int .i64 0, .int .i64 0, .slice none 0 0]) ?_ 0 _ rfl; (with_reducible repeat (first | refine Qae ?_ _ | refine Qaf ?_ | refine Qad ?_ _)); exact BK114.out)) (QaI bw_)); replace HO104 := Qaa.mk (Kd.V_elder' (by (with_reducible repeat (first | apply Kd.QbI | apply Kd.QbH | apply Kd.Qb0)); exact (Kd.V_mono (Kd.V_far (p := ⟨gb114, 5, none⟩) (Kd.V_far (p := ⟨gb114, 4, none⟩) (Kd.V_far (p := ⟨gb114, 3, none⟩) (Kd.V_far (p := ⟨gb114, 2, none⟩) (Kd.V_far (p := ⟨gb114, 1, none⟩) (Kd.V_far (p := ⟨gb114, 0, none⟩) (Kd.V_mono HO104.out (fun k_ hk => (⟨hk, hk.2⟩ : _ ∧ k_ ≠ gb114))) (fun _ hk => hk.2) (.string t105)) (fun _ hk => hk.2) (.string t106)) (fun _ hk => hk.2) (.string t107)) (fun _ hk => hk.2) (.int .i64 t108)) (fun _ hk => hk.2) (.int .i64 t109)) (fun _ hk => hk.2) (.slice Ao22 t110.length co22)) (fun _ h_ => h_.1))) (Kd.Qco ho0) hb); replace HO112 := Qaa.mk (Kd.QbP (by (with_reducible repeat (first | apply Kd.QaM | apply Kd.QaP | apply Kd.QaO)); exact (Kd.Qa2 (Kd.Qa6 (p := ⟨gb114, 5, none⟩) (Kd.Qa6 (p := ⟨gb114, 4, none⟩) (Kd.Qa6 (p := ⟨gb114, 3, none⟩) (Kd.Qa6 (p := ⟨gb114, 2, none⟩) (Kd.Qa6 (p := ⟨gb114, 1, none⟩) (Kd.Qa6 (p := ⟨gb114, 0, none⟩) (Kd.Qa2 HO112.out (fun k_ hk => (⟨hk, hk.2⟩ : _ ∧ k_ ≠ gb114))) (fun _ hk => hk.2) (.string t105)) (fun _ hk => hk.2) (.string t106)) (fun _ hk => hk.2) (.string t107)) (fun _ hk => hk.2) (.int .i64 t108)) (fun _ hk => hk.2) (.int .i64 t109)) (fun _ hk => hk.2) (.slice Ao22 t110.length co22)) (fun _ h_ => h_.1))) (Kd.Qco ho0) hb); replace BK101 := Qaa.mk (Qab (g := gb101) (o := ob_ss a2_0 a2_1 24) bf_ hb); replace BK114 := Qaa.mk (Qab (g := gb114) (o := Qcb t105 t106 t107 t108 t109 (.slice Ao22 t110.length co22) 30) (by (with_reducible repeat (first | refine Qae ?_ _ | refine Qaf ?_ | refine Qad ?_ _)); refine Qao (cs := #[.string t105, .string t106, .string t107, .int .i64 t108, .int .i64 t109, .slice none 0 0]) ?_ 5 _ rfl; (with_reducible repeat (first | refine Qae ?_ _ | refine Qaf ?_ | refine Qad ?_ _)); refine Qao (cs := #[.string t105, .string t106, .string t107, .int .i64 t108, .int .i64 0, .slice none 0 0]) ?_ 4 _ rfl; (with_reducible repeat (first | refine Qae ?_ _ | refine Qaf ?_ | refine Qad ?_ _)); refine Qao (cs := #[.string t105, .string t106, .string t107, .int .i64 0, .int .i64 0, .slice none 0 0]) ?_ 3 _ rfl; (with_reducible repeat (first | refine Qae ?_ _ | refine Qaf ?_ | refine Qad ?_ _)); refine Qao (cs := #[.string t105, .string t106, .string (⟨#[]⟩ : ByteArray), .int .i64 0, .int .i64 0, .slice none 0 0]) ?_ 2 _ rfl; (with_reducible repeat (first | refine Qae ?_ _ | refine Qaf ?_ | refine Qad ?_ _)); refine Qao (cs := #[.string t105, .string (⟨#[]⟩ : ByteArray), .string (⟨#[]⟩ : ByteArray), .int .i64 0, .int .i64 0, .slice none 0 0]) ?_ 1 _ rfl; (with_reducible repeat (first | refine Qae ?_ _ | refine Qaf ?_ | refine Qad ?_ _)); refine Qao (cs := #[.string (⟨#[]⟩ : ByteArray), .string (⟨#[]⟩ : ByteArray), .string (⟨#[]⟩ : ByteArray), .int .i64 0, .int .i64 0, .slice none 0 0]) ?_ 0 _ rfl; (with_reducible repeat (first | refine Qae ?_ _ | refine Qaf ?_ | refine Qad ?_ _)); exact BK114.out) hb); replace HB := Qaa.mk (Qag bw_ hb); (try clear hb); (try clear hb2); (try clear hk); (try clear hi); (try clear ho0)) | ((with_reducible refine QaH (N := 9) rfl ?_); refine QaD ?hg (N := 9) ?hd (cs := #[.string (⟨#[]⟩ : ByteArray), .string (⟨#[]⟩ : ByteArray), .string (⟨#[]⟩ : ByteArray), .int .i64 0, .int .i64 0, .slice none 0 0]) (t := 30) ?hr ?_; (case hd => rfl); (case hg => rfl); (case hr => first | (go_simp; done) | (go_simp; rfl)); intro gb124 hg w25 hbox hb; have BK124 := Qaa.mk (hbox); have GW124 := (gz_ hg : Qaa (w.heap.size ≤ gb124)); have GE124 := (gz_ hg : Qaa (w.heap.size ≤ gb124)); have NB101_124 := (nl_ hg : Qaa (gb101 ≠ gb124)); have NB124_101 := (ng_ hg : Qaa (gb124 ≠ gb101)); have NB114_124 := (nl_ hg : Qaa (gb114 ≠ gb124)); have NB124_114 := (ng_ hg : Qaa (gb124 ≠ gb114)); replace HO104 := Qaa.mk (Kd.V_below (Kd.V_elderB (by (with_reducible repeat (first | apply Kd.QbI | apply Kd.QbH | apply Kd.Qb0)); exact HO104.out) gb124 (Nat.le_of_eq hg.symm)) hb); replace HO112 := Qaa.mk (Kd.QaJ (Kd.R_elderB (ro_ HO112) gb124 (Nat.le_of_eq hg.symm)) hb); replace HO122 := Qaa.mk (Kd.QaJ (Kd.R_elderB (ro_ HO122) gb124 (Nat.le_of_eq hg.symm)) hb); replace BK101 := Qaa.mk (Qab (g := gb101) bk_ hb); replace BK114 := Qaa.mk (Qab (g := gb114) bk_ hb); replace HB := Qaa.mk (Qag bw_ hb); clear hb hbox hg; have hnb26 := NB124_101.out; have hnc26 := NB101_124.out; have hnb27 := NB124_114.out; have hnc27 := NB114_124.out; obtain ⟨c28_0, c28_1, c28_2, c28_3, c28_4, c28_5⟩ := QbB BK124.out; obtain ⟨f28_0, f28_1, f28_2, f28_3, f28_4, f28_5⟩ := fz_6 BK124.out; obtain ⟨Ao29, co29, eo29⟩ := Kd.Qa4 HO122.out; subst eo29; obtain ⟨c30_0, c30_1, c30_2, c30_3, c30_4, c30_5⟩ := QbB BK114.out; obtain ⟨f30_0, f30_1, f30_2, f30_3, f30_4, f30_5⟩ := fz_6 BK114.out) | ((with_reducible refine QaC (f := 10) rfl ?_); refine gL 30 Tryz.func10 #[.agg #[.string t105, .string t106, .string t107, .int .i64 t108, .int .i64 t109, .slice Ao22 t110.length co22], .agg #[.string t115, .string t116, .string t117, .int .i64 t118, .int .i64 t119, .slice Ao29 t120.length co29]] ?_; (with_reducible refine (Qav.calls k t105 t106 t107 t108 t109 _ _ t110 t115 t116 t117 t118 t119 _ _ t120 true _ ?side1 ?side2 ?side3 ?side4 A7.out).mono ?_); (case side1 => refine (Kd.QaG (e := 30) (base := w.heap.size) (ok := fun k_ => (((True ∧ k_ ≠ gb114) ∧ some k_ ≠ (.slice Ao29 t120.length co29 : Value).ownBlock) ∧ k_ ≠ gb124)) (n := t110.length) (c := co22) ?_).2.2; exact (by (with_reducible repeat (first | apply Kd.QaM | apply Kd.QaP | apply Kd.QaO)); exact (Kd.Qa2 (Kd.Qa6 (p := ⟨gb124, 5, none⟩) (Kd.Qa6 (p := ⟨gb124, 4, none⟩) (Kd.Qa6 (p := ⟨gb124, 3, none⟩) (Kd.Qa6 (p := ⟨gb124, 2, none⟩) (Kd.Qa6 (p := ⟨gb124, 1, none⟩) (Kd.Qa6 (p := ⟨gb124, 0, none⟩) (Kd.Qa2 HO112.out (fun k_ hk => (⟨hk, hk.2⟩ : _ ∧ k_ ≠ gb124))) (fun _ hk => hk.2) (.string t115)) (fun _ hk => hk.2) (.string t116)) (fun _ hk => hk.2) (.string t117)) (fun _ hk => hk.2) (.int .i64 t118)) (fun _ hk => hk.2) (.int .i64 t119)) (fun _ hk => hk.2) (.slice Ao29 t120.length co29)) (fun _ h_ => h_.1)))); (case side2 => exact (Kd.QaG HO112.out).2.1); (case side3 => refine (Kd.QaG (e := 30) (base := w.heap.size) (ok := fun k_ => (((True ∧ some k_ ≠ (.slice Ao22 t110.length co22 : Value).ownBlock) ∧ k_ ≠ gb114) ∧ k_ ≠ gb124)) (n := t120.length) (c := co29) ?_).2.2; exact (by (with_reducible repeat (first | apply Kd.QaM | apply Kd.QaP | apply Kd.QaO)); exact (Kd.Qa2 (Kd.Qa6 (p := ⟨gb124, 5, none⟩) (Kd.Qa6 (p := ⟨gb124, 4, none⟩) (Kd.Qa6 (p := ⟨gb124, 3, none⟩) (Kd.Qa6 (p := ⟨gb124, 2, none⟩) (Kd.Qa6 (p := ⟨gb124, 1, none⟩) (Kd.Qa6 (p := ⟨gb124, 0, none⟩) (Kd.Qa2 HO122.out (fun k_ hk => (⟨hk, hk.2⟩ : _ ∧ k_ ≠ gb124))) (fun _ hk => hk.2) (.string t115)) (fun _ hk => hk.2) (.string t116)) (fun _ hk => hk.2) (.string t117)) (fun _ hk => hk.2) (.int .i64 t118)) (fun _ hk => hk.2) (.int .i64 t119)) (fun _ hk => hk.2) (.slice Ao29 t120.length co29)) (fun _ h_ => h_.1)))); (case side4 => exact (Kd.QaG HO122.out).2.1); rintro e w31 ⟨rfl, hb⟩; refine ⟨_, rfl, ?_⟩; replace HO104 := Qaa.mk (Kd.V_below (by (with_reducible repeat (first | apply Kd.QbI | apply Kd.QbH | apply Kd.Qb0)); exact (Kd.V_mono (Kd.V_far (p := ⟨gb124, 5, none⟩) (Kd.V_far (p := ⟨gb124, 4, none⟩) (Kd.V_far (p := ⟨gb124, 3, none⟩) (Kd.V_far (p := ⟨gb124, 2, none⟩) (Kd.V_far (p := ⟨gb124, 1, none⟩) (Kd.V_far (p := ⟨gb124, 0, none⟩) (Kd.V_mono HO104.out (fun k_ hk => (⟨hk, hk.2⟩ : _ ∧ k_ ≠ gb124))) (fun _ hk => hk.2) (.string t115)) (fun _ hk => hk.2) (.string t116)) (fun _ hk => hk.2) (.string t117)) (fun _ hk => hk.2) (.int .i64 t118)) (fun _ hk => hk.2) (.int .i64 t119)) (fun _ hk => hk.2) (.slice Ao29 t120.length co29)) (fun _ h_ => h_.1))) hb); replace HO112 := Qaa.mk (Kd.QaJ (by (with_reducible repeat (first | apply Kd.QaM | apply Kd.QaP | apply Kd.QaO)); exact (Kd.Qa2 (Kd.Qa6 (p := ⟨gb124, 5, none⟩) (Kd.Qa6 (p := ⟨gb124, 4, none⟩) (Kd.Qa6 (p := ⟨gb124, 3, none⟩) (Kd.Qa6 (p := ⟨gb124, 2, none⟩) (Kd.Qa6 (p := ⟨gb124, 1, none⟩) (Kd.Qa6 (p := ⟨gb124, 0, none⟩) (Kd.Qa2 HO112.out (fun k_ hk => (⟨hk, hk.2⟩ : _ ∧ k_ ≠ gb124))) (fun _ hk => hk.2) (.string t115)) (fun _ hk => hk.2) (.string t116)) (fun _ hk => hk.2) (.string t117)) (fun _ hk => hk.2) (.int .i64 t118)) (fun _ hk => hk.2) (.int .i64 t119)) (fun _ hk => hk.2) (.slice Ao29 t120.length co29)) (fun _ h_ => h_.1))) hb); replace HO122 := Qaa.mk (Kd.QaJ (by (with_reducible repeat (first | apply Kd.QaM | apply Kd.QaP | apply Kd.QaO)); exact (Kd.Qa2 (Kd.Qa6 (p := ⟨gb124, 5, none⟩) (Kd.Qa6 (p := ⟨gb124, 4, none⟩) (Kd.Qa6 (p := ⟨gb124, 3, none⟩) (Kd.Qa6 (p := ⟨gb124, 2, none⟩) (Kd.Qa6 (p := ⟨gb124, 1, none⟩) (Kd.Qa6 (p := ⟨gb124, 0, none⟩) (Kd.Qa2 HO122.out (fun k_ hk => (⟨hk, hk.2⟩ : _ ∧ k_ ≠ gb124))) (fun _ hk => hk.2) (.string t115)) (fun _ hk => hk.2) (.string t116)) (fun _ hk => hk.2) (.string t117)) (fun _ hk => hk.2) (.int .i64 t118)) (fun _ hk => hk.2) (.int .i64 t119)) (fun _ hk => hk.2) (.slice Ao29 t120.length co29)) (fun _ h_ => h_.1))) hb); replace BK101 := Qaa.mk (Qab (g := gb101) (o := ob_ss a2_0 a2_1 24) bf_ hb); replace BK114 := Qaa.mk (Qab (g := gb114) (o := Qcb t105 t106 t107 t108 t109 (.slice Ao22 t110.length co22) 30) bf_ hb); replace BK124 := Qaa.mk (Qab (g := gb124) (o := Qcb t115 t116 t117 t118 t119 (.slice Ao29 t120.length co29) 30) (by (with_reducible repeat (first | refine Qae ?_ _ | refine Qaf ?_ | refine Qad ?_ _)); refine Qao (cs := #[.string t115, .string t116, .string t117, .int .i64 t118, .int .i64 t119, .slice none 0 0]) ?_ 5 _ rfl; (with_reducible repeat (first | refine Qae ?_ _ | refine Qaf ?_ | refine Qad ?_ _)); refine Qao (cs := #[.string t115, .string t116, .string t117, .int .i64 t118, .int .i64 0, .slice none 0 0]) ?_ 4 _ rfl; (with_reducible repeat (first | refine Qae ?_ _ | refine Qaf ?_ | refine Qad ?_ _)); refine Qao (cs := #[.string t115, .string t116, .string t117, .int .i64 0, .int .i64 0, .slice none 0 0]) ?_ 3 _ rfl; (with_reducible repeat (first | refine Qae ?_ _ | refine Qaf ?_ | refine Qad ?_ _)); refine Qao (cs := #[.string t115, .string t116, .string (⟨#[]⟩ : ByteArray), .int .i64 0, .int .i64 0, .slice none 0 0]) ?_ 2 _ rfl; (with_reducible repeat (first | refine Qae ?_ _ | refine Qaf ?_ | refine Qad ?_ _)); refine Qao (cs := #[.string t115, .string (⟨#[]⟩ : ByteArray), .string (⟨#[]⟩ : ByteArray), .int .i64 0, .int .i64 0, .slice none 0 0]) ?_ 1 _ rfl; (with_reducible repeat (first | refine Qae ?_ _ | refine Qaf ?_ | refine Qad ?_ _)); refine Qao (cs := #[.string (⟨#[]⟩ : ByteArray), .string (⟨#[]⟩ : ByteArray), .string (⟨#[]⟩ : ByteArray), .int .i64 0, .int .i64 0, .slice none 0 0]) ?_ 0 _ rfl; (with_reducible repeat (first | refine Qae ?_ _ | refine Qaf ?_ | refine Qad ?_ _)); exact BK124.out) hb); replace HB := Qaa.mk (Qag bw_ hb); (try clear hb); (try clear hb2); (try clear hk); (try clear hi)))
    replace HO104 := Qaa.mk (Kd.Qb0 HO104.out); replace HO112 := Qaa.mk (Kd.QaO HO112.out); replace HO122 := Qaa.mk (Kd.QaO HO122.out); replace BK101 := Qaa.mk (Qaf BK101.out); replace BK114 := Qaa.mk (Qaf BK114.out); replace BK124 := Qaa.mk (Qaf BK124.out); replace HB := Qaa.mk (Qam HB.out); refine Qbt (n := 21) (S := fun w' => cgl_ss w' gb101 a2_0 a2_1) (ds := []) #[ff,ff,ff,ff,ff,ff,ff,ff,ff,ff,ff,ff,ff,ff,ff,ff,ff,ff,ff,ff,ff] (by kernel_rfl) rfl rfl (cl_2 BK101.out) (fun hHeld => ?_); refine Qbh QaX.tab5 QaX.bits5 (fun HT_ HW_ => ?_)
    generalize w31.drew = w32 at HO104 HO112 HO122 BK101 BK114 BK124 HB hHeld ⊢
    refine pz 0 31 ?_; refine pz 1 32 ?_; refine pz 2 33 ?_; refine pz 3 34 ?_; refine pz 4 35 ?_; refine pz 5 36 ?_; refine pz 6 37 ?_; refine pz 7 38 ?_; refine pz 8 39 ?_; refine pz 11 42 ?_; refine pz 12 43 ?_; refine tk2 9 40 ?_; refine tk2 13 44 ?_; refine one_ (i := 10) (N := some 41) #[tt,tt,tt,tt,tt,tt,tt,tt,tt,tt,tt,tt,tt,tt,ff,ff,ff,ff,ff,ff,ff] rfl rfl (Qbx HT_.out (by kernel_rfl)) (by decide) (fun K hK => ?_); refine QbY Tryz.func11 (by kernel_rfl) rfl #[.slice Ao17 t102.length co17, .string a1, .agg #[.string a2_0, .string a2_1]] (by rfl) rfl rfl (by (try simp only [List.map_toArray, List.map_cons, List.map_nil]); first | done | rfl | (simp only [List.length_drop, List.length_take]; rfl)) ?_
    with_reducible refine (Qba.calls _ _ t102 a1 a2_0 a2_1 t126 _ ?side1 ?side2 A10.out).mono ?_
    (case side1 => exact kd_ ((Kd.QbJ HO104.out).2.2))
    (case side2 => exact (Kd.QbJ HO104.out).2.1)
    rintro e w33 ⟨rfl, hb⟩; refine ⟨_, rfl, ?_⟩; replace HO104 := Qaa.mk (Kd.V_below (by (with_reducible repeat (first | apply Kd.QbI | apply Kd.QbH | apply Kd.Qb0)); exact HO104.out) hb); replace HO112 := Qaa.mk (Kd.QaJ (ro_ HO112) hb); replace HO122 := Qaa.mk (Kd.QaJ (ro_ HO122) hb); replace BK101 := Qaa.mk (Qab (g := gb101) bk_ hb); replace BK114 := Qaa.mk (Qab (g := gb114) bk_ hb); replace BK124 := Qaa.mk (Qab (g := gb124) bk_ hb); replace HB := Qaa.mk (Qag bw_ hb)
    (try clear hb)
    (try clear hb2)
    (try clear hk)
    (try clear hi)
    refine hK.out _ _ (cl_2 BK101.out) (fun hHeld => ?_); clear hK K; refine Qbu (a' := ?_) ?_ ?_; rotate_left
    ·show Act.put _ (some 41) _ = _
     simp only [Act.put, put_, Qbl, Qbm]; rfl
    refine one_ (i := 14) (N := some 45) #[tt,tt,tt,tt,tt,tt,tt,tt,tt,tt,tt,tt,tt,tt,tt,ff,ff,ff,ff,ff,ff] rfl rfl (Qbx HT_.out (by kernel_rfl)) (by decide) (fun K hK => ?_); refine QbY Tryz.func12 (by kernel_rfl) rfl #[.slice Ao17 t102.length co17, .string a1, .agg #[.string a2_0, .string a2_1]] (by rfl) rfl rfl (by (try simp only [List.map_toArray, List.map_cons, List.map_nil]); first | done | rfl | (simp only [List.length_drop, List.length_take]; rfl)) ?_
    with_reducible refine (QaF.calls k _ _ t102 a1 a2_0 a2_1 t127 _ ?side1 ?side2 A11.out).mono ?_
    (case side1 => exact kd_ ((Kd.QbJ HO104.out).2.2))
    (case side2 => exact (Kd.QbJ HO104.out).2.1)
    rintro e w34 ⟨rfl, hb⟩; refine ⟨_, rfl, ?_⟩; replace HO104 := Qaa.mk (Kd.V_below (by (with_reducible repeat (first | apply Kd.QbI | apply Kd.QbH | apply Kd.Qb0)); exact HO104.out) hb); replace HO112 := Qaa.mk (Kd.QaJ (ro_ HO112) hb); replace HO122 := Qaa.mk (Kd.QaJ (ro_ HO122) hb); replace BK101 := Qaa.mk (Qab (g := gb101) bk_ hb); replace BK114 := Qaa.mk (Qab (g := gb114) bk_ hb); replace BK124 := Qaa.mk (Qab (g := gb124) bk_ hb); replace HB := Qaa.mk (Qag bw_ hb)
    (try clear hb)
    (try clear hb2)
    (try clear hk)
    (try clear hi)
    refine hK.out _ _ (cl_2 BK101.out) (fun hHeld => ?_); clear hK K; refine Qbu (a' := ?_) ?_ ?_; rotate_left
    ·show Act.put _ (some 45) _ = _
     simp only [Act.put, put_, Qbl, Qbm]; rfl
    refine pz 15 46 ?_; refine pz 16 47 ?_; refine pz 17 48 ?_; refine one_ (i := 18) (N := some 49) #[tt,tt,tt,tt,tt,tt,tt,tt,tt,tt,tt,tt,tt,tt,tt,tt,tt,tt,tt,ff,ff] rfl rfl (Qbx HT_.out (by kernel_rfl)) (by decide) (fun K hK => ?_); refine QbY Tryz.func13 (by kernel_rfl) rfl #[] (by rfl) rfl rfl (by (try simp only [List.map_toArray, List.map_cons, List.map_nil]); first | done | rfl | (simp only [List.length_drop, List.length_take]; rfl)) ?_
    with_reducible refine (Qa7.calls  t128 _ A13.out).mono ?_
    rintro e w35 ⟨rfl, hb⟩; refine ⟨_, rfl, ?_⟩; replace HO104 := Qaa.mk (Kd.V_below (by (with_reducible repeat (first | apply Kd.QbI | apply Kd.QbH | apply Kd.Qb0)); exact HO104.out) hb); replace HO112 := Qaa.mk (Kd.QaJ (ro_ HO112) hb); replace HO122 := Qaa.mk (Kd.QaJ (ro_ HO122) hb); replace BK101 := Qaa.mk (Qab (g := gb101) bk_ hb); replace BK114 := Qaa.mk (Qab (g := gb114) bk_ hb); replace BK124 := Qaa.mk (Qab (g := gb124) bk_ hb); replace HB := Qaa.mk (Qag bw_ hb)
    (try clear hb)
    (try clear hb2)
    (try clear hk)
    (try clear hi)
    refine hK.out _ _ (cl_2 BK101.out) (fun hHeld => ?_); clear hK K; refine Qbu (a' := ?_) ?_ ?_; rotate_left
    ·show Act.put _ (some 49) _ = _
     simp only [Act.put, put_, Qbl, Qbm]; rfl
    refine pz 19 50 ?_; refine pz 20 6 ?_; refine QbK (Qbz HT_.out (by kernel_rfl)) ?_
    try go_wp2
    go_ret; exact ⟨by first | rfl | (simp [Qat, Qas] <;> rfl) | (simp [*, Qat, Qas] <;> rfl), bw_⟩
   ·rw [if_neg c12] at H; have c12b0 : (t126 == t127) = false := beq_eq_false_iff_ne.mpr c12; have c12b1 : (t126 != t127) = true := bne_iff_ne.mpr c12; cases H
  ·rw [if_neg c9] at H; have c9b0 : (t113 == t123) = false := beq_eq_false_iff_ne.mpr c9; have c9b1 : (t113 != t123) = true := bne_iff_ne.mpr c9; cases H
 ·replace c8 := Bool.eq_false_iff.mpr c8; subst c8
  have H1 : (none) = some r := by rw [if_neg (show ¬ (false = true) by decide)] at H; exact H
  clear H; have H := H1; clear H1; cases H






end
section
attribute [local go_sem] QaV QaT Qa1 Qa0 QaL QaK QaU QaS
attribute [local go_sem high] eqA27

end
section
attribute [local go_sem] QaV QaT Qa1 Qa0 QaL QaK QaU QaS
attribute [local go_sem high] eqA24

end
section
attribute [local go_sem] QaV QaT Qa1 Qa0 QaL QaK QaU QaS

end
theorem toList_iff (x y : ByteArray) : x.toList = y.toList ↔ x = y := by
  rw [← Lib.bytes_beq_iff, beq_iff_eq]
theorem domName_ne {n : Int} (h : 1 ≤ n) (h' : n ≤ 16) : domName n ≠ ⟨#[]⟩ := by
  have : n = 1 ∨ n = 2 ∨ n = 3 ∨ n = 4 ∨ n = 5 ∨ n = 6 ∨ n = 7 ∨ n = 8 ∨ n = 9 ∨ n = 10 ∨ n = 11 ∨ n = 12 ∨ n = 13 ∨ n = 14 ∨ n = 15 ∨ n = 16 := by omega
  rcases this with rfl | rfl | rfl | rfl | rfl | rfl | rfl | rfl | rfl | rfl | rfl | rfl | rfl | rfl | rfl | rfl <;> decide
def numFrom (s : ByteArray) : Nat → Int → Int
  | 0, _ => 0
  | k + 1, n => if n ≤ 16 then (if domName n = s then n else numFrom s k (n + 1)) else 0
def numName (s : ByteArray) : Int := numFrom s 17 1
theorem number_from (s : ByteArray) : ∀ (k : Nat) (n : Int), 1 ≤ n → n ≤ 17 → 17 - n < k → Qbc.l0 k s n = some (numFrom s k n)
  | 0, n, _, _, h => by omega
  | k + 1, n, h0, h1, h2 => by
    rw [Qbc.l0, numFrom]
    by_cases c : n ≤ 16
    · rw [if_pos c, if_pos c]
      show (Option.bind (some (domName n)) _) = _
      rw [Option.bind_some]
      by_cases e : domName n = s
      · rw [if_pos ((toList_iff _ _).mpr e), if_pos e]
      · rw [if_neg (fun h => e ((toList_iff _ _).mp h)), if_neg e]
        have hw : wrap64 (n + 1) = n + 1 := by unfold wrap64; omega
        rw [hw]; exact number_from s k (n + 1) (by omega) (by omega) (by omega)
    · rw [if_neg c, if_neg c]
theorem numFrom_more (s : ByteArray) : ∀ (k : Nat) (n : Int), 17 - n < k → numFrom s (k + 1) n = numFrom s k n
  | 0, n, h => by
    rw [numFrom, numFrom, if_neg (by omega)]
  | k + 1, n, h => by
    rw [numFrom]
    conv => rhs; rw [numFrom]
    by_cases c : n ≤ 16
    · rw [if_pos c, if_pos c]
      by_cases e : domName n = s
      · rw [if_pos e, if_pos e]
      · rw [if_neg e, if_neg e]
        exact numFrom_more s k (n + 1) (by omega)
    · rw [if_neg c, if_neg c]
theorem number_is (s : ByteArray) : ∀ k, 17 ≤ k → Qbc.f k s = some (numName s) := by
  intro k hk; unfold Qbc.f; rw [number_from s k 1 (by omega) (by omega) (by omega)]
  congr 1
  unfold numName; obtain ⟨j, rfl⟩ := Nat.le.dest hk; clear hk
  induction j with
  | zero => rfl
  | succ j ih => rw [← ih]; exact numFrom_more s (17 + j) 1 (by omega)
theorem numFrom_spec (s : ByteArray) : ∀ (k : Nat) (n : Int), 17 - n ≤ k → (∃ m, n ≤ m ∧ m ≤ 16 ∧ domName m = s ∧ numFrom s k n = m) ∨ ((∀ m, n ≤ m → m ≤ 16 → domName m ≠ s) ∧ numFrom s k n = 0)
  | 0, n, h => .inr ⟨fun m _ _ => by omega, rfl⟩
  | k + 1, n, h => by
    rw [numFrom]
    by_cases c : n ≤ 16
    · rw [if_pos c]
      by_cases e : domName n = s
      · rw [if_pos e]
        exact .inl ⟨n, by omega, c, e, rfl⟩
      · rw [if_neg e]
        rcases numFrom_spec s k (n + 1) (by omega) with ⟨m, h1, h2, h3, h4⟩ | ⟨h1, h2⟩
        · exact .inl ⟨m, by omega, h2, h3, h4⟩
        · refine .inr ⟨fun m hm hm' => ?_, h2⟩
          by_cases e2 : m = n
          · rw [e2]; exact e
          · exact h1 m (by omega) hm'
    · rw [if_neg c]
      exact .inr ⟨fun m _ _ => by omega, rfl⟩
theorem Qcn (s : ByteArray) : (∃ m, 1 ≤ m ∧ m ≤ 16 ∧ domName m = s ∧ numName s = m) ∨ ((∀ m, 1 ≤ m → m ≤ 16 → domName m ≠ s) ∧ numName s = 0) := numFrom_spec s 17 1 (by omega)
theorem Qcl (n : Int) (k : Nat) : QaR.f (k + 1) n = some (domName n) := by
  unfold QaR.f
  by_cases h0 : n < 1
  · rw [if_pos h0, domName_out n (.inl h0)]
    rfl
  · rw [if_neg h0]
    by_cases h1 : n > 16
    · rw [decide_eq_true h1, domName_out n (.inr h1)]
      rfl
    · rw [decide_eq_false h1]
      have : n = 1 ∨ n = 2 ∨ n = 3 ∨ n = 4 ∨ n = 5 ∨ n = 6 ∨ n = 7 ∨ n = 8 ∨ n = 9 ∨ n = 10 ∨ n = 11 ∨ n = 12 ∨ n = 13 ∨ n = 14 ∨ n = 15 ∨ n = 16 := by omega
      rcases this with rfl | rfl | rfl | rfl | rfl | rfl | rfl | rfl | rfl | rfl | rfl | rfl | rfl | rfl | rfl | rfl <;> (show _ = some _; kernel_rfl)
theorem bt_data (s : ByteArray) (i : Nat) (h : i < s.size) : bt s (i : Int) = ((s.data.getD i 0).toNat : Int) := by
  unfold bt; rw [dif_pos (by rw [Int.toNat_natCast]; exact h)]
  have : s.data.getD i 0 = s[i] := by
    rw [Array.getD, dif_pos (show i < s.data.size from h)]; rfl
  rw [this]; rfl
theorem size_two {s : ByteArray} (h : s.size = 2) (t : ByteArray) (ht : t.size = 2) (h0 : bt s 0 = bt t 0) (h1 : bt s 1 = bt t 1) : s = t := by
  apply ByteArray.ext
  apply Array.ext
  · exact h.trans ht.symm
  · intro i hi hi'
    have hs : i < 2 := by have : s.data.size = 2 := h; omega
    have e : bt s (i : Int) = bt t (i : Int) := by
      have : i = 0 ∨ i = 1 := by omega
      rcases this with rfl | rfl
      · exact h0
      · exact h1
    rw [bt_data s i (by omega), bt_data t i (by omega)] at e; rw [Array.getD, dif_pos hi, Array.getD, dif_pos hi'] at e; exact UInt8.toNat_inj.mp (by exact_mod_cast e)
theorem size_three {s : ByteArray} (h : s.size = 3) (t : ByteArray) (ht : t.size = 3) (h0 : bt s 0 = bt t 0) (h1 : bt s 1 = bt t 1) (h2 : bt s 2 = bt t 2) : s = t := by
  apply ByteArray.ext
  apply Array.ext
  · exact h.trans ht.symm
  · intro i hi hi'
    have hs : i < 3 := by have : s.data.size = 3 := h; omega
    have e : bt s (i : Int) = bt t (i : Int) := by
      have : i = 0 ∨ i = 1 ∨ i = 2 := by omega
      rcases this with rfl | rfl | rfl
      · exact h0
      · exact h1
      · exact h2
    rw [bt_data s i (by omega), bt_data t i (by omega)] at e; rw [Array.getD, dif_pos hi, Array.getD, dif_pos hi'] at e; exact UInt8.toNat_inj.mp (by exact_mod_cast e)
theorem refNumber_dom (m : Int) (h : 1 ≤ m) (h' : m ≤ 16) (k : Nat) : Qax.f (k + 2) (domName m) = some m := by
  have : m = 1 ∨ m = 2 ∨ m = 3 ∨ m = 4 ∨ m = 5 ∨ m = 6 ∨ m = 7 ∨ m = 8 ∨ m = 9 ∨ m = 10 ∨ m = 11 ∨ m = 12 ∨ m = 13 ∨ m = 14 ∨ m = 15 ∨ m = 16 := by omega
  rcases this with rfl | rfl | rfl | rfl | rfl | rfl | rfl | rfl | rfl | rfl | rfl | rfl | rfl | rfl | rfl | rfl <;> (show _ = some _; kernel_rfl)
theorem refNumber_none (s : ByteArray) (hn : ∀ m, 1 ≤ m → m ≤ 16 → domName m ≠ s) (k : Nat) : Qax.f (k + 2) s = some 0 := by
  have j0t : Qax.j0 (k + 2) s true = some 0 := by rw [Qax.j0, if_pos rfl]
  have j1t : ∀ x, Qax.j1 (k + 1) s x true = some 0 := fun x => by rw [Qax.j1, if_pos rfl]
  unfold Qax.f
  by_cases c1 : (s.size : Int) < 2
  · rw [if_pos c1, j0t]
  · rw [if_neg c1]
    by_cases c2 : (s.size : Int) > 3
    · rw [if_pos c2, j0t]
    · rw [if_neg c2, if_pos (by omega)]
      by_cases c3 : bt s 0 = 100
      · rw [if_pos c3, if_pos (by omega)]
        by_cases c4 : bt s 1 < 49
        · rw [if_pos c4, j0t]
        · rw [if_neg c4]
          by_cases c5 : bt s 1 > 57
          · rw [decide_eq_true c5, j0t]
          · rw [decide_eq_false c5, Qax.j0, if_neg (by decide), if_pos (by omega)]
            by_cases c6 : (s.size : Int) = 3
            · rw [if_pos c6, if_pos (by omega)]
              by_cases c7 : bt s 2 < 48
              · rw [if_pos c7, j1t]
              · rw [if_neg c7]
                by_cases c8 : bt s 2 > 57
                · rw [decide_eq_true c8, j1t]
                · rw [decide_eq_false c8, Qax.j1, if_neg (by decide), if_pos (by omega)]
                  by_cases c9 : 10 * ((bt s 1 - 48) % 256) + (bt s 2 - 48) % 256 > 16
                  · rw [if_pos c9]
                  · exfalso
                    have e1 : bt s 1 = 49 := by omega
                    have hv : bt s 2 = 48 ∨ bt s 2 = 49 ∨ bt s 2 = 50 ∨ bt s 2 = 51 ∨ bt s 2 = 52 ∨ bt s 2 = 53 ∨ bt s 2 = 54 := by omega
                    rcases hv with e | e | e | e | e | e | e
                    · exact hn 10 (by omega) (by omega) (size_three (by omega) (domName 10) rfl (c3.trans rfl) (e1.trans rfl) (e.trans rfl)).symm
                    · exact hn 11 (by omega) (by omega) (size_three (by omega) (domName 11) rfl (c3.trans rfl) (e1.trans rfl) (e.trans rfl)).symm
                    · exact hn 12 (by omega) (by omega) (size_three (by omega) (domName 12) rfl (c3.trans rfl) (e1.trans rfl) (e.trans rfl)).symm
                    · exact hn 13 (by omega) (by omega) (size_three (by omega) (domName 13) rfl (c3.trans rfl) (e1.trans rfl) (e.trans rfl)).symm
                    · exact hn 14 (by omega) (by omega) (size_three (by omega) (domName 14) rfl (c3.trans rfl) (e1.trans rfl) (e.trans rfl)).symm
                    · exact hn 15 (by omega) (by omega) (size_three (by omega) (domName 15) rfl (c3.trans rfl) (e1.trans rfl) (e.trans rfl)).symm
                    · exact hn 16 (by omega) (by omega) (size_three (by omega) (domName 16) rfl (c3.trans rfl) (e1.trans rfl) (e.trans rfl)).symm
            · rw [if_neg c6, if_neg (by omega)]
              exfalso
              have hv : bt s 1 = 49 ∨ bt s 1 = 50 ∨ bt s 1 = 51 ∨ bt s 1 = 52 ∨ bt s 1 = 53 ∨ bt s 1 = 54 ∨ bt s 1 = 55 ∨ bt s 1 = 56 ∨ bt s 1 = 57 := by omega
              rcases hv with e | e | e | e | e | e | e | e | e
              · exact hn 1 (by omega) (by omega) (size_two (by omega) (domName 1) rfl (c3.trans rfl) (e.trans rfl)).symm
              · exact hn 2 (by omega) (by omega) (size_two (by omega) (domName 2) rfl (c3.trans rfl) (e.trans rfl)).symm
              · exact hn 3 (by omega) (by omega) (size_two (by omega) (domName 3) rfl (c3.trans rfl) (e.trans rfl)).symm
              · exact hn 4 (by omega) (by omega) (size_two (by omega) (domName 4) rfl (c3.trans rfl) (e.trans rfl)).symm
              · exact hn 5 (by omega) (by omega) (size_two (by omega) (domName 5) rfl (c3.trans rfl) (e.trans rfl)).symm
              · exact hn 6 (by omega) (by omega) (size_two (by omega) (domName 6) rfl (c3.trans rfl) (e.trans rfl)).symm
              · exact hn 7 (by omega) (by omega) (size_two (by omega) (domName 7) rfl (c3.trans rfl) (e.trans rfl)).symm
              · exact hn 8 (by omega) (by omega) (size_two (by omega) (domName 8) rfl (c3.trans rfl) (e.trans rfl)).symm
              · exact hn 9 (by omega) (by omega) (size_two (by omega) (domName 9) rfl (c3.trans rfl) (e.trans rfl)).symm
      · rw [if_neg c3, j0t]
theorem refNumber_is (s : ByteArray) (k : Nat) : Qax.f (k + 2) s = some (numName s) := by
  rcases Qcn s with ⟨m, h1, h2, h3, h4⟩ | ⟨h1, h2⟩
  · rw [h4, ← h3, refNumber_dom m h1 h2]
  · rw [h2, refNumber_none s h1]
theorem mayAt_bt {s : ByteArray} {i : Nat} (h : i < s.size) (hi : i ≠ 0) : mayAt i (s.data.getD i 0).toNat = true ↔ (97 ≤ bt s i ∧ bt s i ≤ 122) ∨ (48 ≤ bt s i ∧ bt s i ≤ 57) := by
  rw [bt_data s i h]; unfold mayAt; simp [hi]; omega
theorem refMay_loop (s : ByteArray) (h8 : s.size ≤ 8) : ∀ (k i : Nat), 1 ≤ i → i ≤ s.size → s.size - i < k → mayUpto s i = true → QaB.l0 k s (i : Int) = some (mayUpto s s.size)
  | 0, i, _, _, h, _ => by omega
  | k + 1, i, h1, h2, h3, hm => by
    rw [QaB.l0]
    by_cases c : (i : Int) < (s.size : Int)
    · rw [if_pos c, if_pos (by omega)]
      have hlt : i < s.size := by omega
      have hw : wrap64 ((i : Int) + 1) = ((i + 1 : Nat) : Int) := by unfold wrap64; omega
      have ih := fun hy : mayAt i (s.data.getD i 0).toNat = true => refMay_loop s h8 k (i + 1) (by omega) hlt (by omega) (by rw [mayUpto, hm, hy]; rfl)
      rw [mayAt_bt hlt (by omega)] at ih
      have no := fun hn : mayAt i (s.data.getD i 0).toNat = false => may_stop s i hn s.size hlt
      have hno : ¬ ((97 ≤ bt s i ∧ bt s i ≤ 122) ∨ (48 ≤ bt s i ∧ bt s i ≤ 57)) → mayUpto s s.size = false := fun hn => no (by rw [Bool.eq_false_iff, Ne, mayAt_bt hlt (by omega)]; exact hn)
      rw [hw]
      by_cases a1 : bt s i ≥ 97
      · rw [if_pos a1, if_pos (by omega)]
        by_cases a2 : bt s i ≤ 122
        · rw [if_pos a2]
          exact ih (.inl ⟨a1, a2⟩)
        · rw [if_neg a2, if_neg (by omega), hno (by omega)]
      · rw [if_neg a1]
        by_cases a3 : bt s i ≥ 48
        · rw [if_pos a3]
          by_cases a4 : bt s i ≤ 57
          · rw [if_pos a4]
            exact ih (.inr ⟨a3, a4⟩)
          · rw [if_neg a4, hno (by omega)]
        · rw [if_neg a3, hno (by omega)]
    · rw [if_neg c, show s.size = i by omega, hm]
theorem refMay_is (s : ByteArray) (k : Nat) (hk : 10 ≤ k) : QaB.f k s = some (mayName s) := by
  obtain ⟨k, rfl⟩ : ∃ j, k = j + 1 := ⟨k - 1, by omega⟩
  have jt : QaB.j0 (k + 1) s true = some false := by rw [QaB.j0, if_pos rfl]
  unfold QaB.f mayName
  by_cases c1 : (s.size : Int) < 1
  · rw [if_pos c1, jt, decide_eq_false (p := 0 < s.size) (by omega)]
    simp
  · rw [if_neg c1]
    by_cases c2 : (s.size : Int) > 8
    · rw [if_pos c2, jt, decide_eq_false (p := s.size ≤ 8) (by omega)]
      simp
    · rw [if_neg c2, if_pos (by omega), decide_eq_true (p := 0 < s.size) (by omega), decide_eq_true (p := s.size ≤ 8) (by omega), Bool.and_true, Bool.and_true]
      have h0 : bt s 0 = ((s.data.getD 0 0).toNat : Int) := bt_data s 0 (by omega)
      generalize hd : (s.data.getD 0 0).toNat = d at h0
      by_cases c3 : bt s 0 < 97
      · rw [if_pos c3, jt, may_stop s 0 (by rw [hd]; unfold mayAt; simp; omega) s.size (by omega)]
      · rw [if_neg c3]
        by_cases c4 : bt s 0 > 122
        · rw [decide_eq_true c4, jt, may_stop s 0 (by rw [hd]; unfold mayAt; simp; omega) s.size (by omega)]
        · rw [decide_eq_false c4, QaB.j0, if_neg (by decide)]
          exact refMay_loop s (by omega) k 1 (Nat.le_refl _) (by omega) (by omega) (by rw [mayUpto, mayUpto, hd]; unfold mayAt; simp; omega)
theorem empty_iff (x : ByteArray) : x.toList = [] ↔ x = ⟨#[]⟩ := by
  rw [← toList_iff, show (⟨#[]⟩ : ByteArray).toList = [] by unfold ByteArray.toList; rw [ByteArray.toList.loop]; rfl]
def roleOk (r : Role) : Bool := decide (numName r.f0 > 0) && mayName r.f1
def bareOk (r : Role) : Bool := noText r.f0 && mayName r.f1
def credMay (c : Cred) : Bool :=
  (decide (1 ≤ c.f0.f0 ∧ c.f0.f0 ≤ 16) && decide (1 ≤ c.f0.f1 ∧ c.f0.f1 ≤ 4000) && mayName c.f1) &&
  (if c.f2 = 1 then mayName c.f3 && (noRole c.f4 && noRole c.f5) else if c.f2 = 2 then roleOk c.f4 && (noRole c.f5 && noText c.f3)
    else if c.f2 = 3 then bareOk c.f4 && (bareOk c.f5 && noText c.f3) else if c.f2 = 4 then roleOk c.f4 && (roleOk c.f5 && noText c.f3) else false)
def okCred (c : Cred) : Prop := c.f1.size ≤ maxLen ∧ c.f3.size ≤ maxLen ∧ (c.f4.f0.size ≤ maxLen ∧ c.f4.f1.size ≤ maxLen) ∧ c.f5.f0.size ≤ maxLen ∧ c.f5.f1.size ≤ maxLen
theorem may_is {s : ByteArray} (h : s.size ≤ maxLen) : Qbr.f s = some (mayName s) := by
  unfold Qbr.f; rw [if_pos h]
theorem role_is (r : Role) (h : r.f1.size ≤ maxLen) (k : Nat) (hk : 17 ≤ k) : Qbp.f k r.f0 r.f1 = some (roleOk r) := by
  unfold Qbp.f roleOk; rw [number_is _ k hk, Option.bind_some, may_is h, Option.bind_some]
  by_cases c : numName r.f0 > 0
  · rw [if_pos c, decide_eq_true c]; rfl
  · rw [if_neg c, decide_eq_false c]; rfl
theorem bare_is (r : Role) (h : r.f1.size ≤ maxLen) : QbW.f r.f0 r.f1 = some (bareOk r) := by
  unfold QbW.f bareOk noText; rw [may_is h, Option.bind_some]
  by_cases c : r.f0.toList = []
  · rw [if_pos c, c]; rfl
  · rw [if_neg c, beq_eq_false_iff_ne.mpr c]; rfl
theorem and3_is (x y z : Bool) : and3 (some x) (some y) (some z) = some (x && (y && z)) := by
  cases x <;> cases y <;> rfl
theorem credMay_is (c : Cred) (h : okCred c) : cred_May.f c.f0.f0 c.f0.f1 c.f1 c.f2 c.f3 c.f4.f0 c.f4.f1 c.f5.f0 c.f5.f1 = some (credMay c) := by
  obtain ⟨h1, h3, ⟨h40, h41⟩, h50, h51⟩ := h
  show mayF c = some (credMay c)
  unfold mayF credMay
  by_cases d : 1 ≤ c.f0.f0 ∧ c.f0.f0 ≤ 16
  · have hn : ¬ noText (domName c.f0.f0) = true := fun e => domName_ne d.1 d.2 ((empty_iff _).mp (beq_iff_eq.mp e))
    rw [if_neg hn, decide_eq_true d]
    by_cases s1 : c.f0.f1 < 1
    · rw [if_pos s1, decide_eq_false (p := 1 ≤ c.f0.f1 ∧ c.f0.f1 ≤ 4000) (by omega)]; rfl
    · rw [if_neg s1]
      by_cases s2 : c.f0.f1 > 4000
      · rw [if_pos s2, decide_eq_false (p := 1 ≤ c.f0.f1 ∧ c.f0.f1 ≤ 4000) (by omega)]; rfl
      · rw [if_neg s2, decide_eq_true (p := 1 ≤ c.f0.f1 ∧ c.f0.f1 ≤ 4000) (by omega), may_is h1, Option.bind_some]
        cases hm : mayName c.f1
        · rfl
        · rw [if_pos rfl]
          unfold mayKind
          by_cases k1 : c.f2 = 1
          · rw [if_pos k1, if_pos k1, may_is h3, and3_is]; rfl
          · rw [if_neg k1, if_neg k1]
            by_cases k2 : c.f2 = 2
            · rw [if_pos k2, if_pos k2, role_is c.f4 h41 20 (by omega), and3_is]; rfl
            · rw [if_neg k2, if_neg k2]
              by_cases k3 : c.f2 = 3
              · rw [if_pos k3, if_pos k3, bare_is c.f4 h41, bare_is c.f5 h51, and3_is]; rfl
              · rw [if_neg k3, if_neg k3]
                by_cases k4 : c.f2 = 4
                · rw [if_pos k4, if_pos k4, role_is c.f4 h41 20 (by omega), role_is c.f5 h51 20 (by omega), and3_is]; rfl
                · rw [if_neg k4, if_neg k4]; rfl
  · have e : domName c.f0.f0 = ⟨#[]⟩ := domName_out _ (by omega)
    rw [if_pos (show noText (domName c.f0.f0) = true from beq_iff_eq.mpr ((empty_iff _).mpr e)), decide_eq_false d]; rfl
section
open Go.RowKit Go.ChangeShapes Go.WideShapes Go.Proofs.YtbjjgaahdnfflaaGreatDoorW.PrintWords Go.Proofs.YtbjjgaahdnfflaaGreatDoorW.PrintLast Go.Proofs.YtbjjgaahdnfflaaGreatDoorW.PrintMore
def Opens {α : Type} (P : Program) (e : TypeId) (d : Kd α) (Q : α → Prop) : Prop :=
  ∀ (H : Type) (enc : TypeId × Value → H) (w : World) (base : Nat) (spare : Nat → Bool) (held : Bool) (fuel : Nat) (cs : List Value) (x : DataW H × List MemPlace), DataW.trod enc P w base spare held fuel e cs = some x → ∃ a, d.K w a cs ∧ Q a
section
variable {H : Type} {enc : TypeId × Value → H} {P : Program} {w : World} {base : Nat} {spare : Nat → Bool} {held : Bool}
theorem field_at {t : TypeId} {fs : Array Field} {fuel : Nat} {cs : List Value} {x : DataW H × List MemPlace} (ht : P.underlying t = some (.struct fs)) (h : DataW.trod enc P w base spare held fuel t cs = some x) :
    cs.length = P.cellsOf t ∧ ∃ n, ∀ (i : Nat) (f : Field), fs[i]? = some f → ∃ y, DataW.trod enc P w base spare held n f.type ((cs.drop f.offset).take (P.cellsOf f.type)) = some y := by
  obtain ⟨xs, n, _, _, hl, hx, hf⟩ := DataW.trod_struct ht h; refine ⟨hl, n, fun i f hi => ?_⟩; have hi' : i < fs.size := (Array.getElem?_eq_some_iff.mp hi).1; exact ⟨xs[i]'(by omega), (hf i f hi).trans (List.getElem?_eq_getElem (by omega))⟩
theorem list_of {α : Type} {R : Nat → α → Prop} : ∀ n, (∀ i, i < n → ∃ y, R i y) → ∃ xs : List α, xs.length = n ∧ ∀ i y, xs[i]? = some y → R i y
  | 0, _ => ⟨[], rfl, fun i y h => by simp at h⟩
  | n + 1, h => by
    obtain ⟨xs, hl, hx⟩ := list_of n (fun i hi => h i (by omega)); obtain ⟨y, hy⟩ := h n (by omega); refine ⟨xs ++ [y], by simp [hl], fun i z hz => ?_⟩
    by_cases hi : i < n
    · rw [List.getElem?_append_left (by omega)] at hz
      exact hx i z hz
    · rw [List.getElem?_append_right (by omega)] at hz
      have hi2 : i - xs.length = 0 := by
        have := (List.getElem?_eq_some_iff.mp hz).1; simp at this; omega
      rw [hi2] at hz
      have : y = z := by simpa using hz
      rw [show i = n by omega, ← this]; exact hy
theorem cells_at {a : Addr} {n : Nat} {cs : List Value} (h : w.cells? base a n = some cs) : cs.length = n ∧ ∀ i u, cs[i]? = some u → w.cell? (a.add i) = some u := by
  unfold World.cells? at h
  split at h
  · have hl := mapM_some_length h
    rw [List.length_range] at hl; refine ⟨hl, fun i u hu => ?_⟩
    have hi : i < n := by have := (List.getElem?_eq_some_iff.mp hu).1; omega
    have := mapM_some_get h i i (by simp [hi]); rw [this, hu]
  · cases h
theorem open_row {α : Type} {d : Kd α} {Q : α → Prop} {t e : TypeId} {fuel : Nat} {a : Option Addr} {len cap : Nat} {x : DataW H × List MemPlace} (ht : P.underlying t = some (.slice e)) (hc : P.cellsOf e = d.sz) (ho : Opens P e d Q)
    (h : DataW.trod enc P w base spare held fuel t [.slice a len cap] = some x) : ∃ xs : List α, xs.length = len ∧ d.C w a xs.length xs ∧ xs.length ≤ cap ∧ ∀ y ∈ xs, Q y := by
  rcases DataW.trod_slice ht h with ⟨hcs, _⟩ | ⟨a', len', cap', elems, rest, n, _, hcs, _, hb, hl, hm, hlen, hel, _, _⟩
  · simp only [List.cons.injEq, Value.slice.injEq, and_true] at hcs
    obtain ⟨rfl, rfl, rfl⟩ := hcs; exact ⟨[], rfl, ⟨rfl, Nat.zero_le _, fun h => absurd h (Nat.lt_irrefl _)⟩, Nat.le_refl _, fun y hy => by cases hy⟩
  · simp only [List.cons.injEq, Value.slice.injEq, and_true] at hcs
    obtain ⟨rfl, rfl, rfl⟩ := hcs
    obtain ⟨xs, hxl, hx⟩ := list_of (R := fun i y => ∃ cs, w.cells? base (a'.add (i * P.cellsOf e)) (P.cellsOf e) = some cs ∧ d.K w y cs ∧ Q y) len (fun i hi => by
      have h1 := hel i hi; rw [List.getElem?_eq_getElem (by omega)] at h1; obtain ⟨cs, hcs, hy⟩ := Option.bind_eq_some_iff.mp h1; obtain ⟨y, hk, hq⟩ := ho _ _ _ _ _ _ _ _ _ hy
      exact ⟨y, cs, hcs, hk, hq⟩)
    refine ⟨xs, hxl, ⟨rfl, ?_, fun _ => ⟨a', rfl, fun j p hj => ?_⟩⟩, by omega, fun y hy => ?_⟩
    · have : maxLen = 9223372036854775807 := by decide
      omega
    · obtain ⟨cs, h1, h2, _⟩ := hx j p hj
      obtain ⟨hl1, hl2⟩ := cells_at h1; refine ⟨cs, by omega, h2, fun i u hu => ?_⟩; rw [← hc, ← Addr.add_add]; exact hl2 i u hu
    · obtain ⟨i, hi, e⟩ := List.getElem_of_mem hy
      obtain ⟨_, _, _, hq⟩ := hx i y (by rw [List.getElem?_eq_getElem hi, e]); exact hq
end
theorem list2 {α : Type} : ∀ {l : List α}, l.length = 2 → ∃ a b, l = [a, b]
  | [a, b], _ => ⟨a, b, rfl⟩
theorem list9 {α : Type} : ∀ {l : List α}, l.length = 9 → ∃ a b c d e f g h i, l = [a, b, c, d, e, f, g, h, i]
  | [a, b, c, d, e, f, g, h, i], _ => ⟨a, b, c, d, e, f, g, h, i, rfl⟩
theorem opens_role : Opens Tryz.prog 24 k24 (fun r => r.f0.size ≤ maxLen ∧ r.f1.size ≤ maxLen) := by
  intro H enc w base spare held fuel cs x h; obtain ⟨hl, n, hf⟩ := field_at Tryz.underlying24 h; rw [Tryz.cellsRole] at hl; obtain ⟨y0, h0⟩ : ∃ y, DataW.trod enc Tryz.prog w base spare held n 9 ((cs.drop 0).take (Tryz.prog.cellsOf 9)) = some y := hf 0 _ rfl; obtain ⟨y1, h1⟩ : ∃ y, DataW.trod enc Tryz.prog w base spare held n 9 ((cs.drop 1).take (Tryz.prog.cellsOf 9)) = some y := hf 1 _ rfl; rw [Tryz.cellsStr] at h0 h1; obtain ⟨c0, c1, rfl⟩ := list2 hl; obtain ⟨s0, e0, _, z0⟩ := DataW.trod_string Tryz.underlying9 h0; obtain ⟨s1, e1, _, z1⟩ := DataW.trod_string Tryz.underlying9 h1
  obtain rfl : c0 = .string s0 := by simpa using e0
  obtain rfl : c1 = .string s1 := by simpa using e1
  exact ⟨⟨s0, s1⟩, k24_mk w ⟨s0, s1⟩, z0, z1⟩
theorem Tryz.cellsInt : Tryz.prog.cellsOf 3 = 1 := by kernel_rfl
theorem Tryz.cellsID : Tryz.prog.cellsOf 27 = 2 := by kernel_rfl
theorem Tryz.cellsCred : Tryz.prog.cellsOf 46 = 9 := by kernel_rfl
theorem opens_id : Opens Tryz.prog 27 k27 (fun _ => True) := by
  intro H enc w base spare held fuel cs x h; obtain ⟨hl, n, hf⟩ := field_at Tryz.underlying27 h; rw [Tryz.cellsID] at hl; obtain ⟨y0, h0⟩ : ∃ y, DataW.trod enc Tryz.prog w base spare held n 3 ((cs.drop 0).take (Tryz.prog.cellsOf 3)) = some y := hf 0 _ rfl; obtain ⟨y1, h1⟩ : ∃ y, DataW.trod enc Tryz.prog w base spare held n 3 ((cs.drop 1).take (Tryz.prog.cellsOf 3)) = some y := hf 1 _ rfl; rw [Tryz.cellsInt] at h0 h1; obtain ⟨c0, c1, rfl⟩ := list2 hl; obtain ⟨s0, e0, _, z0⟩ := DataW.trod_int Tryz.underlying3 h0; obtain ⟨s1, e1, _, z1⟩ := DataW.trod_int Tryz.underlying3 h1
  obtain rfl : c0 = .int .i64 s0 := by simpa using e0
  obtain rfl : c1 = .int .i64 s1 := by simpa using e1
  exact ⟨⟨s0, s1⟩, k27_mk w ⟨s0, s1⟩, trivial⟩
theorem opens_cred : Opens Tryz.prog 46 k46 okCred := by
  intro H enc w base spare held fuel cs x h; obtain ⟨hl, n, hf⟩ := field_at Tryz.underlying46 h; rw [Tryz.cellsCred] at hl; obtain ⟨y0, h0⟩ : ∃ y, DataW.trod enc Tryz.prog w base spare held n 27 ((cs.drop 0).take (Tryz.prog.cellsOf 27)) = some y := hf 0 _ rfl; obtain ⟨y1, h1⟩ : ∃ y, DataW.trod enc Tryz.prog w base spare held n 9 ((cs.drop 2).take (Tryz.prog.cellsOf 9)) = some y := hf 1 _ rfl; obtain ⟨y2, h2⟩ : ∃ y, DataW.trod enc Tryz.prog w base spare held n 3 ((cs.drop 3).take (Tryz.prog.cellsOf 3)) = some y := hf 2 _ rfl; obtain ⟨y3, h3⟩ : ∃ y, DataW.trod enc Tryz.prog w base spare held n 9 ((cs.drop 4).take (Tryz.prog.cellsOf 9)) = some y := hf 3 _ rfl; obtain ⟨y4, h4⟩ : ∃ y, DataW.trod enc Tryz.prog w base spare held n 24 ((cs.drop 5).take (Tryz.prog.cellsOf 24)) = some y := hf 4 _ rfl; obtain ⟨y5, h5⟩ : ∃ y, DataW.trod enc Tryz.prog w base spare held n 24 ((cs.drop 7).take (Tryz.prog.cellsOf 24)) = some y := hf 5 _ rfl; rw [Tryz.cellsID] at h0; rw [Tryz.cellsStr] at h1 h3; rw [Tryz.cellsInt] at h2; rw [Tryz.cellsRole] at h4 h5; obtain ⟨c0, c1, c2, c3, c4, c5, c6, c7, c8, rfl⟩ := list9 hl; obtain ⟨a, ka, _⟩ := opens_id _ _ _ _ _ _ _ _ _ h0
  obtain ⟨rfl, rfl⟩ : c0 = .int .i64 a.f0 ∧ c1 = .int .i64 a.f1 := by simpa using k27_open ka
  obtain ⟨s1, e1, _, z1⟩ := DataW.trod_string Tryz.underlying9 h1; obtain ⟨s2, e2, _, z2⟩ := DataW.trod_int Tryz.underlying3 h2; obtain ⟨s3, e3, _, z3⟩ := DataW.trod_string Tryz.underlying9 h3
  obtain rfl : c2 = .string s1 := by simpa using e1
  obtain rfl : c3 = .int .i64 s2 := by simpa using e2
  obtain rfl : c4 = .string s3 := by simpa using e3
  obtain ⟨r4, k4, z4⟩ := opens_role _ _ _ _ _ _ _ _ _ h4
  obtain ⟨rfl, rfl⟩ : c5 = .string r4.f0 ∧ c6 = .string r4.f1 := by simpa using k24_open k4
  obtain ⟨r5, k5, z5⟩ := opens_role _ _ _ _ _ _ _ _ _ h5
  obtain ⟨rfl, rfl⟩ : c7 = .string r5.f0 ∧ c8 = .string r5.f1 := by simpa using k24_open k5
  exact ⟨⟨a, s1, s2, s3, r4, r5⟩, k46_mk w ⟨a, s1, s2, s3, r4, r5⟩, z1, z3, z4, z5⟩
end
inductive Said (cs : List Cred) : Pair → Prop
  | member {c : Cred} : c ∈ cs → c.f2 = 1 → Said cs ⟨credRole c, c.f3⟩
  | incl {c : Cred} {u : ByteArray} : c ∈ cs → c.f2 = 2 → Said cs ⟨c.f4, u⟩ → Said cs ⟨credRole c, u⟩
  | link {c : Cred} {u v : ByteArray} : c ∈ cs → c.f2 = 3 → Said cs ⟨linkFirst c, u⟩ → numName u > 0 → Said cs ⟨⟨u, c.f5.f1⟩, v⟩ → Said cs ⟨credRole c, v⟩
  | both {c : Cred} {u : ByteArray} : c ∈ cs → c.f2 = 4 → Said cs ⟨c.f4, u⟩ → Said cs ⟨c.f5, u⟩ → Said cs ⟨credRole c, u⟩
def small (s : ByteArray) : Prop := s.size ≤ 8
def smallR (r : Role) : Prop := small r.f0 ∧ small r.f1
theorem QbU {s : ByteArray} (h : small s) : s.size ≤ maxLen := Nat.le_trans h (by decide)
theorem mayName_small {s : ByteArray} (h : mayName s = true) : small s := by
  unfold mayName at h; simp only [Bool.and_eq_true, decide_eq_true_eq] at h; unfold small; omega
theorem QbC (n : Int) : small (domName n) := by
  by_cases h : 1 ≤ n ∧ n ≤ 16
  · obtain ⟨h, h'⟩ := h
    have : n = 1 ∨ n = 2 ∨ n = 3 ∨ n = 4 ∨ n = 5 ∨ n = 6 ∨ n = 7 ∨ n = 8 ∨ n = 9 ∨ n = 10 ∨ n = 11 ∨ n = 12 ∨ n = 13 ∨ n = 14 ∨ n = 15 ∨ n = 16 := by omega
    rcases this with rfl | rfl | rfl | rfl | rfl | rfl | rfl | rfl | rfl | rfl | rfl | rfl | rfl | rfl | rfl | rfl <;> (unfold small; decide)
  · rw [domName_out n (by omega)]
    unfold small
    decide
theorem numName_small {s : ByteArray} (h : numName s > 0) : small s := by
  rcases Qcn s with ⟨m, _, _, h3, _⟩ | ⟨_, h2⟩
  · rw [← h3]; exact QbC m
  · omega
theorem numName_dom {n : Int} (h : 1 ≤ n) (h' : n ≤ 16) : numName (domName n) > 0 := by
  rcases Qcn (domName n) with ⟨m, h1, _, _, h4⟩ | ⟨h1, _⟩
  · omega
  · exact absurd rfl (h1 n h h')
theorem roleOk_small {r : Role} (h : roleOk r = true) : smallR r := by
  unfold roleOk at h; rw [Bool.and_eq_true, decide_eq_true_eq] at h; exact ⟨numName_small h.1, mayName_small h.2⟩
theorem bareOk_small {r : Role} (h : bareOk r = true) : small r.f1 := by
  unfold bareOk at h; rw [Bool.and_eq_true] at h; exact mayName_small h.2
theorem QbE {c : Cred} (h : credMay c = true) : (1 ≤ c.f0.f0 ∧ c.f0.f0 ≤ 16) ∧ small c.f1 ∧ ((c.f2 = 1 ∧ small c.f3) ∨ (c.f2 = 2 ∧ smallR c.f4) ∨ (c.f2 = 3 ∧ small c.f4.f1 ∧ small c.f5.f1) ∨ (c.f2 = 4 ∧ smallR c.f4 ∧ smallR c.f5)) := by
  unfold credMay at h; rw [Bool.and_eq_true, Bool.and_eq_true, Bool.and_eq_true, decide_eq_true_eq] at h; refine ⟨h.1.1.1, mayName_small h.1.2, ?_⟩; have h2 := h.2
  by_cases k1 : c.f2 = 1
  · rw [if_pos k1, Bool.and_eq_true] at h2
    exact .inl ⟨k1, mayName_small h2.1⟩
  rw [if_neg k1] at h2
  by_cases k2 : c.f2 = 2
  · rw [if_pos k2, Bool.and_eq_true] at h2
    exact .inr (.inl ⟨k2, roleOk_small h2.1⟩)
  rw [if_neg k2] at h2
  by_cases k3 : c.f2 = 3
  · rw [if_pos k3, Bool.and_eq_true, Bool.and_eq_true] at h2
    exact .inr (.inr (.inl ⟨k3, bareOk_small h2.1, bareOk_small h2.2.1⟩))
  rw [if_neg k3] at h2
  by_cases k4 : c.f2 = 4
  · rw [if_pos k4, Bool.and_eq_true, Bool.and_eq_true] at h2
    exact .inr (.inr (.inr ⟨k4, roleOk_small h2.1, roleOk_small h2.2.1⟩))
  rw [if_neg k4] at h2; cases h2
def Mays (cs : List Cred) : Prop := ∀ c ∈ cs, credMay c = true
theorem Said.within {cs : List Cred} {p : Pair} (h : Said cs p) : (∃ c ∈ cs, p.f0 = credRole c) ∧ ∃ c ∈ cs, c.f2 = 1 ∧ p.f1 = c.f3 := by
  induction h with
  | member hc hk => exact ⟨⟨_, hc, rfl⟩, _, hc, hk, rfl⟩
  | incl hc hk _ ih => exact ⟨⟨_, hc, rfl⟩, ih.2⟩
  | link hc hk _ _ _ _ ih => exact ⟨⟨_, hc, rfl⟩, ih.2⟩
  | both hc hk _ _ ih _ => exact ⟨⟨_, hc, rfl⟩, ih.2⟩
theorem Said.smalls {cs : List Cred} (hm : Mays cs) {p : Pair} (h : Said cs p) : smallR p.f0 ∧ small p.f1 := by
  obtain ⟨⟨c, hc, e⟩, c', hc', hk, e'⟩ := h.within; obtain ⟨_, h1, _⟩ := QbE (hm c hc); obtain ⟨_, _, h2⟩ := QbE (hm c' hc'); rw [e, e']; refine ⟨⟨QbC _, h1⟩, ?_⟩
  rcases h2 with h2 | h2 | h2 | h2
  · exact h2.2
  · omega
  · omega
  · omega
theorem Said.okPair {cs : List Cred} (hm : Mays cs) {p : Pair} (h : Said cs p) : okPair p := by
  obtain ⟨⟨h0, h1⟩, h2⟩ := h.smalls hm; exact ⟨QbU h0, QbU h1, QbU h2⟩
theorem Said.owner {cs : List Cred} (hm : Mays cs) {p : Pair} (h : Said cs p) : numName p.f0.f0 > 0 := by
  obtain ⟨⟨c, hc, e⟩, _⟩ := h.within; obtain ⟨h0, _⟩ := QbE (hm c hc); rw [e]; exact numName_dom h0.1 h0.2
theorem flatMap_len {α β : Type} (f : α → List β) (n : Nat) (h : ∀ c, (f c).length = n) : ∀ l : List α, (l.flatMap f).length = l.length * n
  | [] => by simp
  | a :: l => by rw [List.flatMap_cons, List.length_append, h a, flatMap_len f n h l, List.length_cons, Nat.succ_mul, Nat.add_comm]
theorem said_all {cs : List Cred} {l : List Pair} (hn : l.Nodup) (h : ∀ p ∈ l, Said cs p) : l.length ≤ cs.length * cs.length := by
  have := nodup_le (m := cs.flatMap fun c => cs.map fun c' => (⟨credRole c, c'.f3⟩ : Pair)) hn (fun p hp => by
    obtain ⟨⟨c, hc, e⟩, c', hc', _, e'⟩ := (h p hp).within
    exact List.mem_flatMap.mpr ⟨c, hc, List.mem_map.mpr ⟨c', hc', Qb1 e.symm e'.symm⟩⟩)
  exact Nat.le_trans this (Nat.le_of_eq (flatMap_len _ cs.length (fun c => by simp) cs))
theorem said_400 {cs : List Cred} (hl : cs.length ≤ 20) {l : List Pair} (hn : l.Nodup) (h : ∀ p ∈ l, Said cs p) : l.length ≤ 400 :=
  Nat.le_trans (said_all hn h) (Nat.mul_le_mul hl hl)
structure Good (cs : List Cred) (s : St) : Prop where
  nodup : s.known.Nodup
  said : ∀ p ∈ s.known, Said cs p
  suffix : ∃ done, s.known = done ++ s.waits
def Grows (s s' : St) : Prop := ∃ l, s'.known = s.known ++ l ∧ s'.waits = s.waits ++ l
theorem Grows.refl (s : St) : Grows s s := ⟨[], by simp, by simp⟩
theorem Grows.trans {s s' s'' : St} (h : Grows s s') (h' : Grows s' s'') : Grows s s'' := by
  obtain ⟨l, h1, h2⟩ := h; obtain ⟨l', h3, h4⟩ := h'; exact ⟨l ++ l', by rw [h3, h1, List.append_assoc], by rw [h4, h2, List.append_assoc]⟩
theorem Grows.mem {s s' : St} (h : Grows s s') {p : Pair} (hp : p ∈ s.known) : p ∈ s'.known := by
  obtain ⟨l, h1, _⟩ := h; rw [h1]; exact List.mem_append_left _ hp
def Runs (cs : List Cred) (s : St) (r : Option St) (W : Pair → Prop) : Prop := ∃ s', r = some s' ∧ Good cs s' ∧ Grows s s' ∧ ∀ q, W q → q ∈ s'.known
theorem Runs.none {cs : List Cred} {s : St} {W : Pair → Prop} (h : Good cs s) (hW : ∀ q, ¬ W q) : Runs cs s (some s) W := ⟨s, rfl, h, .refl s, fun q hq => absurd hq (hW q)⟩
theorem Runs.bind {cs : List Cred} {s : St} {r : Option St} {f : St → Option St} {W1 W2 W : Pair → Prop} (h : Runs cs s r W1) (hf : ∀ s', Good cs s' → Grows s s' → Runs cs s' (f s') W2) (hW : ∀ q, W q → W1 q ∨ W2 q) : Runs cs s (r.bind f) W := by
  obtain ⟨s1, rfl, g1, gr1, w1⟩ := h; obtain ⟨s2, e2, g2, gr2, w2⟩ := hf s1 g1 gr1; exact ⟨s2, e2, g2, gr1.trans gr2, fun q hq => (hW q hq).elim (fun h => gr2.mem (w1 q h)) (w2 q)⟩
theorem Runs.imp {cs : List Cred} {s : St} {r : Option St} {W W' : Pair → Prop} (h : Runs cs s r W) (hW : ∀ q, W' q → W q) : Runs cs s r W' := by
  obtain ⟨s1, e, g1, gr1, w1⟩ := h; exact ⟨s1, e, g1, gr1, fun q hq => w1 q (hW q hq)⟩
theorem learn_runs {cs : List Cred} (hm : Mays cs) (hl : cs.length ≤ 20) {s : St} (g : Good cs s) {p : Pair} (hp : Said cs p) : Runs cs s (s.learn p) (fun q => q = p) := by
  unfold St.learn
  by_cases hin : p ∈ s.known
  · rw [if_pos hin]
    exact ⟨s, rfl, g, .refl s, fun q e => e ▸ hin⟩
  · have h400 := said_400 hl g.nodup g.said
    obtain ⟨done, hd⟩ := g.suffix
    have hw : s.waits.length ≤ 400 := by
      have := congrArg List.length hd; rw [List.length_append] at this; omega
    rw [if_neg hin, if_pos ⟨by omega, by omega, hp.okPair hm⟩]; refine ⟨_, rfl, ⟨?_, ?_, done, ?_⟩, ⟨[p], rfl, rfl⟩, fun q e => ?_⟩
    · show (s.known ++ [p]).Nodup
      rw [List.nodup_append]; refine ⟨g.nodup, by simp, ?_⟩; intro a ha b hb e; rw [List.mem_singleton] at hb; exact hin (hb ▸ e ▸ ha)
    · intro q hq
      rcases List.mem_append.mp hq with h | h
      · exact g.said q h
      · rw [List.mem_singleton.mp h]; exact hp
    · show s.known ++ [p] = done ++ (s.waits ++ [p])
      rw [hd, List.append_assoc]
    · subst e
      exact List.mem_append_right _ (by simp)
theorem members_runs {cs : List Cred} (hm : Mays cs) (hl : cs.length ≤ 20) : ∀ (l : List Cred) (s : St), (∀ c ∈ l, c ∈ cs) → Good cs s → Runs cs s (membersF l s) (fun q => ∃ c ∈ l, c.f2 = 1 ∧ q = ⟨credRole c, c.f3⟩)
  | [], s, _, g => .none g (fun q h => by obtain ⟨c, hc, _⟩ := h; cases hc)
  | c :: l, s, hs, g => by
    rw [membersF]
    by_cases k : c.f2 = 1
    · rw [if_pos k]
      refine (learn_runs hm hl g (.member (hs c (List.mem_cons_self ..)) k)).bind (fun s' g' _ => members_runs hm hl l s' (fun x hx => hs x (List.mem_cons_of_mem _ hx)) g') ?_; rintro q ⟨c', hc', hk', e⟩
      rcases List.mem_cons.mp hc' with rfl | h
      · exact .inl e
      · exact .inr ⟨c', h, hk', e⟩
    · rw [if_neg k]
      refine (members_runs hm hl l s (fun x hx => hs x (List.mem_cons_of_mem _ hx)) g).imp ?_; rintro q ⟨c', hc', hk', e⟩
      rcases List.mem_cons.mp hc' with rfl | h
      · exact absurd hk' k
      · exact ⟨c', h, hk', e⟩
theorem learnMany_runs {cs : List Cred} (hm : Mays cs) (hl : cs.length ≤ 20) (c : Cred) (second : Role) : ∀ (l : List Pair) (s : St), (∀ q ∈ l, q.f0 = second → Said cs ⟨credRole c, q.f1⟩) → Good cs s → Runs cs s (learnMany c second l s) (fun r => ∃ q ∈ l, q.f0 = second ∧ r = ⟨credRole c, q.f1⟩)
  | [], s, _, g => .none g (fun q h => by obtain ⟨c, hc, _⟩ := h; cases hc)
  | q :: l, s, hs, g => by
    rw [learnMany]
    by_cases k : q.f0 = second
    · rw [if_pos k]
      refine (learn_runs hm hl g (hs q (List.mem_cons_self ..) k)).bind (fun s' g' _ => learnMany_runs hm hl c second l s' (fun x hx => hs x (List.mem_cons_of_mem _ hx)) g') ?_; rintro r ⟨q', hq', hk', e⟩
      rcases List.mem_cons.mp hq' with rfl | h
      · exact .inl e
      · exact .inr ⟨q', h, hk', e⟩
    · rw [if_neg k]
      refine (learnMany_runs hm hl c second l s (fun x hx => hs x (List.mem_cons_of_mem _ hx)) g).imp ?_; rintro r ⟨q', hq', hk', e⟩
      rcases List.mem_cons.mp hq' with rfl | h
      · exact absurd hk' k
      · exact ⟨q', h, hk', e⟩
theorem sortPairs_mem {l : List Pair} {p : Pair} : p ∈ sortPairs l ↔ p ∈ l := (List.mergeSort_perm l _).mem_iff
inductive Rule (c : Cred) (p : Pair) (K : List Pair) : Pair → Prop
  | incl : c.f2 = 2 → p.f0 = c.f4 → Rule c p K ⟨credRole c, p.f1⟩
  | linkA {v : ByteArray} : c.f2 = 3 → p.f0 = linkFirst c → numName p.f1 > 0 → (⟨⟨p.f1, c.f5.f1⟩, v⟩ : Pair) ∈ K → Rule c p K ⟨credRole c, v⟩
  | linkB : c.f2 = 3 → p.f0.f1 = c.f5.f1 → (⟨linkFirst c, p.f0.f0⟩ : Pair) ∈ K → Rule c p K ⟨credRole c, p.f1⟩
  | bothA : c.f2 = 4 → p.f0 = c.f4 → (⟨c.f5, p.f1⟩ : Pair) ∈ K → Rule c p K ⟨credRole c, p.f1⟩
  | bothB : c.f2 = 4 → p.f0 = c.f5 → (⟨c.f4, p.f1⟩ : Pair) ∈ K → Rule c p K ⟨credRole c, p.f1⟩
theorem Rule.mono {c : Cred} {p : Pair} {K K' : List Pair} (h : ∀ x ∈ K, x ∈ K') {r : Pair} (hr : Rule c p K r) : Rule c p K' r := by
  cases hr with
  | incl a b => exact .incl a b
  | linkA a b d e => exact .linkA a b d (h _ e)
  | linkB a b d => exact .linkB a b (h _ d)
  | bothA a b d => exact .bothA a b (h _ d)
  | bothB a b d => exact .bothB a b (h _ d)
theorem linkA_runs {cs : List Cred} (hm : Mays cs) (hl : cs.length ≤ 20) {c : Cred} (hc : c ∈ cs) (k : c.f2 = 3) {p : Pair} (s : St) (hp : p ∈ s.known) (g : Good cs s) : Runs cs s (linkA c p s) (fun r => p.f0 = linkFirst c ∧ numName p.f1 > 0 ∧ ∃ v, (⟨⟨p.f1, c.f5.f1⟩, v⟩ : Pair) ∈ s.known ∧ r = ⟨credRole c, v⟩) := by
  unfold linkA
  by_cases e1 : p.f0 = linkFirst c
  · rw [if_pos e1, number_is _ 20 (by omega), Option.bind_some]
    by_cases hn : numName p.f1 > 0
    · have h400 := said_400 hl g.nodup g.said
      rw [if_pos hn, if_pos (by omega)]; refine (learnMany_runs hm hl c _ _ s ?_ g).imp ?_
      · intro q hq e
        have hq' := g.said q (sortPairs_mem.mp hq); have hp' := g.said p hp; have eq : q = ⟨⟨p.f1, c.f5.f1⟩, q.f1⟩ := Qb1 e rfl; have ep : p = ⟨linkFirst c, p.f1⟩ := Qb1 e1 rfl; rw [ep] at hp'; rw [eq] at hq'; exact .link hc k hp' hn hq'
      · rintro r ⟨_, _, v, hv, e⟩
        exact ⟨_, sortPairs_mem.mpr hv, rfl, e⟩
    · rw [if_neg hn]
      exact .none g (fun q h => hn h.2.1)
  · rw [if_neg e1]
    exact .none g (fun q h => e1 h.1)
theorem linkB_runs {cs : List Cred} (hm : Mays cs) (hl : cs.length ≤ 20) {c : Cred} (hc : c ∈ cs) (k : c.f2 = 3) {p : Pair} (s : St) (hp : p ∈ s.known) (g : Good cs s) : Runs cs s (linkB c p s) (fun r => p.f0.f1 = c.f5.f1 ∧ (⟨linkFirst c, p.f0.f0⟩ : Pair) ∈ s.known ∧ r = ⟨credRole c, p.f1⟩) := by
  unfold linkB; have hp' := g.said p hp
  by_cases e1 : p.f0.f1 = c.f5.f1
  · obtain ⟨_, h1, h2⟩ := QbE (hm c hc)
    have hok : okPair ⟨linkFirst c, p.f0.f0⟩ := by
      refine ⟨QbU (QbC _), ?_, (hp'.okPair hm).1⟩
      rcases h2 with h2 | h2 | h2 | h2
      · omega
      · omega
      · exact QbU h2.2.1
      · omega
    rw [if_pos e1, if_pos hok]
    by_cases hin : (⟨linkFirst c, p.f0.f0⟩ : Pair) ∈ s.known
    · rw [if_pos hin]
      refine (learn_runs hm hl g ?_).imp ?_
      · have ep : p = ⟨⟨p.f0.f0, c.f5.f1⟩, p.f1⟩ := Qb1 (role_ext rfl e1) rfl
        have hn := hp'.owner hm; have hp2 := hp'; rw [ep] at hp2; exact .link hc k (g.said _ hin) hn hp2
      · rintro r ⟨_, _, e⟩
        exact e
    · rw [if_neg hin]
      exact .none g (fun q h => hin h.2.1)
  · rw [if_neg e1]
    exact .none g (fun q h => e1 h.1)
theorem bothS_runs {cs : List Cred} (hm : Mays cs) (hl : cs.length ≤ 20) {c : Cred} (hc : c ∈ cs) (k : c.f2 = 4) {p : Pair} (s : St) (hp : p ∈ s.known) (g : Good cs s) : Runs cs s (bothSecond c p s) (fun r => p.f0 = c.f5 ∧ (⟨c.f4, p.f1⟩ : Pair) ∈ s.known ∧ r = ⟨credRole c, p.f1⟩) := by
  unfold bothSecond; have hp' := g.said p hp
  by_cases e1 : p.f0 = c.f5
  · obtain ⟨_, h1, h2⟩ := QbE (hm c hc)
    have hok : okPair ⟨c.f4, p.f1⟩ := by
      rcases h2 with h2 | h2 | h2 | h2
      · omega
      · omega
      · omega
      · exact ⟨QbU h2.2.1.1, QbU h2.2.1.2, (hp'.okPair hm).2.2⟩
    rw [if_pos e1, if_pos hok]
    by_cases hin : (⟨c.f4, p.f1⟩ : Pair) ∈ s.known
    · rw [if_pos hin]
      refine (learn_runs hm hl g ?_).imp ?_
      · have ep : p = ⟨c.f5, p.f1⟩ := Qb1 e1 rfl
        have hp2 := hp'; rw [ep] at hp2; exact .both hc k (g.said _ hin) hp2
      · rintro r ⟨_, _, e⟩
        exact e
    · rw [if_neg hin]
      exact .none g (fun q h => hin h.2.1)
  · rw [if_neg e1]
    exact .none g (fun q h => e1 h.1)
theorem both_runs {cs : List Cred} (hm : Mays cs) (hl : cs.length ≤ 20) {c : Cred} (hc : c ∈ cs) (k : c.f2 = 4) {p : Pair} (s : St) (hp : p ∈ s.known) (g : Good cs s) : Runs cs s (bothF c p s) (fun r => Rule c p s.known r) := by
  unfold bothF; have hp' := g.said p hp; have key : Runs cs s (bothSecond c p s) (fun r => p.f0 = c.f5 ∧ (⟨c.f4, p.f1⟩ : Pair) ∈ s.known ∧ r = ⟨credRole c, p.f1⟩) := bothS_runs hm hl hc k s hp g
  have other : ∀ r, Rule c p s.known r → (¬ (p.f0 = c.f4 ∧ (⟨c.f5, p.f1⟩ : Pair) ∈ s.known)) → p.f0 = c.f5 ∧ (⟨c.f4, p.f1⟩ : Pair) ∈ s.known ∧ r = ⟨credRole c, p.f1⟩ := by
    intro r hr hno
    cases hr with
    | incl a b => omega
    | linkA a b d e => omega
    | linkB a b d => omega
    | bothA a b d => exact absurd ⟨b, d⟩ hno
    | bothB a b d => exact ⟨b, d, rfl⟩
  by_cases e1 : p.f0 = c.f4
  · obtain ⟨_, h1, h2⟩ := QbE (hm c hc)
    have hok : okPair ⟨c.f5, p.f1⟩ := by
      rcases h2 with h2 | h2 | h2 | h2
      · omega
      · omega
      · omega
      · exact ⟨QbU h2.2.2.1, QbU h2.2.2.2, (hp'.okPair hm).2.2⟩
    rw [if_pos e1, if_pos hok]
    by_cases hin : (⟨c.f5, p.f1⟩ : Pair) ∈ s.known
    · rw [if_pos hin]
      refine (learn_runs hm hl g ?_).imp ?_
      · have ep : p = ⟨c.f4, p.f1⟩ := Qb1 e1 rfl
        have hp2 := hp'; rw [ep] at hp2; exact .both hc k hp2 (g.said _ hin)
      · intro r hr
        cases hr with
        | incl a b => omega
        | linkA a b d e => omega
        | linkB a b d => omega
        | bothA a b d => rfl
        | bothB a b d => rfl
    · rw [if_neg hin]
      exact key.imp fun r hr => other r hr (fun h => hin h.2)
  · rw [if_neg e1]
    exact key.imp fun r hr => other r hr (fun h => e1 h.1)
theorem step_runs {cs : List Cred} (hm : Mays cs) (hl : cs.length ≤ 20) {c : Cred} (hc : c ∈ cs) {p : Pair} (s : St) (hp : p ∈ s.known) (g : Good cs s) : Runs cs s (stepF p c s) (fun r => Rule c p s.known r) := by
  unfold stepF
  by_cases k1 : c.f2 = 1
  · rw [if_pos k1]
    refine .none g (fun q h => ?_)
    cases h <;> omega
  rw [if_neg k1]
  by_cases k3 : c.f2 = 3
  · rw [if_pos k3]
    unfold linkF; refine (linkA_runs hm hl hc k3 s hp g).bind (W2 := fun r => p.f0.f1 = c.f5.f1 ∧ (⟨linkFirst c, p.f0.f0⟩ : Pair) ∈ s.known ∧ r = ⟨credRole c, p.f1⟩) (fun s' g' gr => (linkB_runs hm hl hc k3 s' (gr.mem hp) g').imp (fun q h => ⟨h.1, gr.mem h.2.1, h.2.2⟩)) ?_; intro r hr
    cases hr with
    | incl a b => omega
    | linkA a b d e => exact .inl ⟨b, d, _, e, rfl⟩
    | linkB a b d => exact .inr ⟨b, d, rfl⟩
    | bothA a b d => omega
    | bothB a b d => omega
  rw [if_neg k3]
  by_cases k4 : c.f2 = 4
  · rw [if_pos k4]
    exact both_runs hm hl hc k4 s hp g
  rw [if_neg k4]
  have k2 : c.f2 = 2 := by
    obtain ⟨_, _, h2⟩ := QbE (hm c hc)
    rcases h2 with h2 | h2 | h2 | h2
    · omega
    · exact h2.1
    · omega
    · omega
  unfold includeF
  by_cases e1 : p.f0 = c.f4
  · rw [if_pos e1]
    refine (learn_runs hm hl g ?_).imp ?_
    · have ep : p = ⟨c.f4, p.f1⟩ := Qb1 e1 rfl
      have hp2 := g.said p hp; rw [ep] at hp2; exact .incl hc k2 hp2
    · intro r hr
      cases hr with
      | incl a b => rfl
      | linkA a b d e => omega
      | linkB a b d => omega
      | bothA a b d => omega
      | bothB a b d => omega
  · rw [if_neg e1]
    refine .none g (fun r hr => ?_)
    cases hr with
    | incl a b => exact e1 b
    | linkA a b d e => omega
    | linkB a b d => omega
    | bothA a b d => omega
    | bothB a b d => omega
theorem steps_runs {cs : List Cred} (hm : Mays cs) (hl : cs.length ≤ 20) {p : Pair} (K : List Pair) : ∀ (l : List Cred) (s : St), (∀ c ∈ l, c ∈ cs) → p ∈ s.known → (∀ x ∈ K, x ∈ s.known) → Good cs s → Runs cs s (stepsF p l s) (fun r => ∃ c ∈ l, Rule c p K r)
  | [], s, _, _, _, g => .none g (fun q h => by obtain ⟨c, hc, _⟩ := h; cases hc)
  | c :: l, s, hs, hp, hK, g => by
    rw [stepsF]; refine (step_runs hm hl (hs c (List.mem_cons_self ..)) s hp g).bind (fun s' g' gr => steps_runs hm hl K l s' (fun x hx => hs x (List.mem_cons_of_mem _ hx)) (gr.mem hp) (fun x hx => gr.mem (hK x hx)) g') ?_; rintro r ⟨c', hc', hr⟩
    rcases List.mem_cons.mp hc' with rfl | h
    · exact .inl (hr.mono hK)
    · exact .inr ⟨c', h, hr⟩
def Dealt (cs : List Cred) (s : St) : Prop := (∀ c ∈ cs, c.f2 = 1 → (⟨credRole c, c.f3⟩ : Pair) ∈ s.known) ∧ ∃ done, s.known = done ++ s.waits ∧ ∀ a ∈ done, ∀ c ∈ cs, ∀ r, Rule c a done r → r ∈ s.known
theorem dealt_step {cs : List Cred} (hm : Mays cs) (hl : cs.length ≤ 20) {s : St} (g : Good cs s) (d : Dealt cs s) {p : Pair} {ws : List Pair} (e : s.waits = p :: ws) :
    ∃ s', stepsF p cs ⟨s.known, ws⟩ = some s' ∧ Good cs s' ∧ Dealt cs s' ∧ s'.known.length - s'.waits.length = s.known.length - s.waits.length + 1 ∧ s'.waits.length ≤ s'.known.length := by
  obtain ⟨hM, done, hd, hC⟩ := d
  have hd2 : s.known = (done ++ [p]) ++ ws := by rw [hd, e]; simp
  have g1 : Good cs ⟨s.known, ws⟩ := ⟨g.nodup, g.said, done ++ [p], hd2⟩
  have hpk : p ∈ s.known := by rw [hd2]; simp
  have hsub : ∀ x ∈ done ++ [p], x ∈ s.known := fun x hx => by rw [hd2]; exact List.mem_append_left _ hx
  obtain ⟨s', es, g', ⟨l, hk, hw⟩, hW⟩ := steps_runs hm hl (p := p) (done ++ [p]) cs ⟨s.known, ws⟩ (fun c h => h) hpk hsub g1; have hk' : s'.known = s.known ++ l := hk; have hw' : s'.waits = ws ++ l := hw
  have up : ∀ x ∈ s.known, x ∈ s'.known := fun x hx => by rw [hk']; exact List.mem_append_left _ hx
  refine ⟨s', es, g', ⟨fun c hc k => up _ (hM c hc k), done ++ [p], by rw [hk', hw', hd2]; simp, ?_⟩, ?_, ?_⟩
  · intro a ha c hc r hr
    by_cases eap : a = p
    · subst eap
      exact hW r ⟨c, hc, hr⟩
    · have had : a ∈ done := by
        rcases List.mem_append.mp ha with h | h
        · exact h
        · exact absurd (List.mem_singleton.mp h) eap
      have sa : Said cs a := g.said a (hsub a ha)
      have split : ∀ x, x ∈ done ++ [p] → x ∈ done ∨ x = p := fun x hx => (List.mem_append.mp hx).imp id (fun h => List.mem_singleton.mp h)
      cases hr with
      | incl k b => exact up _ (hC a had c hc _ (.incl k b))
      | linkA k b n h =>
        rcases split _ h with h | h
        · exact up _ (hC a had c hc _ (.linkA k b n h))
        · have e0 : p.f0.f0 = a.f1 := by rw [← h]
          have e1 : p.f0.f1 = c.f5.f1 := by rw [← h]
          have e2 := congrArg S55.f1 h; have := Rule.linkB (c := c) (p := p) (K := done ++ [p]) k e1 (by rw [e0, show (⟨linkFirst c, a.f1⟩ : Pair) = a from Qb1 b.symm rfl]; exact ha); rw [← e2] at this; exact hW _ ⟨c, hc, this⟩
      | linkB k b h =>
        rcases split _ h with h | h
        · exact up _ (hC a had c hc _ (.linkB k b h))
        · have e0 : p.f0 = linkFirst c := by rw [← h]
          have e1 : p.f1 = a.f0.f0 := by rw [← h]
          have := Rule.linkA (c := c) (p := p) (K := done ++ [p]) (v := a.f1) k e0 (by rw [e1]; exact sa.owner hm) (by rw [e1, show (⟨⟨a.f0.f0, c.f5.f1⟩, a.f1⟩ : Pair) = a from Qb1 (role_ext rfl b.symm) rfl]; exact ha); exact hW _ ⟨c, hc, this⟩
      | bothA k b h =>
        rcases split _ h with h | h
        · exact up _ (hC a had c hc _ (.bothA k b h))
        · have e0 : p.f0 = c.f5 := by rw [← h]
          have e1 : p.f1 = a.f1 := by rw [← h]
          have := Rule.bothB (c := c) (p := p) (K := done ++ [p]) k e0 (by rw [e1, show (⟨c.f4, a.f1⟩ : Pair) = a from Qb1 b.symm rfl]; exact ha); rw [e1] at this; exact hW _ ⟨c, hc, this⟩
      | bothB k b h =>
        rcases split _ h with h | h
        · exact up _ (hC a had c hc _ (.bothB k b h))
        · have e0 : p.f0 = c.f4 := by rw [← h]
          have e1 : p.f1 = a.f1 := by rw [← h]
          have := Rule.bothA (c := c) (p := p) (K := done ++ [p]) k e0 (by rw [e1, show (⟨c.f5, a.f1⟩ : Pair) = a from Qb1 b.symm rfl]; exact ha); rw [e1] at this; exact hW _ ⟨c, hc, this⟩
  · rw [hk', hw', hd2, e]
    simp; omega
  · rw [hk', hw', hd2]
    simp; omega
theorem loop_said {cs : List Cred} (hm : Mays cs) (hl : cs.length ≤ 20) : ∀ (k : Nat) (s : St), Good cs s → Dealt cs s → s.waits.length ≤ s.known.length → 401 - (s.known.length - s.waits.length) ≤ k → 1 ≤ k → ∃ s', loopF cs k s = some s' ∧ Good cs s' ∧ Dealt cs s' ∧ s'.waits = []
  | 0, s, _, _, _, _, h => by omega
  | k + 1, s, g, d, hle, hk, _ => by
    rw [loopF]
    cases e : s.waits with
    | nil => exact ⟨s, rfl, g, d, e⟩
    | cons p ws =>
      obtain ⟨s1, e1, g1, d1, h1, h2⟩ := dealt_step hm hl g d e; have h400 := said_400 hl g1.nodup g1.said
      show ∃ s', ((stepsF p cs ⟨s.known, ws⟩).bind (loopF cs k)) = some s' ∧ _
      rw [e1, Option.bind_some]; exact loop_said hm hl k s1 g1 d1 h2 (by omega) (by omega)
theorem run_said {cs : List Cred} (hm : Mays cs) (hl : cs.length ≤ 20) : ∃ s, runF 2000 cs = some s ∧ s.known.Nodup ∧ (∀ p, p ∈ s.known ↔ Said cs p) := by
  have g0 : Good cs ⟨[], []⟩ := ⟨List.nodup_nil, fun p hp => by (cases hp), [], rfl⟩
  obtain ⟨s1, e1, g1, ⟨l, hk, hw⟩, hW⟩ := members_runs hm hl cs ⟨[], []⟩ (fun c h => h) g0; have hk' : s1.known = l := hk; have hw' : s1.waits = l := hw
  have d1 : Dealt cs s1 := ⟨fun c hc k => hW _ ⟨c, hc, k, rfl⟩, [], by rw [hk', hw']; rfl, fun a ha => by (cases ha)⟩
  obtain ⟨s2, e2, g2, ⟨hM, done, hd, hC⟩, hws⟩ := loop_said hm hl 2000 s1 g1 d1 (by rw [hk', hw']; exact Nat.le_refl _) (by omega) (by omega); refine ⟨s2, ?_, g2.nodup, fun p => ⟨g2.said p, fun h => ?_⟩⟩
  · unfold runF
    rw [e1, Option.bind_some, e2]
  · rw [hws, List.append_nil] at hd
    rw [hd] at hM hC ⊢
    induction h with
    | member hc k => exact hM _ hc k
    | incl hc k _ ih => exact hC _ ih _ hc _ (.incl (p := ⟨_, _⟩) k rfl)
    | link hc k _ n _ ih1 ih2 => exact hC _ ih1 _ hc _ (.linkA (p := ⟨_, _⟩) k rfl n ih2)
    | both hc k _ _ ih1 ih2 => exact hC _ ih1 _ hc _ (.bothA (p := ⟨_, _⟩) k rfl ih2)
def sameID (a b : Cred) : Bool := decide (a.f0.f0 = b.f0.f0) && decide (a.f0.f1 = b.f0.f1)
theorem QbF {a b : Cred} : sameID a b = true ↔ a.f0.f0 = b.f0.f0 ∧ a.f0.f1 = b.f0.f1 := by
  unfold sameID; rw [Bool.and_eq_true, decide_eq_true_eq, decide_eq_true_eq]
def credLess (a b : Cred) : Prop := a.f0.f0 < b.f0.f0 ∨ (a.f0.f0 = b.f0.f0 ∧ a.f0.f1 < b.f0.f1)
theorem credLess_irrefl (a : Cred) : ¬ credLess a a := by unfold credLess; omega
theorem credLess_trans (a b c : Cred) (h : credLess a b) (h' : credLess b c) : credLess a c := by unfold credLess at *; omega
def First (l : List Cred) (c : Cred) : Prop := l.find? (fun d => credMay d && sameID d c) = some c
structure Counts (l R : List Cred) : Prop where
  sorted : R.Pairwise credLess
  mem : ∀ c, c ∈ R ↔ First l c
theorem Counts.unique {l R R' : List Cred} (h : Counts l R) (h' : Counts l R') : R = R' :=
  sorted_eq credLess_irrefl credLess_trans h.sorted h'.sorted (fun c => (h.mem c).trans (h'.mem c).symm)
theorem First.may {l : List Cred} {c : Cred} (h : First l c) : credMay c = true := by
  have := List.find?_some h; rw [Bool.and_eq_true] at this; exact this.1
theorem First.mem {l : List Cred} {c : Cred} (h : First l c) : c ∈ l := List.mem_of_find?_eq_some h
def firsts (out : List Cred) : List Cred → List Cred
  | [] => out
  | c :: l => if credMay c && !(out.any fun d => sameID d c) then firsts (out ++ [c]) l else firsts out l
theorem firsts_mem (c : Cred) : ∀ (l out : List Cred), c ∈ firsts out l ↔ c ∈ out ∨ ((∀ d ∈ out, sameID d c = false) ∧ First l c)
  | [], out => by
    rw [firsts]; unfold First; simp
  | x :: l, out => by
    rw [firsts]; unfold First; rw [List.find?_cons]
    by_cases h : (credMay x && !(out.any fun d => sameID d x)) = true
    · rw [if_pos h, firsts_mem c l (out ++ [x])]
      rw [Bool.and_eq_true, Bool.not_eq_true', List.any_eq_false] at h
      by_cases hx : sameID x c = true
      · rw [h.1, hx]
        simp only [Bool.and_self, Option.some.injEq, List.mem_append, List.mem_singleton]; constructor
        · rintro ((h1 | h1) | ⟨h1, _⟩)
          · exact .inl h1
          · exact .inr ⟨fun d hd => by rw [h1]; simpa using h.2 d hd, h1.symm⟩
          · have := h1 x (by simp)
            rw [hx] at this; cases this
        · rintro (h1 | ⟨_, h1⟩)
          · exact .inl (.inl h1)
          · exact .inl (.inr h1.symm)
      · rw [Bool.not_eq_true] at hx
        rw [hx, Bool.and_false]; simp only [List.mem_append, List.mem_singleton]; unfold First; constructor
        · rintro ((h1 | h1) | ⟨h1, h2⟩)
          · exact .inl h1
          · subst h1
            rw [Bool.eq_false_iff] at hx; exact absurd (QbF.mpr ⟨rfl, rfl⟩) hx
          · exact .inr ⟨fun d hd => h1 d (.inl hd), h2⟩
        · rintro (h1 | ⟨h1, h2⟩)
          · exact .inl (.inl h1)
          · refine .inr ⟨fun d hd => ?_, h2⟩
            rcases hd with hd | hd
            · exact h1 d hd
            · rw [hd]; exact hx
    · rw [if_neg h, firsts_mem c l out]
      by_cases hx : sameID x c = true
      · by_cases hm : credMay x = true
        · have hany : (out.any fun d => sameID d x) = true := by
            rw [hm, Bool.true_and] at h
            simpa using h
          obtain ⟨d, hd, hdx⟩ := List.any_eq_true.mp hany
          have hdc : sameID d c = true := by
            rw [QbF] at *; omega
          have no : ∀ P : Prop, ¬ ((∀ d ∈ out, sameID d c = false) ∧ P) := fun P hP => by
            have := hP.1 d hd; rw [hdc] at this; cases this
          simp only [no]
        · rw [Bool.not_eq_true] at hm
          rw [hm, Bool.false_and]; rfl
      · rw [Bool.not_eq_true] at hx
        rw [hx, Bool.and_false]; rfl
theorem firsts_apart : ∀ (l out : List Cred), out.Pairwise (fun a b => sameID a b = false) → (firsts out l).Pairwise (fun a b => sameID a b = false)
  | [], out, h => h
  | x :: l, out, h => by
    rw [firsts]
    split
    · rename_i hc
      rw [Bool.and_eq_true, Bool.not_eq_true', List.any_eq_false] at hc; refine firsts_apart l _ ?_; rw [List.pairwise_append]; exact ⟨h, List.pairwise_singleton _ _, fun a ha b hb => by rw [List.mem_singleton.mp hb]; simpa using hc.2 a ha⟩
    · exact firsts_apart l out h
theorem firsts_sorted : ∀ (l out : List Cred), out.Pairwise credLess → (∀ d ∈ out, ∀ c ∈ l, ¬ credLess c d) → l.Pairwise (fun x y => ¬ credLess y x) → (firsts out l).Pairwise credLess
  | [], out, h, _, _ => h
  | x :: l, out, h, hol, hl => by
    rw [firsts]; rw [List.pairwise_cons] at hl
    split
    · rename_i hc
      rw [Bool.and_eq_true, Bool.not_eq_true', List.any_eq_false] at hc; refine firsts_sorted l _ ?_ ?_ hl.2
      · rw [List.pairwise_append]
        refine ⟨h, List.pairwise_singleton _ _, fun a ha b hb => ?_⟩; rw [List.mem_singleton.mp hb]; have h1 := hol a ha x (List.mem_cons_self ..); have h2 := hc.2 a ha; rw [QbF] at h2; unfold credLess at *; omega
      · intro d hd c hcl
        rcases List.mem_append.mp hd with h1 | h1
        · exact hol d h1 c (List.mem_cons_of_mem _ hcl)
        · rw [List.mem_singleton.mp h1]
          exact hl.1 c hcl
    · exact firsts_sorted l out h (fun d hd c hcl => hol d hd c (List.mem_cons_of_mem _ hcl)) hl.2
theorem sortCreds_filter (q : Cred → Bool) (hq : ∀ x y, q x = true → q y = true → sameID x y = true) (l : List Cred) : (sortCreds l).filter q = l.filter q := by
  refine insertion_filter _ q (fun x y h hx hy => ?_) l; have := hq x y hx hy; rw [credCmp_lt] at h; rw [QbF] at this; omega
theorem sortCreds_sorted (l : List Cred) : (sortCreds l).Pairwise (fun x y => ¬ credLess y x) := by
  refine (insertion_sorted _ credSWO l).imp fun {a b} h => ?_
  rw [Bool.eq_false_iff, Ne, credCmp_lt] at h; exact h
theorem find_filter {α : Type} (p : α → Bool) (l : List α) : l.find? p = (l.filter p).head? := by
  rw [List.head?_filter]
theorem sortCreds_first (l : List Cred) (c : Cred) : First (sortCreds l) c ↔ First l c := by
  unfold First; rw [find_filter, find_filter]
  have e : ∀ m : List Cred, m.filter (fun d => credMay d && sameID d c) = (m.filter (fun d => sameID d c)).filter credMay := fun m => by rw [List.filter_filter]
  rw [e, e, sortCreds_filter _ (fun x y hx hy => by rw [QbF] at *; omega)]
theorem prog_counts (l : List Cred) : Counts l (firsts [] (sortCreds l)) where
  sorted := firsts_sorted _ _ List.Pairwise.nil (fun d hd => by cases hd) (sortCreds_sorted l)
  mem c := by
    rw [firsts_mem, sortCreds_first]; simp
theorem firsts_length : ∀ (l out : List Cred), (firsts out l).length ≤ out.length + l.length
  | [], out => by rw [firsts]; simp
  | x :: l, out => by
    rw [firsts]
    split
    · have := firsts_length l (out ++ [x])
      simp at *; omega
    · have := firsts_length l out
      simp; omega
theorem numName_nonneg (s : ByteArray) : 0 ≤ numName s := by
  rcases Qcn s with ⟨m, _, _, _, _⟩ | ⟨_, _⟩ <;> omega
theorem refRole_is (r : Role) (k : Nat) (hk : 10 ≤ k) : Qa9.f k r.f0 r.f1 = some (roleOk r) := by
  obtain ⟨j, rfl⟩ : ∃ j, k = j + 2 := ⟨k - 2, by omega⟩
  unfold Qa9.f roleOk; rw [refMay_is _ _ hk, Option.bind_some]; have := numName_nonneg r.f0; cases mayName r.f1
  · simp
  · rw [if_pos rfl, refNumber_is, Option.bind_some]
    by_cases e : numName r.f0 = 0
    · rw [e]; rfl
    · rw [decide_eq_true (show numName r.f0 > 0 by omega), bne_iff_ne.mpr e]
      rfl
theorem refBare_is (r : Role) (k : Nat) (hk : 10 ≤ k) : Qbf.f k r.f0 r.f1 = some (bareOk r) := by
  unfold Qbf.f bareOk noText; rw [refMay_is _ _ hk, Option.bind_some]; cases mayName r.f1
  · simp
  · simp
theorem refCredMay_is (c : Cred) (k : Nat) (hk : 12 ≤ k) : Qay.f k c.f0.f0 c.f0.f1 c.f1 c.f2 c.f3 c.f4.f0 c.f4.f1 c.f5.f0 c.f5.f1 = some (credMay c) := by
  obtain ⟨k, rfl⟩ : ∃ j, k = j + 1 := ⟨k - 1, by omega⟩
  unfold Qay.f credMay; rw [refMay_is _ _ (by omega), refMay_is _ _ (by omega), refRole_is c.f4 _ (by omega), refRole_is c.f5 _ (by omega)]; simp only [Option.bind_some]
  have jt : ∀ a b d, Qay.j0 (k + 1) a b d true c.f0.f0 c.f0.f1 c.f1 c.f2 c.f3 c.f4.f0 c.f4.f1 c.f5.f0 c.f5.f1 = some false := fun a b d => by rw [Qay.j0, if_pos rfl]
  by_cases d1 : c.f0.f0 < 1
  · rw [if_pos d1, jt, decide_eq_false (p := 1 ≤ c.f0.f0 ∧ c.f0.f0 ≤ 16) (by omega)]; rfl
  rw [if_neg d1]
  by_cases d2 : c.f0.f0 > 16
  · rw [if_pos d2, jt, decide_eq_false (p := 1 ≤ c.f0.f0 ∧ c.f0.f0 ≤ 16) (by omega)]; rfl
  rw [if_neg d2, decide_eq_true (p := 1 ≤ c.f0.f0 ∧ c.f0.f0 ≤ 16) (by omega)]
  by_cases s1 : c.f0.f1 < 1
  · rw [if_pos s1, jt, decide_eq_false (p := 1 ≤ c.f0.f1 ∧ c.f0.f1 ≤ 4000) (by omega)]; rfl
  rw [if_neg s1]
  by_cases s2 : c.f0.f1 > 4000
  · rw [if_pos s2, jt, decide_eq_false (p := 1 ≤ c.f0.f1 ∧ c.f0.f1 ≤ 4000) (by omega)]; rfl
  rw [if_neg s2, decide_eq_true (p := 1 ≤ c.f0.f1 ∧ c.f0.f1 ≤ 4000) (by omega)]; cases mayName c.f1
  · exact jt _ _ _
  show Qay.j0 (k + 1) _ _ _ false _ _ _ _ _ _ _ _ _ = _
  rw [Qay.j0, if_neg (by decide)]
  by_cases k1 : c.f2 = 1
  · rw [if_pos k1, if_pos k1]
    show (if mayName c.f3 = true then if noRole c.f4 = true then some (noRole c.f5) else some false else some false) = _
    cases mayName c.f3 <;> cases noRole c.f4 <;> simp
  rw [if_neg k1, if_neg k1]
  by_cases w : c.f3.toList = []
  · have wt : noText c.f3 = true := by unfold noText; rw [w]; rfl
    rw [if_pos w, wt]
    by_cases k2 : c.f2 = 2
    · rw [if_pos k2, if_pos k2]
      show (if roleOk c.f4 = true then some (noRole c.f5) else some false) = _
      cases roleOk c.f4 <;> simp
    rw [if_neg k2, if_neg k2]
    by_cases k3 : c.f2 = 3
    · rw [if_pos k3, if_pos k3, refBare_is c.f4 k (by omega), refBare_is c.f5 k (by omega), Option.bind_some, Option.bind_some]
      cases bareOk c.f4 <;> cases bareOk c.f5 <;> simp
    rw [if_neg k3, if_neg k3]
    by_cases k4 : c.f2 = 4
    · rw [if_pos k4, if_pos k4]
      cases roleOk c.f4 <;> cases roleOk c.f5 <;> simp
    · rw [if_neg k4, if_neg k4]; rfl
  · have wt : noText c.f3 = false := by unfold noText; exact beq_eq_false_iff_ne.mpr w
    rw [if_neg w, wt]; simp only [Bool.and_false]
    by_cases k2 : c.f2 = 2
    · rw [if_pos k2]; rfl
    rw [if_neg k2]
    by_cases k3 : c.f2 = 3
    · rw [if_pos k3]; rfl
    rw [if_neg k3]
    by_cases k4 : c.f2 = 4
    · rw [if_pos k4]; rfl
    · rw [if_neg k4]; rfl
theorem QbS {i : Nat} (h : i < 1000000000000) : wrap64 ((i : Int) + 1) = ((i + 1 : Nat) : Int) := by unfold wrap64; omega
theorem rdCred (l : List Cred) (i : Nat) : Qah l (i : Int) = l[i]! := by
  unfold Qah; rw [Int.toNat_natCast, List.getElem!_eq_getElem?_getD, List.getD_eq_getElem?_getD]; rfl
theorem getBang {α : Type} [Inhabited α] {l : List α} {i : Nat} (h : i < l.length) : l[i]! = l[i] := getElem!_pos l i h
theorem drop_bang {α : Type} [Inhabited α] {l : List α} {i : Nat} (h : i < l.length) : l.drop i = l[i]! :: l.drop (i + 1) := by
  rw [getBang h]; exact List.drop_eq_getElem_cons h
theorem last_same {ini : List Cred} {z c : Cred} (hs : (ini ++ [z]).Pairwise credLess) (hc : ∀ d ∈ ini ++ [z], ¬ credLess c d) : ((ini ++ [z]).any fun d => sameID d c) = sameID z c := by
  rw [List.any_append]
  have h0 : (ini.any fun d => sameID d c) = false := by
    rw [List.any_eq_false]; intro d hd h; rw [List.pairwise_append] at hs; have h1 := hs.2.2 d hd z (by simp); have h2 := hc z (by simp); rw [QbF] at h; unfold credLess at *; omega
  rw [h0]; simp
theorem progCounts_loop : ∀ (S out : List Cred), (∀ c ∈ S, okCred c) → S.Pairwise (fun x y => ¬ credLess y x) → out.Pairwise credLess → (∀ d ∈ out, ∀ c ∈ S, ¬ credLess c d) → countsF S out = some (firsts out S)
  | [], out, _, _, _, _ => by rw [countsF, firsts]
  | c :: S, out, hok, hpw, hs, hd => by
    have hmay := credMay_is c (hok c (List.mem_cons_self ..)); rw [List.pairwise_cons] at hpw
    have rest := fun (out' : List Cred) h2 h3 => progCounts_loop S out' (fun x hx => hok x (List.mem_cons_of_mem _ hx)) hpw.2 h2 h3
    have grown : ∀ (h : out.any (fun d => sameID d c) = false), countsF S (out ++ [c]) = some (firsts (out ++ [c]) S) := fun h => by
      rw [List.any_eq_false] at h; refine rest _ ?_ ?_
      · rw [List.pairwise_append]
        refine ⟨hs, List.pairwise_singleton _ _, fun a ha b hb => ?_⟩; rw [List.mem_singleton.mp hb]; have h1 := hd a ha c (List.mem_cons_self ..); have h2 := h a ha; rw [QbF] at h2; unfold credLess at *; omega
      · intro d hdm x hx
        rcases List.mem_append.mp hdm with h1 | h1
        · exact hd d h1 x (List.mem_cons_of_mem _ hx)
        · rw [List.mem_singleton.mp h1]
          exact hpw.1 x hx
    have same : countsF S out = some (firsts out S) := rest out hs (fun d hdm x hx => hd d hdm x (List.mem_cons_of_mem _ hx)); rw [countsF, show mayOf c = some (credMay c) from hmay, Option.bind_some, firsts]
    by_cases m : credMay c = true
    · rw [if_pos m, m, Bool.true_and]
      rcases List.eq_nil_or_concat out with e | ⟨ini, z, e⟩
      · subst e
        rw [if_neg (by simp), if_pos (show (!(([] : List Cred).any fun d => sameID d c)) = true from rfl)]; exact grown rfl
      · rw [List.concat_eq_append] at e
        have hany : (out.any fun d => sameID d c) = sameID z c := by
          rw [e] at hs hd ⊢; exact last_same hs (fun d hdm => hd d hdm c (List.mem_cons_self ..))
        have hl : out.getLast?.map (·.f0) = some z.f0 := by rw [e, List.getLast?_concat]; rfl
        rw [hl, hany]; cases hb : sameID z c
        · rw [if_neg (fun h => by have := Option.some.inj h; rw [Bool.eq_false_iff, Ne, QbF, this] at hb; exact hb ⟨rfl, rfl⟩), if_pos (show (!false) = true from rfl)]
          exact grown (hany.trans hb)
        · rw [if_pos (by obtain ⟨e0, e1⟩ := QbF.mp hb; rw [id_ext e0 e1]), if_neg (show ¬ (!true) = true by decide)]
          exact same
    · rw [if_neg m]
      rw [Bool.not_eq_true] at m; rw [m, Bool.false_and]; exact same
theorem cred_ext {a b : Cred} (h0 : a.f0.f0 = b.f0.f0) (h0' : a.f0.f1 = b.f0.f1) (h1 : a.f1 = b.f1) (h2 : a.f2 = b.f2) (h3 : a.f3 = b.f3) (h4 : a.f4 = b.f4) (h5 : a.f5 = b.f5) : a = b := by
  obtain ⟨⟨_, _⟩, _, _, _, _, _⟩ := a; obtain ⟨⟨_, _⟩, _, _, _, _, _⟩ := b
  simp_all
instance credDec : DecidableEq Cred := fun a b => decidable_of_iff (a.f0.f0 = b.f0.f0 ∧ a.f0.f1 = b.f0.f1 ∧ a.f1 = b.f1 ∧ a.f2 = b.f2 ∧ a.f3 = b.f3 ∧ a.f4 = b.f4 ∧ a.f5 = b.f5)
  ⟨fun h => cred_ext h.1 h.2.1 h.2.2.1 h.2.2.2.1 h.2.2.2.2.1 h.2.2.2.2.2.1 h.2.2.2.2.2.2, fun h => by rw [h]; exact ⟨rfl, rfl, rfl, rfl, rfl, rfl, rfl⟩⟩
def counts (l : List Cred) : List Cred := firsts [] (sortCreds l)
theorem counts_spec (l : List Cred) : Counts l (counts l) := prog_counts l
theorem sortCreds_mem {l : List Cred} {c : Cred} : c ∈ sortCreds l ↔ c ∈ l := by
  have := sortCreds_filter (fun d => decide (d = c)) (fun x y hx hy => by
    rw [decide_eq_true_eq] at hx hy; rw [hx, hy]
    exact QbF.mpr ⟨rfl, rfl⟩) l
  constructor
  · intro h
    have h1 : c ∈ (sortCreds l).filter (fun d => decide (d = c)) := List.mem_filter.mpr ⟨h, by simp⟩; rw [this] at h1; exact (List.mem_filter.mp h1).1
  · intro h
    have h1 : c ∈ l.filter (fun d => decide (d = c)) := List.mem_filter.mpr ⟨h, by simp⟩; rw [← this] at h1; exact (List.mem_filter.mp h1).1
theorem progCounts_is (l : List Cred) (hl : l.length < 21) (hok : ∀ c ∈ l, okCred c) : Qb3.f l = some (counts l) := by
  unfold Qb3.f Qcg.f; have hlen := QbM l; rw [if_pos hl, Option.bind_some, if_pos (by omega)]; exact progCounts_loop (sortCreds l) [] (fun c hc => hok c (sortCreds_mem.mp hc)) (sortCreds_sorted l) List.Pairwise.nil (fun d hd => by cases hd)
def credLessB (a b : Cred) : Bool := if a.f0.f0 = b.f0.f0 then decide (a.f0.f1 < b.f0.f1) else decide (a.f0.f0 < b.f0.f0)
theorem Qb4 (a b : Cred) : credLessB a b = true ↔ credLess a b := by
  unfold credLessB credLess
  split <;> rw [decide_eq_true_eq] <;> omega
theorem before_is (a b : Cred) : Qbv.f a.f0.f0 a.f0.f1 b.f0.f0 b.f0.f1 = some (credLessB a b) := by
  unfold Qbv.f credLessB
  split <;> rfl
theorem refSorted_l1 (x : List Cred) (hx : x.length < 1000000) (out : List Cred) (ho : out.length < 1000000) (R : List Cred) : ∀ (n m i : Nat), n + i = x.length → m < x.length →
    Ev (fun k => Qap.l0 k (x.take (selLeast credLessB x n m i) ++ x.drop (selLeast credLessB x n m i + 1)) (out ++ [x[selLeast credLessB x n m i]!])) R → Ev (fun k => Qap.l1 k x out (m : Int) (i : Int)) R
  | 0, m, i, hn, hm, h => by
    rw [selLeast] at h; refine Ev.step (fun k => ?_) h; rw [Qap.l1, if_neg (by omega), if_pos (by omega), if_pos (by omega), if_pos (by omega), if_pos (by omega), Option.bind_some, if_pos (by simp; omega), Option.bind_some, QbS (by omega), if_pos (by omega), if_pos (by omega), Option.bind_some, if_pos (by simp; omega), rdCred]; rfl
  | n + 1, m, i, hn, hm, h => by
    rw [selLeast] at h
    have e : ∀ k, Qap.l1 (k + 1) x out (m : Int) (i : Int) = Qap.l1 k x out ((if credLessB x[i]! x[m]! then i else m : Nat) : Int) ((i + 1 : Nat) : Int) := fun k => by
      rw [Qap.l1, if_pos (by omega), if_pos (by omega), if_pos (by omega), if_pos (by omega), rdCred, rdCred, before_is, Option.bind_some, QbS (by omega)]
      cases credLessB x[i]! x[m]! <;> rfl
    exact Ev.step e (refSorted_l1 x hx out ho R n _ (i + 1) (by omega) (by split <;> omega) h)
theorem selLeast_lt {α : Type} [Inhabited α] (less : α → α → Bool) (l : List α) : ∀ (n m i : Nat), n + i = l.length → m < l.length → selLeast less l n m i < l.length
  | 0, m, i, hn, hm => hm
  | n + 1, m, i, hn, hm => by
    rw [selLeast]; exact selLeast_lt less l n _ _ (by omega) (by split <;> omega)
theorem refSorted_l0 : ∀ (n : Nat) (x out : List Cred), x.length ≤ n → x.length + out.length < 1000000 → Ev (fun k => Qap.l0 k x out) (selSort credLessB n x out)
  | 0, x, out, hn, hl => by
    rw [selSort]; refine Ev.step (fun k => ?_) (Ev.pure _); rw [Qap.l0, if_neg (by omega)]
  | n + 1, x, out, hn, hl => by
    rw [selSort]
    by_cases c : x.length > 0
    · rw [if_pos c]
      have hm := selLeast_lt credLessB x (x.length - 1) 0 1 (by omega) c; refine Ev.step (fun k => ?_) (refSorted_l1 x (by omega) out (by omega) _ (x.length - 1) 0 1 (by omega) c (refSorted_l0 n _ _ ?_ ?_))
      · rw [Qap.l0, if_pos (by omega)]
        rfl
      · simp
        omega
      · simp
        omega
    · rw [if_neg c]
      refine Ev.step (fun k => ?_) (Ev.pure _); rw [Qap.l0, if_neg (by omega)]
theorem refCounts_l1 (x : List Cred) (hx : x.length < 1000000) (out : List Cred) (ho : out.length < 1000000) (i : Nat) (hi : i < x.length) (b : Bool) (R : List Cred) : ∀ (n j : Nat) (h : Bool), n + j = out.length →
    Ev (fun k => Qar.l0 k x (if b && !(h || (out.drop j).any fun d => sameID d x[i]!) then out ++ [x[i]!] else out) ((i + 1 : Nat) : Int)) R → Ev (fun k => Qar.l1 k x out (i : Int) b h (j : Int)) R
  | 0, j, h, hn, hR => by
    rw [show out.drop j = [] from List.drop_eq_nil_of_le (by omega)] at hR; refine Ev.step (fun k => ?_) hR; rw [Qar.l1, if_neg (by omega), QbS (by omega)]; cases b
    · rfl
    · cases h
      · rw [if_pos rfl, if_neg (by decide), if_pos (by omega), if_pos (by omega), if_pos (by omega), rdCred]
        rfl
      · rfl
  | n + 1, j, h, hn, hR => by
    rw [drop_bang (by omega : j < out.length), List.any_cons] at hR
    have e : ∀ k, Qar.l1 (k + 1) x out (i : Int) b h (j : Int) = Qar.l1 k x out (i : Int) b (h || sameID out[j]! x[i]!) ((j + 1 : Nat) : Int) := fun k => by
      rw [Qar.l1, if_pos (by omega), QbS (by omega)]; cases h
      · rw [if_neg (by decide), if_pos (by omega), if_pos (by omega), if_pos (by omega), rdCred, rdCred]
        rfl
      · rfl
    refine Ev.step e (refCounts_l1 x hx out ho i hi b R n (j + 1) _ (by omega) ?_); rw [Bool.or_assoc]; exact hR
theorem refCounts_l0 (x : List Cred) (hx : x.length < 100000) : ∀ (n i : Nat) (out : List Cred), n + i = x.length → out.length ≤ i → Ev (fun k => Qar.l0 k x out (i : Int)) (selSort credLessB x.length (firsts out (x.drop i)) [])
  | 0, i, out, hn, ho => by
    rw [show x.drop i = [] from List.drop_eq_nil_of_le (by omega), firsts]; refine Ev.step (g := fun k => (Qap.f k out).bind fun t => some t) (fun k => ?_) (Ev.bind (a := selSort credLessB x.length out []) ?_ (Ev.pure _))
    · rw [Qar.l0, if_neg (by omega)]
    · exact refSorted_l0 _ out [] (by omega) (by simp; omega)
  | n + 1, i, out, hn, ho => by
    have hi : i < x.length := by omega
    rw [drop_bang hi, firsts]; refine Ev.step (g := fun k => (Qay.f k x[i]!.f0.f0 x[i]!.f0.f1 x[i]!.f1 x[i]!.f2 x[i]!.f3 x[i]!.f4.f0 x[i]!.f4.f1 x[i]!.f5.f0 x[i]!.f5.f1).bind fun t => Qar.l1 k x out (i : Int) t false 0) (fun k => ?_) (Ev.bind (.from 12 fun k hk => refCredMay_is _ k hk) (refCounts_l1 x (by omega) out (by omega) i hi _ _ out.length 0 false (by omega) ?_))
    · rw [Qar.l0, if_pos (by omega), if_pos (by omega), rdCred]
    · rw [List.drop_zero, Bool.false_or]
      split
      · exact refCounts_l0 x hx n (i + 1) _ (by omega) (by simp; omega)
      · exact refCounts_l0 x hx n (i + 1) _ (by omega) (by omega)
theorem refCounts_is (l : List Cred) (hl : l.length < 100000) : Ev (fun k => Qar.f k l) (counts l) := by
  have h := refCounts_l0 l hl l.length 0 [] (by omega) (by simp); rw [List.drop_zero] at h; have hlen := firsts_length l []; have hp := firsts_apart l [] List.Pairwise.nil
  obtain ⟨h1, h2⟩ := selSort_spec credLessB (fun x => by rw [Bool.eq_false_iff, Ne, Qb4]; exact credLess_irrefl x) (fun x y z => by rw [Qb4, Qb4, Qb4]; exact credLess_trans x y z) l.length (firsts [] l) [] (by simpa using hlen) (by
    rw [List.nil_append]
    refine hp.imp fun {a b} hab => ?_
    rw [Qb4, Qb4]; rw [Bool.eq_false_iff, Ne, QbF] at hab; unfold credLess
    omega) List.Pairwise.nil (fun a ha => by cases ha)
  have e : selSort credLessB l.length (firsts [] l) [] = counts l := by
    refine Counts.unique (l := l) ⟨h1.imp fun {a b} hab => (Qb4 a b).mp hab, fun c => ?_⟩ (counts_spec l); rw [h2, firsts_mem]; simp
  rw [← e]; exact h
theorem counts_may {l : List Cred} {c : Cred} (h : c ∈ counts l) : credMay c = true := ((counts_spec l).mem c |>.mp h).may
theorem Qb5 (l : List Cred) : (counts l).length ≤ l.length := by
  unfold counts; have := firsts_length (sortCreds l) []; have h2 := QbM l; simp at this; omega
structure AllOf (cs : List Cred) (A : List Pair) : Prop where
  sorted : A.Pairwise (fun a b => pairLess a b = true)
  mem : ∀ p, p ∈ A ↔ Said cs p
theorem AllOf.nodup {cs : List Cred} {A : List Pair} (h : AllOf cs A) : A.Nodup := sorted_nodup (R := fun a b => pairLess a b = true) QbV h.sorted
theorem AllOf.length {cs : List Cred} {A : List Pair} (h : AllOf cs A) (hl : cs.length ≤ 20) : A.length ≤ 400 := said_400 hl h.nodup (fun p hp => (h.mem p).mp hp)
theorem sortPairs_sorted {l : List Pair} (hn : l.Nodup) : (sortPairs l).Pairwise (fun a b => pairLess a b = true) := by
  have h1 : (sortPairs l).Pairwise (fun a b => (!(ltOf pairCmp) b a) = true) := by
    unfold sortPairs; refine List.pairwise_mergeSort (le := fun x y => !(ltOf pairCmp) y x) ?_ ?_ l
    · intro a b c h1 h2
      simp only [Bool.not_eq_true'] at *; exact pairSWO.ntrans _ _ _ h2 h1
    · intro a b
      rw [Qb8, Qb8]
      by_cases h1 : pairLess b a = true
      · have : ¬ pairLess a b = true := fun h2 => QbV _ (Qce h1 h2)
        simp_all
      · simp_all
  have h2 : (sortPairs l).Nodup := (List.mergeSort_perm l _).nodup_iff.mpr hn
  refine (h1.and h2).imp fun {a b} hh => ?_
  obtain ⟨h, h'⟩ := hh; simp only [Qb8, Bool.not_eq_true'] at h
  by_cases h3 : pairLess a b = true
  · exact h3
  · exact absurd (Qcf h3 (by rw [h]; decide)) h'
theorem run_all {cs : List Cred} (hm : Mays cs) (hl : cs.length ≤ 20) : ∃ s A, runF 2000 cs = some s ∧ s.known.length ≤ 1000000 ∧ sortPairs s.known = A ∧ AllOf cs A := by
  obtain ⟨s, h1, h2, h3⟩ := run_said hm hl; have := said_400 hl h2 (fun p hp => (h3 p).mp hp); exact ⟨s, _, h1, by omega, rfl, sortPairs_sorted h2, fun p => sortPairs_mem.trans (h3 p)⟩
theorem Qch (l : List Cred) : Mays (counts l) := fun c hc => (((counts_spec l).mem c).mp hc).may
theorem all_is (l : List Cred) (hl : l.length < 21) (hok : ∀ c ∈ l, okCred c) : ∃ A, solve_All.f l = some A ∧ AllOf (counts l) A := by
  have hlen := Qb5 l; obtain ⟨s, A, h1, h2, h3, h4⟩ := run_all (Qch l) (by omega); refine ⟨A, ?_, h4⟩; unfold solve_All.f; rw [progCounts_is l hl hok, Option.bind_some, if_pos (by omega), h1, Option.bind_some, if_pos h2, h3]
inductive Way (c : Cred) (p : Pair) : List Pair → Prop
  | member : credRole c = p.f0 → c.f2 = 1 → c.f3 = p.f1 → Way c p []
  | incl : credRole c = p.f0 → c.f2 = 2 → Way c p [⟨c.f4, p.f1⟩]
  | link (d : Int) : credRole c = p.f0 → c.f2 = 3 → 1 ≤ d → d ≤ 16 → Way c p [⟨linkFirst c, domName d⟩, ⟨⟨domName d, c.f5.f1⟩, p.f1⟩]
  | both : credRole c = p.f0 → c.f2 = 4 → Way c p [⟨c.f4, p.f1⟩, ⟨c.f5, p.f1⟩]
theorem Way.role {c : Cred} {p : Pair} {L : List Pair} (h : Way c p L) : credRole c = p.f0 := by cases h <;> assumption
theorem Way.length {c : Cred} {p : Pair} {L : List Pair} (h : Way c p L) : L.length ≤ 2 := by cases h <;> simp
def KK (cs : List Cred) : Nat → Pair → Prop
  | 0, _ => False
  | n + 1, p => ∃ c ∈ cs, ∃ L, Way c p L ∧ ∀ q ∈ L, KK cs n q
theorem KK.succ {cs : List Cred} : ∀ {n : Nat} {p : Pair}, KK cs n p → KK cs (n + 1) p
  | 0, _, h => h.elim
  | n + 1, p, ⟨c, hc, L, hw, hL⟩ => ⟨c, hc, L, hw, fun q hq => KK.succ (hL q hq)⟩
theorem KK.le {cs : List Cred} {n m : Nat} {p : Pair} (h : KK cs n p) (hm : n ≤ m) : KK cs m p := by
  induction hm with
  | refl => exact h
  | step _ ih => exact ih.succ
theorem Way.said {cs : List Cred} {c : Cred} (hc : c ∈ cs) {p : Pair} {L : List Pair} (h : Way c p L) (hL : ∀ q ∈ L, Said cs q) : Said cs p := by
  have e : ∀ {r : Role}, r = p.f0 → Said cs ⟨r, p.f1⟩ → Said cs p := fun {r} e h => by subst e; exact h
  cases h with
  | member hr k hw => exact e hr (hw ▸ Said.member hc k)
  | incl hr k => exact e hr (Said.incl hc k (hL _ (List.mem_cons_self ..)))
  | link d hr k h1 h2 => exact e hr (Said.link hc k (hL _ (List.mem_cons_self ..)) (numName_dom h1 h2) (hL _ (List.mem_cons_of_mem _ (List.mem_cons_self ..))))
  | both hr k => exact e hr (Said.both hc k (hL _ (List.mem_cons_self ..)) (hL _ (List.mem_cons_of_mem _ (List.mem_cons_self ..))))
theorem KK.said {cs : List Cred} : ∀ {n : Nat} {p : Pair}, KK cs n p → Said cs p
  | 0, _, h => h.elim
  | n + 1, p, ⟨c, hc, L, hw, hL⟩ => hw.said hc fun q hq => KK.said (hL q hq)
theorem KK.fix {cs : List Cred} {n : Nat} (h : ∀ p, KK cs (n + 1) p → KK cs n p) {p : Pair} (hp : Said cs p) : KK cs n p := by
  induction hp with
  | @member c hc k => exact h _ ⟨c, hc, _, .member rfl k rfl, fun q hq => by cases hq⟩
  | @incl c u hc k _ ih => exact h _ ⟨c, hc, _, .incl rfl k, fun q hq => by rw [List.mem_singleton] at hq; rw [hq]; exact ih⟩
  | @link c u v hc k _ hn _ ih1 ih2 =>
    rcases Qcn u with ⟨d, h1, h2, h3, _⟩ | ⟨_, h2⟩
    · subst h3
      refine h _ ⟨c, hc, _, .link d rfl k h1 h2, fun q hq => ?_⟩
      rcases List.mem_cons.mp hq with rfl | hq
      · exact ih1
      · rw [List.mem_singleton] at hq
        rw [hq]; exact ih2
    · omega
  | @both c u hc k _ _ ih1 ih2 =>
    refine h _ ⟨c, hc, _, .both rfl k, fun q hq => ?_⟩
    rcases List.mem_cons.mp hq with rfl | hq
    · exact ih1
    · rw [List.mem_singleton] at hq
      rw [hq]; exact ih2
def inB (T : List (Pair × Int)) (n : Int) (p : Pair) : Prop := 0 < rnd T p ∧ rnd T p < n
theorem below_is {T : List (Pair × Int)} {p : Pair} {n : Int} (hp : okPair p) : ∃ b, belowF T p n = some b ∧ (b = true ↔ inB T n p) := by
  refine ⟨_, if_pos hp, ?_⟩; rw [Bool.and_eq_true, decide_eq_true_eq, decide_eq_true_eq]; exact Iff.rfl
theorem ok_small {r : Role} {w : ByteArray} (hr : smallR r) (hw : w.size ≤ maxLen) : okPair ⟨r, w⟩ := ⟨QbU hr.1, QbU hr.2, hw⟩
def TryOk (T : List (Pair × Int)) (c : Cred) (p : Pair) (n : Int) : Prop := ∃ r, finTry T c p n = some r ∧ (r.2 = true → Way c p r.1 ∧ ∀ q ∈ r.1, inB T n q) ∧ (∀ L, Way c p L → (∀ q ∈ L, inB T n q) → r.2 = true)
theorem link_is {T : List (Pair × Int)} {c : Cred} {p : Pair} {n : Int} (hr : credRole c = p.f0) (k : c.f2 = 3) (h1 : small c.f4.f1) (h2 : small c.f5.f1) (hw : p.f1.size ≤ maxLen) : ∀ (m : Nat) (d : Int), 1 ≤ d → d + m = 17 →
    ∃ r, finLinkL T (linkFirst c) c p n m d = some r ∧ (r.2 = true → Way c p r.1 ∧ ∀ q ∈ r.1, inB T n q) ∧ (∀ e : Int, d ≤ e → e ≤ 16 → inB T n ⟨linkFirst c, domName e⟩ → inB T n ⟨⟨domName e, c.f5.f1⟩, p.f1⟩ → r.2 = true)
  | 0, d, hd, hm => ⟨_, rfl, (fun h => by cases h), fun e h1 h2 => by omega⟩
  | m + 1, d, hd, hm => by
    obtain ⟨x, hx, hxi⟩ := below_is (T := T) (n := n) (ok_small (r := linkFirst c) (w := domName d) ⟨QbC _, h1⟩ (QbU (QbC d))); obtain ⟨y, hy, hyi⟩ := below_is (T := T) (n := n) (ok_small (r := ⟨domName d, c.f5.f1⟩) (w := p.f1) ⟨QbC _, h2⟩ hw); obtain ⟨r, h3, h4, h5⟩ := link_is (T := T) (n := n) hr k h1 h2 hw m (d + 1) (by omega) (by omega); rw [finLinkL, hx, Option.bind_some]
    by_cases ex : x = true
    · rw [if_pos ex, hy, Option.bind_some]
      by_cases ey : y = true
      · rw [if_pos ey]
        refine ⟨_, rfl, fun _ => ⟨.link d hr k hd (by omega), fun q hq => ?_⟩, fun _ _ _ _ _ => rfl⟩
        rcases List.mem_cons.mp hq with rfl | hq
        · exact hxi.mp ex
        · rw [List.mem_singleton] at hq
          rw [hq]; exact hyi.mp ey
      · rw [if_neg ey]
        refine ⟨r, h3, h4, fun e he1 he2 ha hb => ?_⟩
        by_cases ed : e = d
        · subst ed
          exact absurd (hyi.mpr hb) ey
        · exact h5 e (by omega) he2 ha hb
    · rw [if_neg ex, Option.bind_some, if_neg (by decide)]
      refine ⟨r, h3, h4, fun e he1 he2 ha hb => ?_⟩
      by_cases ed : e = d
      · subst ed
        exact absurd (hxi.mpr ha) ex
      · exact h5 e (by omega) he2 ha hb
theorem try_is {T : List (Pair × Int)} {c : Cred} (hm : credMay c = true) {p : Pair} {n : Int} (hr : credRole c = p.f0) (hw : p.f1.size ≤ maxLen) : TryOk T c p n := by
  obtain ⟨_, _, hk⟩ := QbE hm; unfold TryOk finTry
  rcases hk with ⟨k, _⟩ | ⟨k, h⟩ | ⟨k, h1, h2⟩ | ⟨k, h1, h2⟩
  · rw [if_neg (by omega), if_neg (by omega), if_neg (by omega)]
    refine ⟨_, rfl, fun h => ⟨.member hr k (of_decide_eq_true h), fun q hq => by cases hq⟩, fun L hL _ => ?_⟩
    cases hL with
    | member _ _ e => exact decide_eq_true e
    | incl _ k' => omega
    | link _ _ k' => omega
    | both _ k' => omega
  · rw [if_pos k]
    obtain ⟨x, hx, hxi⟩ := below_is (T := T) (n := n) (ok_small (r := c.f4) h hw); refine ⟨_, by unfold finInclude; rw [hx]; rfl, fun e => ⟨.incl hr k, fun q hq => ?_⟩, fun L hL hi => ?_⟩
    · rw [List.mem_singleton] at hq
      rw [hq]; exact hxi.mp e
    · cases hL with
      | member _ k' e => omega
      | incl _ k' => exact hxi.mpr (hi _ (List.mem_cons_self ..))
      | link _ _ k' => omega
      | both _ k' => omega
  · rw [if_neg (by omega), if_pos k]
    obtain ⟨r, h3, h4, h5⟩ := link_is (T := T) (n := n) hr k h1 h2 hw 16 1 (by omega) (by omega); refine ⟨r, h3, h4, fun L hL hi => ?_⟩
    cases hL with
    | member _ k' e => omega
    | incl _ k' => omega
    | link d _ k' hd1 hd2 => exact h5 d hd1 hd2 (hi _ (List.mem_cons_self ..)) (hi _ (List.mem_cons_of_mem _ (List.mem_cons_self ..)))
    | both _ k' => omega
  · rw [if_neg (by omega), if_neg (by omega), if_pos k]
    obtain ⟨x, hx, hxi⟩ := below_is (T := T) (n := n) (ok_small (r := c.f4) h1 hw); obtain ⟨y, hy, hyi⟩ := below_is (T := T) (n := n) (ok_small (r := c.f5) h2 hw); unfold finBoth; rw [hx, Option.bind_some]
    by_cases ex : x = true
    · rw [if_pos ex, hy]
      refine ⟨_, rfl, fun e => ⟨.both hr k, fun q hq => ?_⟩, fun L hL hi => ?_⟩
      · rcases List.mem_cons.mp hq with rfl | hq
        · exact hxi.mp ex
        · rw [List.mem_singleton] at hq
          rw [hq]; exact hyi.mp e
      · cases hL with
        | member _ k' e => omega
        | incl _ k' => omega
        | link _ _ k' => omega
        | both _ k' => exact hyi.mpr (hi _ (List.mem_cons_of_mem _ (List.mem_cons_self ..)))
    · rw [if_neg ex]
      refine ⟨_, rfl, (fun e => by cases e), fun L hL hi => ?_⟩
      cases hL with
      | member _ k' e => omega
      | incl _ k' => omega
      | link _ _ k' => omega
      | both _ k' => exact absurd (hxi.mpr (hi _ (List.mem_cons_self ..))) ex
theorem by_is {T : List (Pair × Int)} {p : Pair} {n : Int} (hw : p.f1.size ≤ maxLen) : ∀ (cs : List Cred), Mays cs → ∃ rr, finBy T cs p n = some rr ∧ (∀ c L, rr = some (c, L) → c ∈ cs ∧ Way c p L ∧ ∀ q ∈ L, inB T n q) ∧ (rr = none → ∀ c ∈ cs, ∀ L, Way c p L → ¬ ∀ q ∈ L, inB T n q)
  | [], _ => ⟨none, rfl, (fun c L h => by cases h), fun _ c hc => by cases hc⟩
  | c :: cs, hm => by
    obtain ⟨rr, h1, h2, h3⟩ := by_is (T := T) (n := n) hw cs (fun d hd => hm d (List.mem_cons_of_mem _ hd))
    have h2' : ∀ c' L, rr = some (c', L) → c' ∈ c :: cs ∧ Way c' p L ∧ ∀ q ∈ L, inB T n q := fun c' L e => ⟨List.mem_cons_of_mem _ (h2 c' L e).1, (h2 c' L e).2⟩
    rw [finBy]
    by_cases hr : credRole c = p.f0
    · rw [if_pos hr]
      obtain ⟨r, g1, g2, g3⟩ := try_is (T := T) (n := n) (hm c (List.mem_cons_self ..)) hr hw; rw [g1, Option.bind_some]
      by_cases e : r.2 = true
      · rw [if_pos e]
        refine ⟨_, rfl, fun c' L h => ?_, fun h => by cases h⟩; obtain ⟨rfl, rfl⟩ := Prod.mk.inj (Option.some.inj h); exact ⟨List.mem_cons_self .., g2 e⟩
      · rw [if_neg e]
        refine ⟨rr, h1, h2', fun h c' hc' L hL hi => ?_⟩
        rcases List.mem_cons.mp hc' with rfl | hc'
        · exact e (g3 L hL hi)
        · exact h3 h c' hc' L hL hi
    · rw [if_neg hr]
      refine ⟨rr, h1, h2', fun h c' hc' L hL hi => ?_⟩
      rcases List.mem_cons.mp hc' with rfl | hc'
      · exact hr hL.role
      · exact h3 h c' hc' L hL hi
end Go.Proofs.YtbjjgaahdnfflaaGreatDoor.Pr
end
