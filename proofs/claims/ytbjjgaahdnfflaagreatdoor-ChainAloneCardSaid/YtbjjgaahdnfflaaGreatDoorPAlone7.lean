/- The proof's own texts, joined: part 7. No conditions. -/
import Derived.Test.YtbjjgaahdnfflaaGreatDoorProg
import Derived.Below
import Derived.Deep.Draws
import Derived.Deep.AppendLies
import Derived.Maps.AppendAt
import Derived.OwnWalk
import Derived.Laws.BytesArg
import Derived.Laws.MakeOwn
import Derived.Laws.OwnMore
import Derived.Deep.OwnRows
import Derived.Tactics
import Derived.Lib.ConvBytes
import Derived.Laws.Slices
import Derived.WalkKit
import Derived.KernelRfl
import Derived.RowKit3
import Derived.Deep.LoopGhost
import Derived.Deep.QuietTactic
import Derived.BigQuiet
import Derived.WideLaws
import Derived.Deep.DeepCutAuto
import Derived.Deep.CutBlock
import Derived.Deep.RegionHeld3
import Derived.Laws.Rows
import Derived.Lib.AppendStr
import Derived.ArgAppend
import Derived.Laws.IdiomCopy
import Derived.OrdersHeld
import Derived.Laws.BitsLemmas
import Derived.RowKit
import Derived.Laws.StructEq
import Derived.Test.YtbjjgaahdnfflaaGreatDoorPAlone0
import Derived.Test.YtbjjgaahdnfflaaGreatDoorPAlone2
import Derived.Test.YtbjjgaahdnfflaaGreatDoorPAlone3
import Derived.Test.YtbjjgaahdnfflaaGreatDoorPAlone4
section
namespace Go.Proofs.YtbjjgaahdnfflaaGreatDoor.Pr
open Go.RowKit Go.Proofs.YtbjjgaahdnfflaaGreatDoorW.PrintWords Go.Proofs.YtbjjgaahdnfflaaGreatDoorW.PrintLast Go.Proofs.YtbjjgaahdnfflaaGreatDoorW.PrintMore
set_option linter.unusedVariables false
set_option linter.unusedSimpArgs false
section
attribute [local go_sem] QaQ QaO QaZ QaY QaJ QaI QaP QaN
attribute [local go_sem high] eqA27
mutual
def Qaf.l0 : Nat → List (S27) → List (S27) → Int → Option ((List (S27)))
 | 0, _, _, _ => none
 | k + 1, x0, x3, x4 => if x4 < (x0.length : Int) then (Qaf.l1 k x0 x3 x4 ([] : List (S27)) false 0) else (some x3)
def Qaf.l1 : Nat → List (S27) → List (S27) → Int → List (S27) → Bool → Int → Option ((List (S27)))
 | 0, _, _, _, _, _, _ => none
 | k + 1, x0, x3, x4, x5, x6, x7 => if x7 < (x3.length : Int) then (if x6 = true then (Qaf.j2 k x0 x3 x4 x5 x6 x7 false) else (if 0 ≤ x4 then (if x4 < (x0.length : Int) then (if 0 ≤ x7 then ((Qba.f ((Qas x0 x4).f0) ((Qas x0 x4).f1) ((Qas x3 x7).f0) ((Qas x3 x7).f1)).bind fun t107 => (Qaf.j2 k x0 x3 x4 x5 x6 x7 t107)) else (none)) else (none)) else (none))) else (if x6 = true then (Qaf.l0 k x0 x5 (wrap64 (x4 + 1))) else (if 0 ≤ x4 then (if x4 < (x0.length : Int) then (if x5.length < 8796093022208 then (Qaf.l0 k x0 (x5 ++ [(⟨(Qas x0 x4).f0, (Qas x0 x4).f1⟩ : S27)]) (wrap64 (x4 + 1))) else (none)) else (none)) else (none)))
def Qaf.j2 : Nat → List (S27) → List (S27) → Int → List (S27) → Bool → Int → Bool → Option ((List (S27)))
 | 0, _, _, _, _, _, _, _ => none
 | k + 1, x0, x3, x4, x5, x6, x7, x32 => if x32 = true then (if 0 ≤ x4 then (if x4 < (x0.length : Int) then (if x5.length < 8796093022208 then ((some (x5 ++ [(⟨(Qas x0 x4).f0, (Qas x0 x4).f1⟩ : S27)] : List (S27))).bind fun y109 => (if 0 ≤ x7 then (if x7 < (x3.length : Int) then (if (((Qas x3 x7).f0) == ((Qas x0 x4).f0) && (((Qas x3 x7).f1) == ((Qas x0 x4).f1))) = true then (if y109.length < 8796093022208 then (Qaf.l1 k x0 x3 x4 (y109 ++ [(⟨(Qas x3 x7).f0, (Qas x3 x7).f1⟩ : S27)]) true (wrap64 (x7 + 1))) else (none)) else (if y109.length < 8796093022208 then (Qaf.l1 k x0 x3 x4 (y109 ++ [(⟨(Qas x3 x7).f0, (Qas x3 x7).f1⟩ : S27)]) true (wrap64 (x7 + 1))) else (none))) else (none)) else (none))) else (none)) else (none)) else (none)) else (if 0 ≤ x7 then (if x7 < (x3.length : Int) then (if 0 ≤ x4 then (if x4 < (x0.length : Int) then (if (((Qas x3 x7).f0) == ((Qas x0 x4).f0) && (((Qas x3 x7).f1) == ((Qas x0 x4).f1))) = true then (if x5.length < 8796093022208 then (Qaf.l1 k x0 x3 x4 (x5 ++ [(⟨(Qas x3 x7).f0, (Qas x3 x7).f1⟩ : S27)]) true (wrap64 (x7 + 1))) else (none)) else (if x5.length < 8796093022208 then (Qaf.l1 k x0 x3 x4 (x5 ++ [(⟨(Qas x3 x7).f0, (Qas x3 x7).f1⟩ : S27)]) x6 (wrap64 (x7 + 1))) else (none))) else (none)) else (none)) else (none)) else (none))
end
def Qaf.f (k : Nat) (l0 : List (S27)) : Option ((List (S27))) := Qaf.l0 k l0 ([] : List (S27)) 0
def Qaf.T10 : Bool × List (List Nat × List Nat) := (true, [([], []), ([0], [0]), ([1], [1]), ([2], [2]), ([2], [2]), ([3, 4, 2], [2, 3, 4]), ([5, 2], [2, 5]), ([2], [2]), ([2], [2]), ([7, 8, 2], [2, 7, 8]), ([9, 2], [2, 9]), ([6, 10, 2, 2], [2, 6, 10]), ([2, 11], [2, 11])])
def Qaf.B10 : List Nat := [0, 1, 3, 7, 7, 31, 63, 7, 7, 391, 903, 2047, 4095]
theorem Qaf.tab10 : rtab .any (opsOf Tryz.f30 10) = Qaf.T10 := by kernel_rfl
theorem Qaf.bits10 : waitsOk Qaf.T10.2 Qaf.B10 = true := by kernel_rfl
def Qaf.T13 : Bool × List (List Nat × List Nat) := (true, [([], []), ([], []), ([0, 1], [0, 1]), ([2], [2]), ([], []), ([], []), ([4, 5], [4, 5]), ([6], [6]), ([3, 7], [3, 7])])
def Qaf.B13 : List Nat := [0, 0, 3, 7, 0, 0, 48, 112, 255]
theorem Qaf.tab13 : rtab .any (opsOf Tryz.f30 13) = Qaf.T13 := by kernel_rfl
theorem Qaf.bits13 : waitsOk Qaf.T13.2 Qaf.B13 = true := by kernel_rfl
set_option maxHeartbeats 8000000 in
set_option maxRecDepth 100000 in
theorem Qaf.calls (k : Nat) (A0 : Option Addr) (c0 : Nat) (l0 : List (S27)) (r : List (S27)) (w : World) (hr0 : Kd.C k27 w A0 l0.length l0) (hc0 : l0.length ≤ c0) (h : Qaf.f k l0 = some r) :
  Calls Tryz.prog 30 #[.slice A0 l0.length c0] w fun e w' => ∃ v0_ : Value, e = .returned (v0_) ∧ Kd.R k27 27 w' w.heap.size (fun _ => True) v0_ r ∧ Below w.heap.size w w' := by
 have hu27 := Tryz.underlying27; have HR0 := Qaa.mk hr0; have HC0 := Qaa.mk hc0; clear hr0 hc0; have HB := Qaa.mk (Below.refl w.heap.size w); have H : (Qaf.l0 k l0 ([] : List (S27)) 0) = some r := h; clear h; have H' := Qaa.mk H; clear H; go_enter Tryz.func30, Tryz.ntmps30; go_wp2
 go_loopg [3, 4] k (fun kq v3 v4 w' => ∃ (x3_1 : List (S27)) (x4_1 : Int), v4 = .int .i64 x4_1 ∧ Qaa (Qaf.l0 kq l0 x3_1 x4_1 = some r) ∧ Qaa (kq ≤ k) ∧ Qaa (Kd.R k27 27 w' w.heap.size (fun _ => True) v3 x3_1) ∧ Qaa (Below w.heap.size w w'))
 case atStart => exact ⟨(([] : List (S27))), (0), (by first | rfl | (simp; done) | (simp [*]; done)), H', ⟨Nat.le_refl _⟩, ⟨by first | exact Kd.R_nil _ _ _ _ _ | exact Kd.N_nil _ _ _ _ _ | exact Kd.V_nil _ _ _ _ _ | exact Kd.Q_nil _ _ _ _ _ | exact Kd.S_nil _ _ _ _ _⟩, ⟨bw_⟩⟩
 case round =>
  clear H'; obtain ⟨x3_1, x4_1, rfl, HA, HK1, HO_3, HB⟩ := hrel
  cases gk with
  | zero => exact absurd HA.out (by simp [Qaf.l0])
  | succ k1 =>
   have H := HA.out; clear HA; simp only [Qaf.l0] at H
   by_cases c2 : x4_1 < (l0.length : Int)
   ·rw [if_pos c2] at H; have c2b0 : decide (x4_1 < (l0.length : Int)) = true := decide_eq_true c2; clear c2; have H' := Qaa.mk H; clear H; go_wp2
    go_loopg [5, 6, 7] k1 (fun kq v5 v6 v7 w' => ∃ (x5_2 : List (S27)) (x6_2 : Bool) (x7_2 : Int), v6 = .bool x6_2 ∧ v7 = .int .i64 x7_2 ∧ Qaa (Qaf.l1 kq l0 x3_1 x4_1 x5_2 x6_2 x7_2 = some r) ∧ Qaa (kq ≤ k1) ∧ Qaa (Kd.R k27 27 w' w.heap.size (fun k_ => some k_ ≠ (v5 : Value).ownBlock) u3 x3_1) ∧ Qaa (Kd.R k27 27 w' w.heap.size (fun k_ => some k_ ≠ (u3 : Value).ownBlock) v5 x5_2) ∧ Qaa (Below w.heap.size w w'))
    case atStart => exact ⟨(([] : List (S27))), (false), (0), (by first | rfl | (simp; done) | (simp [*]; done)), (by first | rfl | (simp; done) | (simp [*]; done)), H', ⟨Nat.le_refl _⟩, ⟨by (with_reducible repeat (first | apply Kd.Qax | apply Kd.Qay | apply Kd.QaE)); exact Kd.QaL HO_3.out (fun _ hk => (by simp [Value.ownBlock]))⟩, ⟨by first | exact Kd.R_nil _ _ _ _ _ | exact Kd.N_nil _ _ _ _ _ | exact Kd.V_nil _ _ _ _ _ | exact Kd.Q_nil _ _ _ _ _ | exact Kd.S_nil _ _ _ _ _⟩, ⟨bw_⟩⟩
    case round =>
     clear H'; (try clear c2); (try clear c2b0); (try clear p2); obtain ⟨x5_2, x6_2, x7_2, rfl, rfl, HA, HK2, HO_3, HO_5, HB⟩ := hrel
     cases gk with
     | zero => exact absurd HA.out (by simp [Qaf.l1])
     | succ k2 =>
      have H := HA.out; clear HA; simp only [Qaf.l1] at H
      by_cases c3 : x7_2 < (x3_1.length : Int)
      ·rw [if_pos c3] at H; have c3b0 : decide (x7_2 < (x3_1.length : Int)) = true := decide_eq_true c3; clear c3; have HC4 := Qaa.mk H; clear H; obtain ⟨Ao5, co5, eo5⟩ := Kd.Qa2 HO_3.out; subst eo5
       go_upto_region 10 with (fail)
       go_cut [32] (fun v32 wc => ∃ (kq : Nat) (x32_3 : Bool), v32 = .bool x32_3 ∧ Qaa (Qaf.j2 kq l0 x3_1 x4_1 x5_2 x6_2 x7_2 x32_3 = some r) ∧ Qaa (kq ≤ k2) ∧ Qaa (Kd.R k27 27 wc w.heap.size (fun k_ => some k_ ≠ (u5 : Value).ownBlock) (.slice Ao5 x3_1.length co5) x3_1) ∧ Qaa (Kd.R k27 27 wc w.heap.size (fun k_ => some k_ ≠ ((.slice Ao5 x3_1.length co5) : Value).ownBlock) u5 x5_2) ∧ Qaa (Below w.heap.size w wc))
       case first =>
        have H := HC4.out; clear HC4
        by_cases c6 : x6_2 = true
        ·subst c6
         have H1 : (Qaf.j2 k2 l0 x3_1 x4_1 x5_2 true x7_2 false) = some r := by rw [if_pos rfl] at H; exact H
         clear H; have H := H1; clear H1; have H' := Qaa.mk H; clear H
         try go_wp2
         replace HO_3 := Qaa.mk (Kd.QaE HO_3.out); replace HO_5 := Qaa.mk (Kd.QaE HO_5.out); replace HB := Qaa.mk (Qan HB.out); refine Qby (n := 13) (S := fun w' => True) (ds := []) #[ff,ff,ff,ff,ff,ff,ff,ff,ff,ff,ff,ff,ff] (by kernel_rfl) rfl rfl trivial (fun hHeld => ?_); refine Qbe Qaf.tab10 Qaf.bits10 (fun HT_ HW_ => ?_)
         generalize wr.drew = w7 at HO_3 HO_5 HB hHeld ⊢
         refine pz 0 20 ?_; refine pz 1 21 ?_; refine pz 2 22 ?_; refine pu 3 23 ?_; refine pu 4 24 ?_; refine pu 5 25 ?_; refine pu 6 26 ?_; refine pu 7 27 ?_; refine pu 8 28 ?_; refine pu 9 29 ?_; refine pu 10 30 ?_; refine pu 11 31 ?_; refine pz 12 32 ?_; refine QbW (Qbx HT_.out (by kernel_rfl)) ?_
         try go_wp2
         go_meet
         case rel => exact ⟨_, (false), (by first | rfl | (simp; done) | (simp [*]; done)), H', ⟨by have := HK1.out; have := HK2.out; first | omega | exact Nat.le_refl _⟩, ⟨by (with_reducible repeat (first | apply Kd.Qax | apply Kd.Qay | apply Kd.QaE)); exact HO_3.out⟩, ⟨by (with_reducible repeat (first | apply Kd.Qax | apply Kd.Qay | apply Kd.QaE)); exact HO_5.out⟩, ⟨bw_⟩⟩
        ·replace c6 := Bool.eq_false_iff.mpr c6; subst c6
         have H1 : (if 0 ≤ x4_1 then (if x4_1 < (l0.length : Int) then (if 0 ≤ x7_2 then ((Qba.f ((Qas l0 x4_1).f0) ((Qas l0 x4_1).f1) ((Qas x3_1 x7_2).f0) ((Qas x3_1 x7_2).f1)).bind fun t107 => (Qaf.j2 k2 l0 x3_1 x4_1 x5_2 false x7_2 t107)) else (none)) else (none)) else (none)) = some r := by rw [if_neg (show ¬ (false = true) by decide)] at H; exact H
         clear H; have H := H1; clear H1
         by_cases c8 : 0 ≤ x4_1
         ·rw [if_pos c8] at H; have c8b0 : decide (0 ≤ x4_1) = true := decide_eq_true c8; clear c8
          (first | rw [c8b0] | (simp only [Qbt, Qbw]; rw [c8b0]) | skip)
          by_cases c9 : x4_1 < (l0.length : Int)
          ·rw [if_pos c9] at H; have c9b0 : decide (x4_1 < (l0.length : Int)) = true := decide_eq_true c9; clear c9
           by_cases c10 : 0 ≤ x7_2
           ·rw [if_pos c10] at H; have c10b0 : decide (0 ≤ x7_2) = true := decide_eq_true c10; clear c10; replace H := Option.bind_eq_some_iff.mp H; obtain ⟨t107, A110, H⟩ := H; replace H : (Qaf.j2 k2 l0 x3_1 x4_1 x5_2 false x7_2 t107) = some r := H; have A11 := Qaa.mk A110; clear A110; have H' := Qaa.mk H; clear H
            try go_wp2
            replace HO_3 := Qaa.mk (Kd.QaE HO_3.out); replace HO_5 := Qaa.mk (Kd.QaE HO_5.out); replace HB := Qaa.mk (Qan HB.out); have p105 : 0 ≤ (x4_1 : Int) := dd_; have q105 : x4_1 < (l0.length : Int) := dd_; obtain ⟨ad105, e105, hx105_0, hx105_1⟩ := Qcx HR0.out x4_1 p105 q105; have hw105_1 := hx105_1; have hw105_0 := hx105_0; cases e105; replace hx105_0 := cb_ HB hx105_0; replace hx105_1 := cb_ HB hx105_1; replace p105 := eq_true p105; replace q105 := eq_true q105; have p106 : 0 ≤ (x7_2 : Int) := dd_; have q106 : x7_2 < (x3_1.length : Int) := dd_; obtain ⟨ad106, e106, hx106_0, hx106_1⟩ := Qcx (Kd.QaF HO_3.out).2.2 x7_2 p106 q106; cases e106; replace p106 := eq_true p106; replace q106 := eq_true q106; refine Qby (n := 13) (S := fun w' => cr_ii w' (ad105.add ((x4_1).toNat * 2)) ((Qas l0 x4_1).f0) ((Qas l0 x4_1).f1) (crl_ii w' (ad106.add ((x7_2).toNat * 2)) ((Qas x3_1 x7_2).f0) ((Qas x3_1 x7_2).f1))) (ds := []) #[ff,ff,ff,ff,ff,ff,ff,ff,ff,ff,ff,ff,ff] (by kernel_rfl) rfl rfl ⟨(cb_ HB hw105_0), (cb_ HB hw105_1), hx106_0, hx106_1⟩ (fun hHeld => ?_); refine Qbe Qaf.tab10 Qaf.bits10 (fun HT_ HW_ => ?_)
            generalize wr.drew = w12 at HO_3 HO_5 HB hx105_0 hx105_1 hx106_0 hx106_1 hHeld ⊢
            refine pz 0 20 ?_; refine pz 1 21 ?_; refine pz 2 22 ?_; refine pz 3 23 ?_; refine pz 4 24 ?_; refine pz 5 25 ?_; refine pz 7 27 ?_; refine pz 8 28 ?_; refine pz 9 29 ?_; refine tk4 6 26 ?_; refine tk4 10 30 ?_; refine one_ (i := 11) (N := some 31) #[tt,tt,tt,tt,tt,tt,tt,tt,tt,tt,tt,tt,ff] rfl rfl (QbO HT_.out (by kernel_rfl)) (by decide) (fun K hK => ?_); refine Qcs Tryz.func43 (by kernel_rfl) rfl #[.agg #[.int .i64 ((Qas l0 x4_1).f0), .int .i64 ((Qas l0 x4_1).f1)], .agg #[.int .i64 ((Qas x3_1 x7_2).f0), .int .i64 ((Qas x3_1 x7_2).f1)]] (by rfl) rfl rfl (by (try simp only [List.map_toArray, List.map_cons, List.map_nil]); first | done | rfl | (simp only [List.length_drop, List.length_take]; rfl)) ?_
            with_reducible refine (Qba.calls ((Qas l0 x4_1).f0) ((Qas l0 x4_1).f1) ((Qas x3_1 x7_2).f0) ((Qas x3_1 x7_2).f1) t107 _ A11.out).mono ?_
            rintro e w13 ⟨rfl, hb⟩; have HS2_ := cc_ hb hHeld.2.2.1; have HS3_ := cc_ hb hHeld.2.2.2; refine ⟨_, rfl, ?_⟩; replace HO_3 := Qaa.mk (Kd.Qau (ro_ HO_3) hb); replace HO_5 := Qaa.mk (Kd.Qau (ro_ HO_5) hb); replace HB := Qaa.mk (Qad bw_ hb)
            (try clear hb)
            (try clear hb2)
            (try clear hk)
            (try clear hi)
            refine hK.out _ _ ⟨(cb_ HB hw105_0), (cb_ HB hw105_1), HS2_, HS3_⟩ (fun hHeld => ?_); clear hK K; refine QbF (a' := ?_) ?_ ?_; rotate_left
            ·show Act.put _ (some 31) _ = _
             simp only [Act.put, put_, Qbt, Qbw]; rfl
            refine pz 12 32 ?_; refine QbW (Qbx HT_.out (by kernel_rfl)) ?_
            try go_wp2
            go_meet
            case rel => exact ⟨_, (t107), (by first | rfl | (simp; done) | (simp [*]; done)), H', ⟨by have := HK1.out; have := HK2.out; first | omega | exact Nat.le_refl _⟩, ⟨by (with_reducible repeat (first | apply Kd.Qax | apply Kd.Qay | apply Kd.QaE)); exact HO_3.out⟩, ⟨by (with_reducible repeat (first | apply Kd.Qax | apply Kd.Qay | apply Kd.QaE)); exact HO_5.out⟩, ⟨bw_⟩⟩
           ·rw [if_neg c10] at H; exact absurd H (by simp)
          ·rw [if_neg c9] at H; exact absurd H (by simp)
         ·rw [if_neg c8] at H; exact absurd H (by simp)
       case rest =>
        clear HC4; (try clear c1); (try clear p1); (try clear q1); (try clear hx1); (try clear c2); (try clear c2b0); (try clear p2); (try clear c3); (try clear c3b0); (try clear c4); (try clear c6); (try clear c8); (try clear c8b0); (try clear c9); (try clear c9b0); (try clear c10); (try clear c10b0); (try clear p10); (try clear q10); (try clear hx10); (try clear hx105_0); (try clear hx105_1); (try clear hx106_0); (try clear hx106_1); (try clear p105); (try clear p106); (try clear p2); (try clear q105); (try clear q106); obtain ⟨kq, x32_3, rfl, HA, HJ3, HO_3, HO_5, HB⟩ := hcut
        cases kq with
        | zero => exact absurd HA.out (by simp [Qaf.j2])
        | succ kj3 =>
         have H := HA.out; clear HA; simp only [Qaf.j2] at H
         by_cases c14 : x32_3 = true
         ·subst c14
          have H1 : (if 0 ≤ x4_1 then (if x4_1 < (l0.length : Int) then (if x5_2.length < 8796093022208 then ((some (x5_2 ++ [(⟨(Qas l0 x4_1).f0, (Qas l0 x4_1).f1⟩ : S27)] : List (S27))).bind fun y109 => (if 0 ≤ x7_2 then (if x7_2 < (x3_1.length : Int) then (if (((Qas x3_1 x7_2).f0) == ((Qas l0 x4_1).f0) && (((Qas x3_1 x7_2).f1) == ((Qas l0 x4_1).f1))) = true then (if y109.length < 8796093022208 then (Qaf.l1 kj3 l0 x3_1 x4_1 (y109 ++ [(⟨(Qas x3_1 x7_2).f0, (Qas x3_1 x7_2).f1⟩ : S27)]) true (wrap64 (x7_2 + 1))) else (none)) else (if y109.length < 8796093022208 then (Qaf.l1 kj3 l0 x3_1 x4_1 (y109 ++ [(⟨(Qas x3_1 x7_2).f0, (Qas x3_1 x7_2).f1⟩ : S27)]) true (wrap64 (x7_2 + 1))) else (none))) else (none)) else (none))) else (none)) else (none)) else (none)) = some r := by rw [if_pos rfl] at H; exact H
          clear H; have H := H1; clear H1
          by_cases c15 : 0 ≤ x4_1
          ·rw [if_pos c15] at H; have c15b0 : decide (0 ≤ x4_1) = true := decide_eq_true c15; clear c15
           by_cases c16 : x4_1 < (l0.length : Int)
           ·rw [if_pos c16] at H; have c16b0 : decide (x4_1 < (l0.length : Int)) = true := decide_eq_true c16; clear c16
            by_cases c17 : x5_2.length < 8796093022208
            ·rw [if_pos c17] at H; have LMc17 := Qaa.mk c17; clear c17
             obtain ⟨y109, hy109⟩ : ∃ y_ : List (S27), y_ = (x5_2 ++ [(⟨(Qas l0 x4_1).f0, (Qas l0 x4_1).f1⟩ : S27)]) := ⟨_, rfl⟩
             replace H : (if 0 ≤ x7_2 then (if x7_2 < (x3_1.length : Int) then (if (((Qas x3_1 x7_2).f0) == ((Qas l0 x4_1).f0) && (((Qas x3_1 x7_2).f1) == ((Qas l0 x4_1).f1))) = true then (if y109.length < 8796093022208 then (Qaf.l1 kj3 l0 x3_1 x4_1 (y109 ++ [(⟨(Qas x3_1 x7_2).f0, (Qas x3_1 x7_2).f1⟩ : S27)]) true (wrap64 (x7_2 + 1))) else (none)) else (if y109.length < 8796093022208 then (Qaf.l1 kj3 l0 x3_1 x4_1 (y109 ++ [(⟨(Qas x3_1 x7_2).f0, (Qas x3_1 x7_2).f1⟩ : S27)]) true (wrap64 (x7_2 + 1))) else (none))) else (none)) else (none)) = some r := by first | (rw [hy109]; with_reducible exact H) | (have H2_ := (Option.bind_some _ _).symm.trans H; rw [hy109]; with_reducible exact H2_) | (have H2_ := (Option.bind_some _ _).symm.trans H; with_reducible exact H2_) | with_reducible exact H | (rw [hy109]; exact H) | exact H
             have Ny109 := Qaa.mk hy109; clear hy109
             by_cases c18 : 0 ≤ x7_2
             ·rw [if_pos c18] at H; have c18b0 : decide (0 ≤ x7_2) = true := decide_eq_true c18; clear c18
              by_cases c19 : x7_2 < (x3_1.length : Int)
              ·rw [if_pos c19] at H; have c19b0 : decide (x7_2 < (x3_1.length : Int)) = true := decide_eq_true c19; clear c19
               by_cases c20 : (((Qas x3_1 x7_2).f0) == ((Qas l0 x4_1).f0) && (((Qas x3_1 x7_2).f1) == ((Qas l0 x4_1).f1))) = true
               ·rw [if_pos c20] at H; have c20b0 : (((Qas x3_1 x7_2).f0) == ((Qas l0 x4_1).f0) && (((Qas x3_1 x7_2).f1) == ((Qas l0 x4_1).f1))) = true := c20
                (try (have c20b1 : decide (((Qas x3_1 x7_2).f0) = ((Qas l0 x4_1).f0) && (((Qas x3_1 x7_2).f1) == ((Qas l0 x4_1).f1))) = true := by simpa using c20))
                (try (have c20b2 : (((Qas x3_1 x7_2).f0) == ((Qas l0 x4_1).f0) && (((Qas x3_1 x7_2).f1) == ((Qas l0 x4_1).f1))) = true := by simpa using c20))
                clear c20
                by_cases c21 : y109.length < 8796093022208
                ·rw [if_pos c21] at H; have LMc21 := Qaa.mk c21; clear c21
                 obtain ⟨y115, hy115⟩ : ∃ y_ : List (S27), y_ = (y109 ++ [(⟨(Qas x3_1 x7_2).f0, (Qas x3_1 x7_2).f1⟩ : S27)]) := ⟨_, rfl⟩
                 replace H : (Qaf.l1 kj3 l0 x3_1 x4_1 y115 true (wrap64 (x7_2 + 1))) = some r := by first | (rw [hy115]; with_reducible exact H) | (have H2_ := (Option.bind_some _ _).symm.trans H; rw [hy115]; with_reducible exact H2_) | (have H2_ := (Option.bind_some _ _).symm.trans H; with_reducible exact H2_) | with_reducible exact H | (rw [hy115]; exact H) | exact H
                 have Ny115 := Qaa.mk hy115; clear hy115; have H' := Qaa.mk H; clear H; have p108 : 0 ≤ (x4_1 : Int) := dd_; have q108 : x4_1 < (l0.length : Int) := dd_; obtain ⟨ad108, e108, hx108_0, hx108_1⟩ := Qcx HR0.out x4_1 p108 q108; cases e108; replace hx108_0 := cb_ HB hx108_0; replace hx108_1 := cb_ HB hx108_1; replace p108 := eq_true p108; replace q108 := eq_true q108
                 try go_wp2_with (first | ((with_reducible refine Qa3 (b := .append) (xs := #[.tmp 33, .tmp 38]) rfl ?_); at_builtin; refine Kd.QbB k27 (w0 := w) w.heap.size rfl (.tmp 33) (.tmp 38) 39 27 (.agg #[(.int .i64 0), (.int .i64 0)]) 16 rfl Tryz.underlying39 info27 rfl (by decide) (by omega) u5 x5_2 (⟨(Qas l0 x4_1).f0, (Qas l0 x4_1).f1⟩ : S27) [.int .i64 ((Qas l0 x4_1).f0), .int .i64 ((Qas l0 x4_1).f1)] (fun k_ => some k_ ≠ (.slice Ao5 x3_1.length co5 : Value).ownBlock) (fun _ => False) rfl rfl ?aP (fun _ hk => hk.elim) ?aF ?aO ?aB ?aS ?aL ?_; (case aP => exact k27_mkM _ _ _ (⟨(Qas l0 x4_1).f0, (Qas l0 x4_1).f1⟩ : S27)); (case aB => exact bw_); (case aF => exact (fun k_ hk => Kd.fresh' (Kd.R_lt (ro_ HO_3)) k_ hk)); (case aO => exact (ro_ HO_5)); (case aS => exact (QaD bw_)); (case aL => have := LMc17.out; omega); intro v110 w22 ho hb hg hat; rw [← Ny109.out] at ho; have n0_ := Qaa.mk (Kd.QbJ (ok := (fun _ => True)) (by (with_reducible repeat (first | apply Kd.Qax | apply Kd.Qay | apply Kd.QaE)); exact Kd.QaL HO_3.out (fun _ hk => ⟨trivial, hk⟩)) hg hat); have n1_ := Qaa.mk (hb); have n2_ := Qaa.mk (ho); clear HO_3; clear HB; clear HO_5; have HO_3 := n0_; have HB := n1_; have HO111 := n2_; clear n0_ n1_ n2_; clear ho hb hg hat))
                 replace HO_3 := Qaa.mk (Kd.QaE HO_3.out); replace HO111 := Qaa.mk (Kd.QaE HO111.out); replace HB := Qaa.mk (Qan HB.out); have p112 : 0 ≤ (x7_2 : Int) := dd_; have q112 : x7_2 < (x3_1.length : Int) := dd_; obtain ⟨ad112, e112, hx112_0, hx112_1⟩ := Qcx (Kd.QaF HO_3.out).2.2 x7_2 p112 q112; cases e112; replace p112 := eq_true p112; replace q112 := eq_true q112; have p113 : 0 ≤ (x4_1 : Int) := dd_; have q113 : x4_1 < (l0.length : Int) := dd_; obtain ⟨ad113, e113, hx113_0, hx113_1⟩ := Qcx HR0.out x4_1 p113 q113; have hw113_1 := hx113_1; have hw113_0 := hx113_0
                 obtain rfl : ad108 = ad113 := (by injection e113)
                 replace hx113_0 := cb_ HB hx113_0; replace hx113_1 := cb_ HB hx113_1; replace p113 := eq_true p113; replace q113 := eq_true q113; refine Qby (n := 9) (S := fun w' => cr_ii w' (ad112.add ((x7_2).toNat * 2)) ((Qas x3_1 x7_2).f0) ((Qas x3_1 x7_2).f1) (crl_ii w' (ad108.add ((x4_1).toNat * 2)) ((Qas l0 x4_1).f0) ((Qas l0 x4_1).f1))) (ds := []) #[ff,ff,ff,ff,ff,ff,ff,ff,ff] (by kernel_rfl) rfl rfl ⟨hx112_0, hx112_1, (cb_ HB hw113_0), (cb_ HB hw113_1)⟩ (fun hHeld => ?_); refine Qbe Qaf.tab13 Qaf.bits13 (fun HT_ HW_ => ?_)
                 generalize w22.drew = w23 at HO_3 HO111 HB hx112_0 hx112_1 hx113_0 hx113_1 hHeld ⊢
                 refine pz 0 40 ?_; refine pz 1 41 ?_; refine pz 2 42 ?_; refine pz 4 44 ?_; refine pz 5 45 ?_; refine pz 6 46 ?_; refine tk4 3 43 ?_; refine tk4 7 47 ?_; refine pz 8 48 ?_; refine QbW (Qbx HT_.out (by kernel_rfl)) ?_; have p114 : 0 ≤ (x7_2 : Int) := dd_; have q114 : x7_2 < (x3_1.length : Int) := dd_; obtain ⟨ad114, e114, hx114_0, hx114_1⟩ := Qcx (Kd.QaF HO_3.out).2.2 x7_2 p114 q114
                 obtain rfl : ad112 = ad114 := (by injection e114)
                 replace p114 := eq_true p114; replace q114 := eq_true q114
                 try go_wp2_with (first | ((with_reducible refine Qa3 (b := .append) (xs := #[.tmp 49, .tmp 54]) rfl ?_); at_builtin; refine Kd.QbB k27 (w0 := w) w.heap.size rfl (.tmp 49) (.tmp 54) 39 27 (.agg #[(.int .i64 0), (.int .i64 0)]) 16 rfl Tryz.underlying39 info27 rfl (by decide) (by omega) v110 y109 (⟨(Qas x3_1 x7_2).f0, (Qas x3_1 x7_2).f1⟩ : S27) [.int .i64 ((Qas x3_1 x7_2).f0), .int .i64 ((Qas x3_1 x7_2).f1)] (fun k_ => some k_ ≠ (.slice (some ad112) x3_1.length co5 : Value).ownBlock) (fun _ => False) rfl rfl ?aP (fun _ hk => hk.elim) ?aF ?aO ?aB ?aS ?aL ?_; (case aP => exact k27_mkM _ _ _ (⟨(Qas x3_1 x7_2).f0, (Qas x3_1 x7_2).f1⟩ : S27)); (case aB => exact bw_); (case aF => exact (fun k_ hk => Kd.fresh' (Kd.R_lt (ro_ HO_3)) k_ hk)); (case aO => exact (ro_ HO111)); (case aS => exact (QaD bw_)); (case aL => have := LMc21.out; omega); intro v116 w24 ho hb hg hat; rw [← Ny115.out] at ho; have n0_ := Qaa.mk (Kd.QbJ (ok := (fun _ => True)) (ro_ HO_3) hg hat); have n1_ := Qaa.mk (hb); have n2_ := Qaa.mk (ho); clear HO_3; clear HB; clear HO111; have HO_3 := n0_; have HB := n1_; have HO117 := n2_; clear n0_ n1_ n2_; clear ho hb hg hat))
                 go_roundg kj3
                 case measure => have := HK1.out; have := HK2.out; have := HJ3.out; omega
                 case rel => exact ⟨(y115), (true), (wrap64 (x7_2 + 1)), (by first | rfl | (simp; done) | (simp [*]; done)), (by first | rfl | (simp; done) | (simp [*]; done)), H', ⟨by have := HK1.out; have := HK2.out; have := HJ3.out; omega⟩, ⟨by (with_reducible repeat (first | apply Kd.Qax | apply Kd.Qay | apply Kd.QaE)); exact Kd.QaL HO_3.out (fun _ hk => hk.2)⟩, ⟨by (with_reducible repeat (first | apply Kd.Qax | apply Kd.Qay | apply Kd.QaE)); exact HO117.out⟩, ⟨bw_⟩⟩
                ·rw [if_neg c21] at H; exact absurd H (by simp)
               ·rw [if_neg c20] at H
                have c20b0 : (((Qas x3_1 x7_2).f0) == ((Qas l0 x4_1).f0) && (((Qas x3_1 x7_2).f1) == ((Qas l0 x4_1).f1))) = false := by simpa using c20
                (try (have c20b1 : decide (((Qas x3_1 x7_2).f0) = ((Qas l0 x4_1).f0) && (((Qas x3_1 x7_2).f1) == ((Qas l0 x4_1).f1))) = false := by simpa using c20))
                (try (have c20b2 : (((Qas x3_1 x7_2).f0) == ((Qas l0 x4_1).f0) && (((Qas x3_1 x7_2).f1) == ((Qas l0 x4_1).f1))) = false := by simpa using c20))
                (try (have c20b3 : ¬ (((Qas x3_1 x7_2).f0) = ((Qas l0 x4_1).f0) && (((Qas x3_1 x7_2).f1) == ((Qas l0 x4_1).f1))) := by simpa using c20))
                clear c20
                by_cases c25 : y109.length < 8796093022208
                ·rw [if_pos c25] at H; have LMc25 := Qaa.mk c25; clear c25
                 obtain ⟨y119, hy119⟩ : ∃ y_ : List (S27), y_ = (y109 ++ [(⟨(Qas x3_1 x7_2).f0, (Qas x3_1 x7_2).f1⟩ : S27)]) := ⟨_, rfl⟩
                 replace H : (Qaf.l1 kj3 l0 x3_1 x4_1 y119 true (wrap64 (x7_2 + 1))) = some r := by first | (rw [hy119]; with_reducible exact H) | (have H2_ := (Option.bind_some _ _).symm.trans H; rw [hy119]; with_reducible exact H2_) | (have H2_ := (Option.bind_some _ _).symm.trans H; with_reducible exact H2_) | with_reducible exact H | (rw [hy119]; exact H) | exact H
                 have Ny119 := Qaa.mk hy119; clear hy119; have H' := Qaa.mk H; clear H; have p108 : 0 ≤ (x4_1 : Int) := dd_; have q108 : x4_1 < (l0.length : Int) := dd_; obtain ⟨ad108, e108, hx108_0, hx108_1⟩ := Qcx HR0.out x4_1 p108 q108; cases e108; replace hx108_0 := cb_ HB hx108_0; replace hx108_1 := cb_ HB hx108_1; replace p108 := eq_true p108; replace q108 := eq_true q108
                 try go_wp2_with (first | ((with_reducible refine Qa3 (b := .append) (xs := #[.tmp 33, .tmp 38]) rfl ?_); at_builtin; refine Kd.QbB k27 (w0 := w) w.heap.size rfl (.tmp 33) (.tmp 38) 39 27 (.agg #[(.int .i64 0), (.int .i64 0)]) 16 rfl Tryz.underlying39 info27 rfl (by decide) (by omega) u5 x5_2 (⟨(Qas l0 x4_1).f0, (Qas l0 x4_1).f1⟩ : S27) [.int .i64 ((Qas l0 x4_1).f0), .int .i64 ((Qas l0 x4_1).f1)] (fun k_ => some k_ ≠ (.slice Ao5 x3_1.length co5 : Value).ownBlock) (fun _ => False) rfl rfl ?aP (fun _ hk => hk.elim) ?aF ?aO ?aB ?aS ?aL ?_; (case aP => exact k27_mkM _ _ _ (⟨(Qas l0 x4_1).f0, (Qas l0 x4_1).f1⟩ : S27)); (case aB => exact bw_); (case aF => exact (fun k_ hk => Kd.fresh' (Kd.R_lt (ro_ HO_3)) k_ hk)); (case aO => exact (ro_ HO_5)); (case aS => exact (QaD bw_)); (case aL => have := LMc17.out; omega); intro v110 w26 ho hb hg hat; rw [← Ny109.out] at ho; have n0_ := Qaa.mk (Kd.QbJ (ok := (fun _ => True)) (by (with_reducible repeat (first | apply Kd.Qax | apply Kd.Qay | apply Kd.QaE)); exact Kd.QaL HO_3.out (fun _ hk => ⟨trivial, hk⟩)) hg hat); have n1_ := Qaa.mk (hb); have n2_ := Qaa.mk (ho); clear HO_3; clear HB; clear HO_5; have HO_3 := n0_; have HB := n1_; have HO111 := n2_; clear n0_ n1_ n2_; clear ho hb hg hat))
                 replace HO_3 := Qaa.mk (Kd.QaE HO_3.out); replace HO111 := Qaa.mk (Kd.QaE HO111.out); replace HB := Qaa.mk (Qan HB.out); have p112 : 0 ≤ (x7_2 : Int) := dd_; have q112 : x7_2 < (x3_1.length : Int) := dd_; obtain ⟨ad112, e112, hx112_0, hx112_1⟩ := Qcx (Kd.QaF HO_3.out).2.2 x7_2 p112 q112; cases e112; replace p112 := eq_true p112; replace q112 := eq_true q112; have p113 : 0 ≤ (x4_1 : Int) := dd_; have q113 : x4_1 < (l0.length : Int) := dd_; obtain ⟨ad113, e113, hx113_0, hx113_1⟩ := Qcx HR0.out x4_1 p113 q113; have hw113_1 := hx113_1; have hw113_0 := hx113_0
                 obtain rfl : ad108 = ad113 := (by injection e113)
                 replace hx113_0 := cb_ HB hx113_0; replace hx113_1 := cb_ HB hx113_1; replace p113 := eq_true p113; replace q113 := eq_true q113; refine Qby (n := 9) (S := fun w' => cr_ii w' (ad112.add ((x7_2).toNat * 2)) ((Qas x3_1 x7_2).f0) ((Qas x3_1 x7_2).f1) (crl_ii w' (ad108.add ((x4_1).toNat * 2)) ((Qas l0 x4_1).f0) ((Qas l0 x4_1).f1))) (ds := []) #[ff,ff,ff,ff,ff,ff,ff,ff,ff] (by kernel_rfl) rfl rfl ⟨hx112_0, hx112_1, (cb_ HB hw113_0), (cb_ HB hw113_1)⟩ (fun hHeld => ?_); refine Qbe Qaf.tab13 Qaf.bits13 (fun HT_ HW_ => ?_)
                 generalize w26.drew = w27 at HO_3 HO111 HB hx112_0 hx112_1 hx113_0 hx113_1 hHeld ⊢
                 refine pz 0 40 ?_; refine pz 1 41 ?_; refine pz 2 42 ?_; refine pz 4 44 ?_; refine pz 5 45 ?_; refine pz 6 46 ?_; refine tk4 3 43 ?_; refine tk4 7 47 ?_; refine pz 8 48 ?_; refine QbW (Qbx HT_.out (by kernel_rfl)) ?_; have p118 : 0 ≤ (x7_2 : Int) := dd_; have q118 : x7_2 < (x3_1.length : Int) := dd_; obtain ⟨ad118, e118, hx118_0, hx118_1⟩ := Qcx (Kd.QaF HO_3.out).2.2 x7_2 p118 q118
                 obtain rfl : ad112 = ad118 := (by injection e118)
                 replace p118 := eq_true p118; replace q118 := eq_true q118
                 try go_wp2_with (first | ((with_reducible refine Qa3 (b := .append) (xs := #[.tmp 49, .tmp 54]) rfl ?_); at_builtin; refine Kd.QbB k27 (w0 := w) w.heap.size rfl (.tmp 49) (.tmp 54) 39 27 (.agg #[(.int .i64 0), (.int .i64 0)]) 16 rfl Tryz.underlying39 info27 rfl (by decide) (by omega) v110 y109 (⟨(Qas x3_1 x7_2).f0, (Qas x3_1 x7_2).f1⟩ : S27) [.int .i64 ((Qas x3_1 x7_2).f0), .int .i64 ((Qas x3_1 x7_2).f1)] (fun k_ => some k_ ≠ (.slice (some ad112) x3_1.length co5 : Value).ownBlock) (fun _ => False) rfl rfl ?aP (fun _ hk => hk.elim) ?aF ?aO ?aB ?aS ?aL ?_; (case aP => exact k27_mkM _ _ _ (⟨(Qas x3_1 x7_2).f0, (Qas x3_1 x7_2).f1⟩ : S27)); (case aB => exact bw_); (case aF => exact (fun k_ hk => Kd.fresh' (Kd.R_lt (ro_ HO_3)) k_ hk)); (case aO => exact (ro_ HO111)); (case aS => exact (QaD bw_)); (case aL => have := LMc25.out; omega); intro v120 w28 ho hb hg hat; rw [← Ny119.out] at ho; have n0_ := Qaa.mk (Kd.QbJ (ok := (fun _ => True)) (ro_ HO_3) hg hat); have n1_ := Qaa.mk (hb); have n2_ := Qaa.mk (ho); clear HO_3; clear HB; clear HO111; have HO_3 := n0_; have HB := n1_; have HO121 := n2_; clear n0_ n1_ n2_; clear ho hb hg hat))
                 go_roundg kj3
                 case measure => have := HK1.out; have := HK2.out; have := HJ3.out; omega
                 case rel => exact ⟨(y119), (true), (wrap64 (x7_2 + 1)), (by first | rfl | (simp; done) | (simp [*]; done)), (by first | rfl | (simp; done) | (simp [*]; done)), H', ⟨by have := HK1.out; have := HK2.out; have := HJ3.out; omega⟩, ⟨by (with_reducible repeat (first | apply Kd.Qax | apply Kd.Qay | apply Kd.QaE)); exact Kd.QaL HO_3.out (fun _ hk => hk.2)⟩, ⟨by (with_reducible repeat (first | apply Kd.Qax | apply Kd.Qay | apply Kd.QaE)); exact HO121.out⟩, ⟨bw_⟩⟩
                ·rw [if_neg c25] at H; exact absurd H (by simp)
              ·rw [if_neg c19] at H; exact absurd H (by simp)
             ·rw [if_neg c18] at H; exact absurd H (by simp)
            ·rw [if_neg c17] at H; exact absurd H (by simp)
           ·rw [if_neg c16] at H; exact absurd H (by simp)
          ·rw [if_neg c15] at H; exact absurd H (by simp)
         ·replace c14 := Bool.eq_false_iff.mpr c14; subst c14
          have H1 : (if 0 ≤ x7_2 then (if x7_2 < (x3_1.length : Int) then (if 0 ≤ x4_1 then (if x4_1 < (l0.length : Int) then (if (((Qas x3_1 x7_2).f0) == ((Qas l0 x4_1).f0) && (((Qas x3_1 x7_2).f1) == ((Qas l0 x4_1).f1))) = true then (if x5_2.length < 8796093022208 then (Qaf.l1 kj3 l0 x3_1 x4_1 (x5_2 ++ [(⟨(Qas x3_1 x7_2).f0, (Qas x3_1 x7_2).f1⟩ : S27)]) true (wrap64 (x7_2 + 1))) else (none)) else (if x5_2.length < 8796093022208 then (Qaf.l1 kj3 l0 x3_1 x4_1 (x5_2 ++ [(⟨(Qas x3_1 x7_2).f0, (Qas x3_1 x7_2).f1⟩ : S27)]) x6_2 (wrap64 (x7_2 + 1))) else (none))) else (none)) else (none)) else (none)) else (none)) = some r := by rw [if_neg (show ¬ (false = true) by decide)] at H; exact H
          clear H; have H := H1; clear H1
          by_cases c29 : 0 ≤ x7_2
          ·rw [if_pos c29] at H; have c29b0 : decide (0 ≤ x7_2) = true := decide_eq_true c29; clear c29
           by_cases c30 : x7_2 < (x3_1.length : Int)
           ·rw [if_pos c30] at H; have c30b0 : decide (x7_2 < (x3_1.length : Int)) = true := decide_eq_true c30; clear c30
            by_cases c31 : 0 ≤ x4_1
            ·rw [if_pos c31] at H; have c31b0 : decide (0 ≤ x4_1) = true := decide_eq_true c31; clear c31
             by_cases c32 : x4_1 < (l0.length : Int)
             ·rw [if_pos c32] at H; have c32b0 : decide (x4_1 < (l0.length : Int)) = true := decide_eq_true c32; clear c32
              by_cases c33 : (((Qas x3_1 x7_2).f0) == ((Qas l0 x4_1).f0) && (((Qas x3_1 x7_2).f1) == ((Qas l0 x4_1).f1))) = true
              ·rw [if_pos c33] at H; have c33b0 : (((Qas x3_1 x7_2).f0) == ((Qas l0 x4_1).f0) && (((Qas x3_1 x7_2).f1) == ((Qas l0 x4_1).f1))) = true := c33
               (try (have c33b1 : decide (((Qas x3_1 x7_2).f0) = ((Qas l0 x4_1).f0) && (((Qas x3_1 x7_2).f1) == ((Qas l0 x4_1).f1))) = true := by simpa using c33))
               (try (have c33b2 : (((Qas x3_1 x7_2).f0) == ((Qas l0 x4_1).f0) && (((Qas x3_1 x7_2).f1) == ((Qas l0 x4_1).f1))) = true := by simpa using c33))
               clear c33
               by_cases c34 : x5_2.length < 8796093022208
               ·rw [if_pos c34] at H; have LMc34 := Qaa.mk c34; clear c34
                obtain ⟨y125, hy125⟩ : ∃ y_ : List (S27), y_ = (x5_2 ++ [(⟨(Qas x3_1 x7_2).f0, (Qas x3_1 x7_2).f1⟩ : S27)]) := ⟨_, rfl⟩
                replace H : (Qaf.l1 kj3 l0 x3_1 x4_1 y125 true (wrap64 (x7_2 + 1))) = some r := by first | (rw [hy125]; with_reducible exact H) | (have H2_ := (Option.bind_some _ _).symm.trans H; rw [hy125]; with_reducible exact H2_) | (have H2_ := (Option.bind_some _ _).symm.trans H; with_reducible exact H2_) | with_reducible exact H | (rw [hy125]; exact H) | exact H
                have Ny125 := Qaa.mk hy125; clear hy125; have H' := Qaa.mk H; clear H
                try go_wp2
                replace HO_3 := Qaa.mk (Kd.QaE HO_3.out); replace HO_5 := Qaa.mk (Kd.QaE HO_5.out); replace HB := Qaa.mk (Qan HB.out); have p122 : 0 ≤ (x7_2 : Int) := dd_; have q122 : x7_2 < (x3_1.length : Int) := dd_; obtain ⟨ad122, e122, hx122_0, hx122_1⟩ := Qcx (Kd.QaF HO_3.out).2.2 x7_2 p122 q122; cases e122; replace p122 := eq_true p122; replace q122 := eq_true q122; have p123 : 0 ≤ (x4_1 : Int) := dd_; have q123 : x4_1 < (l0.length : Int) := dd_; obtain ⟨ad123, e123, hx123_0, hx123_1⟩ := Qcx HR0.out x4_1 p123 q123; have hw123_1 := hx123_1; have hw123_0 := hx123_0; cases e123; replace hx123_0 := cb_ HB hx123_0; replace hx123_1 := cb_ HB hx123_1; replace p123 := eq_true p123; replace q123 := eq_true q123; refine Qby (n := 9) (S := fun w' => cr_ii w' (ad122.add ((x7_2).toNat * 2)) ((Qas x3_1 x7_2).f0) ((Qas x3_1 x7_2).f1) (crl_ii w' (ad123.add ((x4_1).toNat * 2)) ((Qas l0 x4_1).f0) ((Qas l0 x4_1).f1))) (ds := []) #[ff,ff,ff,ff,ff,ff,ff,ff,ff] (by kernel_rfl) rfl rfl ⟨hx122_0, hx122_1, (cb_ HB hw123_0), (cb_ HB hw123_1)⟩ (fun hHeld => ?_); refine Qbe Qaf.tab13 Qaf.bits13 (fun HT_ HW_ => ?_)
                generalize wc.drew = w35 at HO_3 HO_5 HB hx122_0 hx122_1 hx123_0 hx123_1 hHeld ⊢
                refine pz 0 40 ?_; refine pz 1 41 ?_; refine pz 2 42 ?_; refine pz 4 44 ?_; refine pz 5 45 ?_; refine pz 6 46 ?_; refine tk4 3 43 ?_; refine tk4 7 47 ?_; refine pz 8 48 ?_; refine QbW (Qbx HT_.out (by kernel_rfl)) ?_; have p124 : 0 ≤ (x7_2 : Int) := dd_; have q124 : x7_2 < (x3_1.length : Int) := dd_; obtain ⟨ad124, e124, hx124_0, hx124_1⟩ := Qcx (Kd.QaF HO_3.out).2.2 x7_2 p124 q124
                obtain rfl : ad122 = ad124 := (by injection e124)
                replace p124 := eq_true p124; replace q124 := eq_true q124
                try go_wp2_with (first | ((with_reducible refine Qa3 (b := .append) (xs := #[.tmp 49, .tmp 54]) rfl ?_); at_builtin; refine Kd.QbB k27 (w0 := w) w.heap.size rfl (.tmp 49) (.tmp 54) 39 27 (.agg #[(.int .i64 0), (.int .i64 0)]) 16 rfl Tryz.underlying39 info27 rfl (by decide) (by omega) u5 x5_2 (⟨(Qas x3_1 x7_2).f0, (Qas x3_1 x7_2).f1⟩ : S27) [.int .i64 ((Qas x3_1 x7_2).f0), .int .i64 ((Qas x3_1 x7_2).f1)] (fun k_ => some k_ ≠ (.slice (some ad122) x3_1.length co5 : Value).ownBlock) (fun _ => False) rfl rfl ?aP (fun _ hk => hk.elim) ?aF ?aO ?aB ?aS ?aL ?_; (case aP => exact k27_mkM _ _ _ (⟨(Qas x3_1 x7_2).f0, (Qas x3_1 x7_2).f1⟩ : S27)); (case aB => exact bw_); (case aF => exact (fun k_ hk => Kd.fresh' (Kd.R_lt (ro_ HO_3)) k_ hk)); (case aO => exact (ro_ HO_5)); (case aS => exact (QaD bw_)); (case aL => have := LMc34.out; omega); intro v126 w36 ho hb hg hat; rw [← Ny125.out] at ho; have n0_ := Qaa.mk (Kd.QbJ (ok := (fun _ => True)) (by (with_reducible repeat (first | apply Kd.Qax | apply Kd.Qay | apply Kd.QaE)); exact Kd.QaL HO_3.out (fun _ hk => ⟨trivial, hk⟩)) hg hat); have n1_ := Qaa.mk (hb); have n2_ := Qaa.mk (ho); clear HO_3; clear HB; clear HO_5; have HO_3 := n0_; have HB := n1_; have HO127 := n2_; clear n0_ n1_ n2_; clear ho hb hg hat))
                go_roundg kj3
                case measure => have := HK1.out; have := HK2.out; have := HJ3.out; omega
                case rel => exact ⟨(y125), (true), (wrap64 (x7_2 + 1)), (by first | rfl | (simp; done) | (simp [*]; done)), (by first | rfl | (simp; done) | (simp [*]; done)), H', ⟨by have := HK1.out; have := HK2.out; have := HJ3.out; omega⟩, ⟨by (with_reducible repeat (first | apply Kd.Qax | apply Kd.Qay | apply Kd.QaE)); exact Kd.QaL HO_3.out (fun _ hk => hk.2)⟩, ⟨by (with_reducible repeat (first | apply Kd.Qax | apply Kd.Qay | apply Kd.QaE)); exact HO127.out⟩, ⟨bw_⟩⟩
               ·rw [if_neg c34] at H; exact absurd H (by simp)
              ·rw [if_neg c33] at H
               have c33b0 : (((Qas x3_1 x7_2).f0) == ((Qas l0 x4_1).f0) && (((Qas x3_1 x7_2).f1) == ((Qas l0 x4_1).f1))) = false := by simpa using c33
               (try (have c33b1 : decide (((Qas x3_1 x7_2).f0) = ((Qas l0 x4_1).f0) && (((Qas x3_1 x7_2).f1) == ((Qas l0 x4_1).f1))) = false := by simpa using c33))
               (try (have c33b2 : (((Qas x3_1 x7_2).f0) == ((Qas l0 x4_1).f0) && (((Qas x3_1 x7_2).f1) == ((Qas l0 x4_1).f1))) = false := by simpa using c33))
               (try (have c33b3 : ¬ (((Qas x3_1 x7_2).f0) = ((Qas l0 x4_1).f0) && (((Qas x3_1 x7_2).f1) == ((Qas l0 x4_1).f1))) := by simpa using c33))
               clear c33
               by_cases c37 : x5_2.length < 8796093022208
               ·rw [if_pos c37] at H; have LMc37 := Qaa.mk c37; clear c37
                obtain ⟨y129, hy129⟩ : ∃ y_ : List (S27), y_ = (x5_2 ++ [(⟨(Qas x3_1 x7_2).f0, (Qas x3_1 x7_2).f1⟩ : S27)]) := ⟨_, rfl⟩
                replace H : (Qaf.l1 kj3 l0 x3_1 x4_1 y129 x6_2 (wrap64 (x7_2 + 1))) = some r := by first | (rw [hy129]; with_reducible exact H) | (have H2_ := (Option.bind_some _ _).symm.trans H; rw [hy129]; with_reducible exact H2_) | (have H2_ := (Option.bind_some _ _).symm.trans H; with_reducible exact H2_) | with_reducible exact H | (rw [hy129]; exact H) | exact H
                have Ny129 := Qaa.mk hy129; clear hy129; have H' := Qaa.mk H; clear H
                try go_wp2
                replace HO_3 := Qaa.mk (Kd.QaE HO_3.out); replace HO_5 := Qaa.mk (Kd.QaE HO_5.out); replace HB := Qaa.mk (Qan HB.out); have p122 : 0 ≤ (x7_2 : Int) := dd_; have q122 : x7_2 < (x3_1.length : Int) := dd_; obtain ⟨ad122, e122, hx122_0, hx122_1⟩ := Qcx (Kd.QaF HO_3.out).2.2 x7_2 p122 q122; cases e122; replace p122 := eq_true p122; replace q122 := eq_true q122; have p123 : 0 ≤ (x4_1 : Int) := dd_; have q123 : x4_1 < (l0.length : Int) := dd_; obtain ⟨ad123, e123, hx123_0, hx123_1⟩ := Qcx HR0.out x4_1 p123 q123; have hw123_1 := hx123_1; have hw123_0 := hx123_0; cases e123; replace hx123_0 := cb_ HB hx123_0; replace hx123_1 := cb_ HB hx123_1; replace p123 := eq_true p123; replace q123 := eq_true q123; refine Qby (n := 9) (S := fun w' => cr_ii w' (ad122.add ((x7_2).toNat * 2)) ((Qas x3_1 x7_2).f0) ((Qas x3_1 x7_2).f1) (crl_ii w' (ad123.add ((x4_1).toNat * 2)) ((Qas l0 x4_1).f0) ((Qas l0 x4_1).f1))) (ds := []) #[ff,ff,ff,ff,ff,ff,ff,ff,ff] (by kernel_rfl) rfl rfl ⟨hx122_0, hx122_1, (cb_ HB hw123_0), (cb_ HB hw123_1)⟩ (fun hHeld => ?_); refine Qbe Qaf.tab13 Qaf.bits13 (fun HT_ HW_ => ?_)
                generalize wc.drew = w38 at HO_3 HO_5 HB hx122_0 hx122_1 hx123_0 hx123_1 hHeld ⊢
                refine pz 0 40 ?_; refine pz 1 41 ?_; refine pz 2 42 ?_; refine pz 4 44 ?_; refine pz 5 45 ?_; refine pz 6 46 ?_; refine tk4 3 43 ?_; refine tk4 7 47 ?_; refine pz 8 48 ?_; refine QbW (Qbx HT_.out (by kernel_rfl)) ?_; have p128 : 0 ≤ (x7_2 : Int) := dd_; have q128 : x7_2 < (x3_1.length : Int) := dd_; obtain ⟨ad128, e128, hx128_0, hx128_1⟩ := Qcx (Kd.QaF HO_3.out).2.2 x7_2 p128 q128
                obtain rfl : ad122 = ad128 := (by injection e128)
                replace p128 := eq_true p128; replace q128 := eq_true q128
                try go_wp2_with (first | ((with_reducible refine Qa3 (b := .append) (xs := #[.tmp 49, .tmp 54]) rfl ?_); at_builtin; refine Kd.QbB k27 (w0 := w) w.heap.size rfl (.tmp 49) (.tmp 54) 39 27 (.agg #[(.int .i64 0), (.int .i64 0)]) 16 rfl Tryz.underlying39 info27 rfl (by decide) (by omega) u5 x5_2 (⟨(Qas x3_1 x7_2).f0, (Qas x3_1 x7_2).f1⟩ : S27) [.int .i64 ((Qas x3_1 x7_2).f0), .int .i64 ((Qas x3_1 x7_2).f1)] (fun k_ => some k_ ≠ (.slice (some ad122) x3_1.length co5 : Value).ownBlock) (fun _ => False) rfl rfl ?aP (fun _ hk => hk.elim) ?aF ?aO ?aB ?aS ?aL ?_; (case aP => exact k27_mkM _ _ _ (⟨(Qas x3_1 x7_2).f0, (Qas x3_1 x7_2).f1⟩ : S27)); (case aB => exact bw_); (case aF => exact (fun k_ hk => Kd.fresh' (Kd.R_lt (ro_ HO_3)) k_ hk)); (case aO => exact (ro_ HO_5)); (case aS => exact (QaD bw_)); (case aL => have := LMc37.out; omega); intro v130 w39 ho hb hg hat; rw [← Ny129.out] at ho; have n0_ := Qaa.mk (Kd.QbJ (ok := (fun _ => True)) (by (with_reducible repeat (first | apply Kd.Qax | apply Kd.Qay | apply Kd.QaE)); exact Kd.QaL HO_3.out (fun _ hk => ⟨trivial, hk⟩)) hg hat); have n1_ := Qaa.mk (hb); have n2_ := Qaa.mk (ho); clear HO_3; clear HB; clear HO_5; have HO_3 := n0_; have HB := n1_; have HO131 := n2_; clear n0_ n1_ n2_; clear ho hb hg hat))
                go_roundg kj3
                case measure => have := HK1.out; have := HK2.out; have := HJ3.out; omega
                case rel => exact ⟨(y129), (x6_2), (wrap64 (x7_2 + 1)), (by first | rfl | (simp; done) | (simp [*]; done)), (by first | rfl | (simp; done) | (simp [*]; done)), H', ⟨by have := HK1.out; have := HK2.out; have := HJ3.out; omega⟩, ⟨by (with_reducible repeat (first | apply Kd.Qax | apply Kd.Qay | apply Kd.QaE)); exact Kd.QaL HO_3.out (fun _ hk => hk.2)⟩, ⟨by (with_reducible repeat (first | apply Kd.Qax | apply Kd.Qay | apply Kd.QaE)); exact HO131.out⟩, ⟨bw_⟩⟩
               ·rw [if_neg c37] at H; exact absurd H (by simp)
             ·rw [if_neg c32] at H; exact absurd H (by simp)
            ·rw [if_neg c31] at H; exact absurd H (by simp)
           ·rw [if_neg c30] at H; exact absurd H (by simp)
          ·rw [if_neg c29] at H; exact absurd H (by simp)
      ·rw [if_neg c3] at H; have c3b0 : decide (x7_2 < (x3_1.length : Int)) = false := decide_eq_false c3; clear c3
       by_cases c40 : x6_2 = true
       ·subst c40
        have H1 : (Qaf.l0 k2 l0 x5_2 (wrap64 (x4_1 + 1))) = some r := by rw [if_pos rfl] at H; exact H
        clear H; have H := H1; clear H1; have H' := Qaa.mk H; clear H; obtain ⟨Ao41, co41, eo41⟩ := Kd.Qa2 HO_3.out; subst eo41; go_wp2
        go_roundg k2
        case measure => have := HK1.out; have := HK2.out; omega
        case rel => exact ⟨(x5_2), (wrap64 (x4_1 + 1)), (by first | rfl | (simp; done) | (simp [*]; done)), H', ⟨by have := HK1.out; have := HK2.out; omega⟩, ⟨by (with_reducible repeat (first | apply Kd.Qax | apply Kd.Qay | apply Kd.QaE)); exact Kd.QaL HO_5.out (fun _ hk => trivial)⟩, ⟨bw_⟩⟩
       ·replace c40 := Bool.eq_false_iff.mpr c40; subst c40
        have H1 : (if 0 ≤ x4_1 then (if x4_1 < (l0.length : Int) then (if x5_2.length < 8796093022208 then (Qaf.l0 k2 l0 (x5_2 ++ [(⟨(Qas l0 x4_1).f0, (Qas l0 x4_1).f1⟩ : S27)]) (wrap64 (x4_1 + 1))) else (none)) else (none)) else (none)) = some r := by rw [if_neg (show ¬ (false = true) by decide)] at H; exact H
        clear H; have H := H1; clear H1
        by_cases c42 : 0 ≤ x4_1
        ·rw [if_pos c42] at H; have c42b0 : decide (0 ≤ x4_1) = true := decide_eq_true c42; clear c42
         by_cases c43 : x4_1 < (l0.length : Int)
         ·rw [if_pos c43] at H; have c43b0 : decide (x4_1 < (l0.length : Int)) = true := decide_eq_true c43; clear c43
          by_cases c44 : x5_2.length < 8796093022208
          ·rw [if_pos c44] at H; have LMc44 := Qaa.mk c44; clear c44
           obtain ⟨y102, hy102⟩ : ∃ y_ : List (S27), y_ = (x5_2 ++ [(⟨(Qas l0 x4_1).f0, (Qas l0 x4_1).f1⟩ : S27)]) := ⟨_, rfl⟩
           replace H : (Qaf.l0 k2 l0 y102 (wrap64 (x4_1 + 1))) = some r := by first | (rw [hy102]; with_reducible exact H) | (have H2_ := (Option.bind_some _ _).symm.trans H; rw [hy102]; with_reducible exact H2_) | (have H2_ := (Option.bind_some _ _).symm.trans H; with_reducible exact H2_) | with_reducible exact H | (rw [hy102]; exact H) | exact H
           have Ny102 := Qaa.mk hy102; clear hy102; have H' := Qaa.mk H; clear H; obtain ⟨Ao45, co45, eo45⟩ := Kd.Qa2 HO_3.out; subst eo45; have p101 : 0 ≤ (x4_1 : Int) := dd_; have q101 : x4_1 < (l0.length : Int) := dd_; obtain ⟨ad101, e101, hx101_0, hx101_1⟩ := Qcx HR0.out x4_1 p101 q101; cases e101; replace hx101_0 := cb_ HB hx101_0; replace hx101_1 := cb_ HB hx101_1; replace p101 := eq_true p101; replace q101 := eq_true q101
           go_wp2_with (first | ((with_reducible refine Qa3 (b := .append) (xs := #[.tmp 58, .tmp 63]) rfl ?_); at_builtin; refine Kd.QbB k27 (w0 := w) w.heap.size rfl (.tmp 58) (.tmp 63) 39 27 (.agg #[(.int .i64 0), (.int .i64 0)]) 16 rfl Tryz.underlying39 info27 rfl (by decide) (by omega) u5 x5_2 (⟨(Qas l0 x4_1).f0, (Qas l0 x4_1).f1⟩ : S27) [.int .i64 ((Qas l0 x4_1).f0), .int .i64 ((Qas l0 x4_1).f1)] (fun k_ => some k_ ≠ (.slice Ao45 x3_1.length co45 : Value).ownBlock) (fun _ => False) rfl rfl ?aP (fun _ hk => hk.elim) ?aF ?aO ?aB ?aS ?aL ?_; (case aP => exact k27_mkM _ _ _ (⟨(Qas l0 x4_1).f0, (Qas l0 x4_1).f1⟩ : S27)); (case aB => exact bw_); (case aF => exact (fun k_ hk => Kd.fresh' (Kd.R_lt (ro_ HO_3)) k_ hk)); (case aO => exact (ro_ HO_5)); (case aS => exact (QaD bw_)); (case aL => have := LMc44.out; omega); intro v103 w46 ho hb hg hat; rw [← Ny102.out] at ho; have n0_ := Qaa.mk (Kd.QbJ (ok := (fun _ => True)) (by (with_reducible repeat (first | apply Kd.Qax | apply Kd.Qay | apply Kd.QaE)); exact Kd.QaL HO_3.out (fun _ hk => ⟨trivial, hk⟩)) hg hat); have n1_ := Qaa.mk (hb); have n2_ := Qaa.mk (ho); clear HO_3; clear HB; clear HO_5; have HO_3 := n0_; have HB := n1_; have HO104 := n2_; clear n0_ n1_ n2_; clear ho hb hg hat))
           go_roundg k2
           case measure => have := HK1.out; have := HK2.out; omega
           case rel => exact ⟨(y102), (wrap64 (x4_1 + 1)), (by first | rfl | (simp; done) | (simp [*]; done)), H', ⟨by have := HK1.out; have := HK2.out; omega⟩, ⟨by (with_reducible repeat (first | apply Kd.Qax | apply Kd.Qay | apply Kd.QaE)); exact Kd.QaL HO104.out (fun _ hk => trivial)⟩, ⟨bw_⟩⟩
          ·rw [if_neg c44] at H; exact absurd H (by simp)
         ·rw [if_neg c43] at H; exact absurd H (by simp)
        ·rw [if_neg c42] at H; exact absurd H (by simp)
   ·rw [if_neg c2] at H; have c2b0 : decide (x4_1 < (l0.length : Int)) = false := decide_eq_false c2; clear c2; obtain rfl := Option.some.inj H; go_wp2; go_ret; exact ⟨_, by first | rfl | (simp [Qaw, Qav] <;> rfl) | (simp [*, Qaw, Qav] <;> rfl), by (with_reducible repeat (first | apply Kd.Qax | apply Kd.Qay | apply Kd.QaE)); exact HO_3.out, bw_⟩
end
end Go.Proofs.YtbjjgaahdnfflaaGreatDoor.Pr
end
