/- The proof's own texts, joined: part 9. No conditions. -/
import Derived.Test.YtmaipohgahdclaaGreatDoorProg
import Derived.Below
import Derived.Deep.Draws
import Derived.Deep.AppendLies
import Derived.Maps.AppendAt
import Derived.OwnWalk
import Derived.Laws.BytesArg
import Derived.Laws.MakeOwn
import Derived.Laws.OwnMore
import Derived.Deep.OwnRows
import Derived.Tactics
import Derived.Lib.ConvBytes
import Derived.Laws.Slices
import Derived.WalkKit
import Derived.KernelRfl
import Derived.RowKit3
import Derived.Deep.LoopGhost
import Derived.Deep.QuietTactic
import Derived.BigQuiet
import Derived.WideLaws
import Derived.Deep.DeepCutAuto
import Derived.Deep.CutBlock
import Derived.Deep.RegionHeld3
import Derived.Laws.Rows
import Derived.Lib.AppendStr
import Derived.ArgAppend
import Derived.Laws.IdiomCopy
import Derived.OrdersHeld
import Derived.Laws.BitsLemmas
import Derived.RowKit
import Derived.Laws.StructEq
import Derived.Test.YtmaipohgahdclaaGreatDoorPa0
import Derived.Test.YtmaipohgahdclaaGreatDoorPa1
import Derived.Test.YtmaipohgahdclaaGreatDoorPa2
import Derived.Test.YtmaipohgahdclaaGreatDoorPa5
import Derived.Test.YtmaipohgahdclaaGreatDoorPa6
import Derived.Test.YtmaipohgahdclaaGreatDoorPa7
import Derived.Test.YtmaipohgahdclaaGreatDoorPa8
section
namespace Go.Proofs.YtmaipohgahdclaaGreatDoor.Pr
open Go.RowKit Go.Proofs.YtmaipohgahdclaaGreatDoorW.PrintWords Go.Proofs.YtmaipohgahdclaaGreatDoorW.PrintLast Go.Proofs.YtmaipohgahdclaaGreatDoorW.PrintMore
attribute [local go_sem] QaU QaS max_two min_two QaM QaL QaT QaR
set_option linter.unusedVariables false
set_option linter.unusedSimpArgs false
mutual
def Qan.l0 : Nat → List (S42) → List (S56) → Option ((List (S56)))
 | 0, _, _ => none
 | k + 1, x3, x4 => (QaC.f k x3 x4).bind fun t104 => (if (t104.length : Int) = (x4.length : Int) then (Qan.l1 k x4 ([] : List (S56))) else (Qan.l0 k x3 t104))
def Qan.l1 : Nat → List (S56) → List (S56) → Option ((List (S56)))
 | 0, _, _ => none
 | k + 1, x4, x6 => if (x4.length : Int) > 0 then (Qan.l2 k x4 x6 0 1) else (some x6)
def Qan.l2 : Nat → List (S56) → List (S56) → Int → Int → Option ((List (S56)))
 | 0, _, _, _, _ => none
 | k + 1, x4, x6, x7, x8 => if x8 < (x4.length : Int) then (if 0 ≤ x8 then (if 0 ≤ x7 then (if x7 < (x4.length : Int) then ((liveryref06_less.f ((Qap x4 x8).f0.f0) ((Qap x4 x8).f0.f1) ((Qap x4 x8).f1) ((Qap x4 x7).f0.f0) ((Qap x4 x7).f0.f1) ((Qap x4 x7).f1)).bind fun t109 => (if t109 = true then (Qan.l2 k x4 x6 x8 (wrap64 (x8 + 1))) else (Qan.l2 k x4 x6 x7 (wrap64 (x8 + 1))))) else (none)) else (none)) else (none)) else (if 0 ≤ x7 then (if x7 < (x4.length : Int) then (if x6.length < 2932031007402 then (if x7 ≤ (x4.length : Int) then ((some (x4.take (x7 : Int).toNat : List (S56))).bind fun y114 => (if ([] : List (S56)).length + y114.length < 2932031007402 then ((some (([] : List (S56)) ++ y114 : List (S56))).bind fun y118 => (if 0 ≤ (wrap64 (x7 + 1)) then (if (wrap64 (x7 + 1)) ≤ (x4.length : Int) then ((some (x4.drop ((wrap64 (x7 + 1)) : Int).toNat : List (S56))).bind fun y121 => (if y118.length + y121.length < 2932031007402 then (Qan.l1 k (y118 ++ y121) (x6 ++ [(⟨(⟨(Qap x4 x7).f0.f0, (Qap x4 x7).f0.f1⟩ : S24), (Qap x4 x7).f1⟩ : S56)])) else (none))) else (none)) else (none))) else (none))) else (none)) else (none)) else (none)) else (none))
end
def Qan.f (k : Nat) (l0 : List (S42)) : Option ((List (S56))) := (Qav.f k l0).bind fun t101 => (Qan.l0 k t101 ([] : List (S56)))
def Qan.T12 : Bool × List (List Nat × List Nat) := (true, [([], []), ([], []), ([0, 1], [0, 1]), ([2], [2]), ([], []), ([], []), ([4, 5], [4, 5]), ([6], [6]), ([3, 7], [3, 7])])
def Qan.B12 : List Nat := [0, 0, 3, 7, 0, 0, 48, 112, 255]
theorem Qan.tab12 : rtab .any (opsOf Tryz.f20 12) = Qan.T12 := by kernel_rfl
theorem Qan.bits12 : waitsOk Qan.T12.2 Qan.B12 = true := by kernel_rfl
set_option maxHeartbeats 8000000 in
set_option maxRecDepth 100000 in
theorem Qan.calls (k : Nat) (A0 : Option Addr) (c0 : Nat) (l0 : List (S42)) (r : List (S56)) (w : World) (hr0 : Kd.C k42 w A0 l0.length l0) (hc0 : l0.length ≤ c0) (h : Qan.f k l0 = some r) :
  Calls Tryz.prog 20 #[.slice A0 l0.length c0] w fun e w' => ∃ v0_ : Value, e = .returned (v0_) ∧ Kd.R k56 56 w' w.heap.size (fun _ => True) v0_ r ∧ Below w.heap.size w w' := by
 have hu56 := Tryz.underlying56; have HR0 := Qad.mk hr0; have HC0 := Qad.mk hc0; clear hr0 hc0; have HB := Qad.mk (Below.refl w.heap.size w); have H : ((Qav.f k l0).bind fun t101 => (Qan.l0 k t101 ([] : List (S56)))) = some r := h; clear h; replace H := Option.bind_eq_some_iff.mp H; obtain ⟨t101, A20, H⟩ := H; replace H : (Qan.l0 k t101 ([] : List (S56))) = some r := H; have A2 := Qad.mk A20; clear A20; have H' := Qad.mk H; clear H; go_enter Tryz.func20, Tryz.ntmps20
 go_wp2_with (first | ((with_reducible refine QaO (f := 35) rfl ?_); refine goesL_ (some 11) rfl rfl Tryz.func35 (by kernel_rfl) rfl #[.slice A0 l0.length c0] rfl (by (try simp only [List.map_toArray, List.map_cons, List.map_nil]); first | done | rfl | (simp only [List.length_drop, List.length_take]; rfl)) ?_; (with_reducible refine (Qav.calls k _ _ l0 t101 _ ?side1 ?side2 A2.out).mono ?_); (case side1 => repeat (first | exact HR0.out | (with_reducible refine Kd.C_alloc ?_ _) | (with_reducible refine Kd.C_drewN ?_ _) | (with_reducible refine Kd.C_drew ?_))); (case side2 => exact HC0.out); rintro e w3 ⟨v102, rfl, ho0, hb⟩; refine ⟨_, rfl, ?_⟩; have n0_ := Qad.mk (Kd.R_lower ho0 (Qas (by repeat (first | (with_reducible first | exact HB.out | apply Qab | apply Qaa | apply Qac) | exact HB.out)))); have n1_ := Qad.mk (Qak (by repeat (first | (with_reducible first | exact HB.out | apply Qab | apply Qaa | apply Qac) | exact HB.out)) hb); clear HB; have HO103 := n0_; have HB := n1_; clear n0_ n1_; (try clear hb); (try clear hb2); (try clear hk); (try clear hi); (try clear ho0)))
 go_loopg [4] k (fun kq v4 w' => ∃ (x4_1 : List (S56)), Qad (Qan.l0 kq t101 x4_1 = some r) ∧ Qad (kq ≤ k) ∧ Qad (Kd.R k42 42 w' w.heap.size (fun _ => True) v102 t101) ∧ Qad (Kd.R k56 56 w' w.heap.size (fun _ => True) v4 x4_1) ∧ Qad (Below w.heap.size w w'))
 case atStart => exact ⟨(([] : List (S56))), H', ⟨Nat.le_refl _⟩, ⟨by (with_reducible repeat (first | apply Kd.Qaw | apply Kd.Qay | apply Kd.QaE)); exact HO103.out⟩, ⟨by first | exact Kd.R_nil _ _ _ _ _ | exact Kd.N_nil _ _ _ _ _ | exact Kd.V_nil _ _ _ _ _ | exact Kd.Q_nil _ _ _ _ _ | exact Kd.S_nil _ _ _ _ _⟩, ⟨by repeat (first | (with_reducible first | exact HB.out | apply Qab | apply Qaa | apply Qac) | exact HB.out)⟩⟩
 case round =>
  clear H'; (try clear c2); (try clear p2); (try clear c3); obtain ⟨x4_1, HA, HK1, HO_3, HO_4, HB⟩ := hrel
  cases gk with
  | zero => exact absurd HA.out (by simp [Qan.l0])
  | succ k1 =>
   have H := HA.out; clear HA; simp only [Qan.l0] at H; replace H := Option.bind_eq_some_iff.mp H; obtain ⟨t104, A40, H⟩ := H; replace H : (if (t104.length : Int) = (x4_1.length : Int) then (Qan.l1 k1 x4_1 ([] : List (S56))) else (Qan.l0 k1 t101 t104)) = some r := H; have A4 := Qad.mk A40; clear A40
   by_cases c5 : (t104.length : Int) = (x4_1.length : Int)
   ·rw [if_pos c5] at H; have c5b0 : ((t104.length : Int) == (x4_1.length : Int)) = true := beq_iff_eq.mpr c5; have c5b1 : ((t104.length : Int) != (x4_1.length : Int)) = false := bne_eq_false_iff_eq.mpr c5
    have c5b2 : (t104.length == x4_1.length) = true := by first | simpa using c5 | (simp at c5 ⊢; omega)
    clear c5; have H' := Qad.mk H; clear H; obtain ⟨Ao6, co6, eo6⟩ := Kd.R_slice HO_3.out; subst eo6; obtain ⟨Ao7, co7, eo7⟩ := Kd.R_slice HO_4.out; subst eo7
    go_wp2_with (first | ((with_reducible refine QaO (f := 36) rfl ?_); refine goesL_ (some 14) rfl rfl Tryz.func36 (by kernel_rfl) rfl #[.slice Ao6 t101.length co6, .slice Ao7 x4_1.length co7] rfl (by (try simp only [List.map_toArray, List.map_cons, List.map_nil]); first | done | rfl | (simp only [List.length_drop, List.length_take]; rfl)) ?_; (with_reducible refine (QaC.calls k1 _ _ t101 _ _ x4_1 t104 _ ?side1 ?side2 ?side3 ?side4 A4.out).mono ?_); (case side1 => repeat (first | exact (Kd.QaQ HO_3.out).2.2 | (with_reducible refine Kd.C_alloc ?_ _) | (with_reducible refine Kd.C_drewN ?_ _) | (with_reducible refine Kd.C_drew ?_))); (case side2 => exact (Kd.QaQ HO_3.out).2.1); (case side3 => repeat (first | exact (Kd.QaQ HO_4.out).2.2 | (with_reducible refine Kd.C_alloc ?_ _) | (with_reducible refine Kd.C_drewN ?_ _) | (with_reducible refine Kd.C_drew ?_))); (case side4 => exact (Kd.QaQ HO_4.out).2.1); rintro e w8 ⟨v105, rfl, ho0, hb⟩; refine ⟨_, rfl, ?_⟩; have n0_ := Qad.mk (Kd.R_below (by (with_reducible repeat (first | apply Kd.Qaw | apply Kd.Qay | apply Kd.QaE)); exact HO_3.out) hb); have n1_ := Qad.mk (Kd.R_elder' (by (with_reducible repeat (first | apply Kd.Qaw | apply Kd.Qay | apply Kd.QaE)); exact HO_4.out) (Kd.R_base ho0) hb); have n2_ := Qad.mk (Kd.R_lower (Kd.R_new' ho0 (Kd.R_lt (by (with_reducible repeat (first | apply Kd.Qaw | apply Kd.Qay | apply Kd.QaE)); exact HO_4.out))) (Qas (by repeat (first | (with_reducible first | exact HB.out | apply Qab | apply Qaa | apply Qac) | exact HB.out)))); have n3_ := Qad.mk (Qak (by repeat (first | (with_reducible first | exact HB.out | apply Qab | apply Qaa | apply Qac) | exact HB.out)) hb); clear HO_3; clear HO_4; clear HB; have HO_3 := n0_; have HO_4 := n1_; have HO106 := n2_; have HB := n3_; clear n0_ n1_ n2_ n3_; (try clear hb); (try clear hb2); (try clear hk); (try clear hi); (try clear ho0); obtain ⟨Ao9, co9, eo9⟩ := Kd.R_slice HO106.out; subst eo9))
    go_loopg [4, 6] k1 (fun kq v4 v6 w' => ∃ (x4_2 : List (S56)) (x6_2 : List (S56)), Qad (Qan.l1 kq x4_2 x6_2 = some r) ∧ Qad (kq ≤ k1) ∧ Qad (Kd.R k56 56 w' w.heap.size (fun k_ => some k_ ≠ (v6 : Value).ownBlock) v4 x4_2) ∧ Qad (Kd.R k56 56 w' w.heap.size (fun k_ => some k_ ≠ (v4 : Value).ownBlock) v6 x6_2) ∧ Qad (Below w.heap.size w w'))
    case atStart => exact ⟨(x4_1), (([] : List (S56))), H', ⟨Nat.le_refl _⟩, ⟨by (with_reducible repeat (first | apply Kd.Qaw | apply Kd.Qay | apply Kd.QaE)); exact Kd.R_mono HO_4.out (fun _ hk => (by simp [Value.ownBlock]))⟩, ⟨by first | exact Kd.R_nil _ _ _ _ _ | exact Kd.N_nil _ _ _ _ _ | exact Kd.V_nil _ _ _ _ _ | exact Kd.Q_nil _ _ _ _ _ | exact Kd.S_nil _ _ _ _ _⟩, ⟨by repeat (first | (with_reducible first | exact HB.out | apply Qab | apply Qaa | apply Qac) | exact HB.out)⟩⟩
    case round =>
     clear H'; (try clear c2); (try clear p2); (try clear c3); (try clear c5); (try clear c5b0); (try clear c5b1); (try clear c5b2); (try clear p2); obtain ⟨x4_2, x6_2, HA, HK2, HO_4, HO_6, HB⟩ := hrel
     cases gk with
     | zero => exact absurd HA.out (by simp [Qan.l1])
     | succ k2 =>
      have H := HA.out; clear HA; simp only [Qan.l1] at H
      by_cases c10 : (x4_2.length : Int) > 0
      ·rw [if_pos c10] at H; have c10b0 : decide (0 < (x4_2.length : Int)) = true := decide_eq_true c10; have c10b1 : decide (0 < x4_2.length) = true := decide_eq_true (by omega); clear c10; have H' := Qad.mk H; clear H; obtain ⟨Ao11, co11, eo11⟩ := Kd.R_slice HO_4.out; subst eo11; go_wp2
       go_loopg [7, 8] k2 (fun kq v7 v8 w' => ∃ (x7_3 : Int) (x8_3 : Int), v7 = .int .i64 x7_3 ∧ v8 = .int .i64 x8_3 ∧ Qad (Qan.l2 kq x4_2 x6_2 x7_3 x8_3 = some r) ∧ Qad (kq ≤ k2) ∧ Qad (Kd.R k56 56 w' w.heap.size (fun k_ => some k_ ≠ (u6 : Value).ownBlock) (.slice Ao11 x4_2.length co11) x4_2) ∧ Qad (Kd.R k56 56 w' w.heap.size (fun k_ => some k_ ≠ ((.slice Ao11 x4_2.length co11) : Value).ownBlock) u6 x6_2) ∧ Qad (Below w.heap.size w w'))
       case atStart => exact ⟨(0), (1), (by first | rfl | (simp; done) | (simp [*]; done)), (by first | rfl | (simp; done) | (simp [*]; done)), H', ⟨Nat.le_refl _⟩, ⟨by (with_reducible repeat (first | apply Kd.Qaw | apply Kd.Qay | apply Kd.QaE)); exact HO_4.out⟩, ⟨by (with_reducible repeat (first | apply Kd.Qaw | apply Kd.Qay | apply Kd.QaE)); exact HO_6.out⟩, ⟨by repeat (first | (with_reducible first | exact HB.out | apply Qab | apply Qaa | apply Qac) | exact HB.out)⟩⟩
       case round =>
        clear H'; (try clear c1); (try clear c2); (try clear p2); (try clear c3); (try clear c5); (try clear c5b0); (try clear c5b1); (try clear c5b2); (try clear c10); (try clear c10b0); (try clear c10b1); (try clear p2); obtain ⟨x7_3, x8_3, rfl, rfl, HA, HK3, HO_4, HO_6, HB⟩ := hrel
        cases gk with
        | zero => exact absurd HA.out (by simp [Qan.l2])
        | succ k3 =>
         have H := HA.out; clear HA; simp only [Qan.l2] at H
         by_cases c12 : x8_3 < (x4_2.length : Int)
         ·rw [if_pos c12] at H; have c12b0 : decide (x8_3 < (x4_2.length : Int)) = true := decide_eq_true c12; clear c12
          by_cases c13 : 0 ≤ x8_3
          ·rw [if_pos c13] at H; have c13b0 : decide (0 ≤ x8_3) = true := decide_eq_true c13; clear c13
           by_cases c14 : 0 ≤ x7_3
           ·rw [if_pos c14] at H; have c14b0 : decide (0 ≤ x7_3) = true := decide_eq_true c14; clear c14
            by_cases c15 : x7_3 < (x4_2.length : Int)
            ·rw [if_pos c15] at H; have c15b0 : decide (x7_3 < (x4_2.length : Int)) = true := decide_eq_true c15; clear c15; replace H := Option.bind_eq_some_iff.mp H; obtain ⟨t109, A160, H⟩ := H; replace H : (if t109 = true then (Qan.l2 k3 x4_2 x6_2 x8_3 (wrap64 (x8_3 + 1))) else (Qan.l2 k3 x4_2 x6_2 x7_3 (wrap64 (x8_3 + 1)))) = some r := H; have A16 := Qad.mk A160; clear A160
             by_cases c17 : t109 = true
             ·subst c17
              have H1 : (Qan.l2 k3 x4_2 x6_2 x8_3 (wrap64 (x8_3 + 1))) = some r := by rw [if_pos rfl] at H; exact H
              clear H; have H := H1; clear H1; have H' := Qad.mk H; clear H
              try go_wp2
              have n0_ := Qad.mk (Kd.QaE HO_4.out); have n1_ := Qad.mk (Kd.QaE HO_6.out); have n2_ := Qad.mk (Qac HB.out); clear HO_4; clear HO_6; clear HB; have HO_4 := n0_; have HO_6 := n1_; have HB := n2_; clear n0_ n1_ n2_; have p107 : 0 ≤ (x8_3 : Int) := of_decide_eq_true (by first | (with_reducible assumption) | assumption); have q107 : x8_3 < (x4_2.length : Int) := of_decide_eq_true (by first | (with_reducible assumption) | assumption); obtain ⟨ad107, e107, hx107_0, hx107_1, hx107_2⟩ := at_T56 (Kd.QaQ HO_4.out).2.2 x8_3 p107 q107; cases e107; replace p107 := eq_true p107; replace q107 := eq_true q107; have p108 : 0 ≤ (x7_3 : Int) := of_decide_eq_true (by first | (with_reducible assumption) | assumption); have q108 : x7_3 < (x4_2.length : Int) := of_decide_eq_true (by first | (with_reducible assumption) | assumption); obtain ⟨ad108, e108, hx108_0, hx108_1, hx108_2⟩ := at_T56 (Kd.QaQ HO_4.out).2.2 x7_3 p108 q108
              obtain rfl : ad107 = ad108 := (by injection e108)
              replace p108 := eq_true p108; replace q108 := eq_true q108; refine start_ (n := 9) (S := fun w' => w'.cell? (ad107.add ((x8_3).toNat * 3)) = some (.string ((Qap x4_2 x8_3).f0.f0)) ∧ w'.cell? ⟨(ad107.add ((x8_3).toNat * 3)).block, (ad107.add ((x8_3).toNat * 3)).off + 1, none⟩ = some (.string ((Qap x4_2 x8_3).f0.f1)) ∧ w'.cell? ⟨(ad107.add ((x8_3).toNat * 3)).block, (ad107.add ((x8_3).toNat * 3)).off + 2, none⟩ = some (.string ((Qap x4_2 x8_3).f1)) ∧ w'.cell? (ad107.add ((x7_3).toNat * 3)) = some (.string ((Qap x4_2 x7_3).f0.f0)) ∧ w'.cell? ⟨(ad107.add ((x7_3).toNat * 3)).block, (ad107.add ((x7_3).toNat * 3)).off + 1, none⟩ = some (.string ((Qap x4_2 x7_3).f0.f1)) ∧ w'.cell? ⟨(ad107.add ((x7_3).toNat * 3)).block, (ad107.add ((x7_3).toNat * 3)).off + 2, none⟩ = some (.string ((Qap x4_2 x7_3).f1))) (ds := []) #[ff,ff,ff,ff,ff,ff,ff,ff,ff] (by kernel_rfl) rfl rfl ⟨hx107_0, hx107_1, hx107_2, hx108_0, hx108_1, hx108_2⟩ (fun hHeld => ?_); refine with_tabW Qan.tab12 Qan.bits12 (fun HT_ HW_ => ?_)
              generalize wr.drew = w18 at HO_4 HO_6 HB hx107_0 hx107_1 hx107_2 hx108_0 hx108_1 hx108_2 hHeld ⊢
              refine QaI (i := 0) (N := some 30) (v := ?_) (a' := ?_) #[tt,ff,ff,ff,ff,ff,ff,ff,ff] rfl rfl (QaA HT_.out (by kernel_rfl)) (fun _ _ _ h => h) (Or.inl ⟨by rfl, ?_⟩) ?_ ?_; rotate_left
              ·intro w'; go_simp; (with_reducible rfl)
              rotate_left
              ·simp only [Act.put, put_, Qax, Qaz]; rfl
              refine QaI (i := 1) (N := some 31) (v := ?_) (a' := ?_) #[tt,tt,ff,ff,ff,ff,ff,ff,ff] rfl rfl (QaA HT_.out (by kernel_rfl)) (fun _ _ _ h => h) (Or.inl ⟨by rfl, ?_⟩) ?_ ?_; rotate_left
              ·intro w'; go_simp; (with_reducible rfl)
              rotate_left
              ·simp only [Act.put, put_, Qax, Qaz]; rfl
              refine QaI (i := 2) (N := some 32) (v := ?_) (a' := ?_) #[tt,tt,tt,ff,ff,ff,ff,ff,ff] rfl rfl (QaA HT_.out (by kernel_rfl)) (fun _ _ _ h => h) (Or.inl ⟨by rfl, ?_⟩) ?_ ?_; rotate_left
              ·intro w'; go_simp; (with_reducible rfl)
              rotate_left
              ·simp only [Act.put, put_, Qax, Qaz]; rfl
              refine QaI (i := 4) (N := some 34) (v := ?_) (a' := ?_) #[tt,tt,tt,ff,tt,ff,ff,ff,ff] rfl rfl (QaA HT_.out (by kernel_rfl)) (fun _ _ _ h => h) (Or.inl ⟨by rfl, ?_⟩) ?_ ?_; rotate_left
              ·intro w'; go_simp; (with_reducible rfl)
              rotate_left
              ·simp only [Act.put, put_, Qax, Qaz]; rfl
              refine QaI (i := 5) (N := some 35) (v := ?_) (a' := ?_) #[tt,tt,tt,ff,tt,tt,ff,ff,ff] rfl rfl (QaA HT_.out (by kernel_rfl)) (fun _ _ _ h => h) (Or.inl ⟨by rfl, ?_⟩) ?_ ?_; rotate_left
              ·intro w'; go_simp; (with_reducible rfl)
              rotate_left
              ·simp only [Act.put, put_, Qax, Qaz]; rfl
              refine QaI (i := 6) (N := some 36) (v := ?_) (a' := ?_) #[tt,tt,tt,ff,tt,tt,tt,ff,ff] rfl rfl (QaA HT_.out (by kernel_rfl)) (fun _ _ _ h => h) (Or.inl ⟨by rfl, ?_⟩) ?_ ?_; rotate_left
              ·intro w'; go_simp; (with_reducible rfl)
              rotate_left
              ·simp only [Act.put, put_, Qax, Qaz]; rfl
              refine take_ (i := 3) (N := some 33) (v := ?_) (a' := ?_) #[tt,tt,tt,tt,tt,tt,tt,ff,ff] rfl rfl (take_ofW HT_.out HW_.out (by kernel_rfl)) (fun _ _ _ h => h) (Or.inl ⟨by rfl, ?_⟩) hHeld ?_ ?_; rotate_left
              ·rintro w' ⟨s0, s1, s2, s3, s4, s5⟩; go_simp; (with_reducible rfl)
              rotate_left
              ·simp only [Act.put, put_, Qax, Qaz]; rfl
              refine take_ (i := 7) (N := some 37) (v := ?_) (a' := ?_) #[tt,tt,tt,tt,tt,tt,tt,tt,ff] rfl rfl (take_ofW HT_.out HW_.out (by kernel_rfl)) (fun _ _ _ h => h) (Or.inl ⟨by rfl, ?_⟩) hHeld ?_ ?_; rotate_left
              ·rintro w' ⟨s0, s1, s2, s3, s4, s5⟩; go_simp; (with_reducible rfl)
              rotate_left
              ·simp only [Act.put, put_, Qax, Qaz]; rfl
              refine one_ (i := 8) (N := some 38) #[tt,tt,tt,tt,tt,tt,tt,tt,tt] rfl rfl (one_of HT_.out (by kernel_rfl)) (by decide) (fun K hK => ?_); refine goes_ Tryz.func37 (by kernel_rfl) rfl #[.agg #[.string ((Qap x4_2 x8_3).f0.f0), .string ((Qap x4_2 x8_3).f0.f1), .string ((Qap x4_2 x8_3).f1)], .agg #[.string ((Qap x4_2 x7_3).f0.f0), .string ((Qap x4_2 x7_3).f0.f1), .string ((Qap x4_2 x7_3).f1)]] (by rfl) rfl rfl (by (try simp only [List.map_toArray, List.map_cons, List.map_nil]); first | done | rfl | (simp only [List.length_drop, List.length_take]; rfl)) ?_
              with_reducible refine (liveryref06_less.calls ((Qap x4_2 x8_3).f0.f0) ((Qap x4_2 x8_3).f0.f1) ((Qap x4_2 x8_3).f1) ((Qap x4_2 x7_3).f0.f0) ((Qap x4_2 x7_3).f0.f1) ((Qap x4_2 x7_3).f1) true _ A16.out).mono ?_
              rintro e w19 ⟨rfl, hb⟩; have HS0_ := (hb.cell (World.block_lt_of_cell? _ _ (hHeld.1))).trans (hHeld.1); have HS1_ := (hb.cell (World.block_lt_of_cell? _ _ (hHeld.2.1))).trans (hHeld.2.1); have HS2_ := (hb.cell (World.block_lt_of_cell? _ _ (hHeld.2.2.1))).trans (hHeld.2.2.1); have HS3_ := (hb.cell (World.block_lt_of_cell? _ _ (hHeld.2.2.2.1))).trans (hHeld.2.2.2.1); have HS4_ := (hb.cell (World.block_lt_of_cell? _ _ (hHeld.2.2.2.2.1))).trans (hHeld.2.2.2.2.1); have HS5_ := (hb.cell (World.block_lt_of_cell? _ _ (hHeld.2.2.2.2.2))).trans (hHeld.2.2.2.2.2); refine ⟨_, rfl, ?_⟩; have n0_ := Qad.mk (Kd.R_below (by (with_reducible repeat (first | apply Kd.Qaw | apply Kd.Qay | apply Kd.QaE)); exact HO_4.out) hb); have n1_ := Qad.mk (Kd.R_below (by (with_reducible repeat (first | apply Kd.Qaw | apply Kd.Qay | apply Kd.QaE)); exact HO_6.out) hb); have n2_ := Qad.mk (Qak (by repeat (first | (with_reducible first | exact HB.out | apply Qab | apply Qaa | apply Qac) | exact HB.out)) hb); clear HO_4; clear HO_6; clear HB; have HO_4 := n0_; have HO_6 := n1_; have HB := n2_; clear n0_ n1_ n2_
              (try clear hb)
              (try clear hb2)
              (try clear hk)
              (try clear hi)
              refine hK.out _ _ ⟨HS0_, HS1_, HS2_, HS3_, HS4_, HS5_⟩ (fun hHeld => ?_); clear hK K; refine norm_ (a' := ?_) ?_ ?_; rotate_left
              ·show Act.put _ (some 38) _ = _
               simp only [Act.put, put_, Qax, Qaz]; rfl
              refine done_ (done_of HT_.out (by kernel_rfl)) ?_
              try go_wp2
              go_roundg k3
              case measure => have := HK1.out; have := HK2.out; have := HK3.out; omega
              case rel => exact ⟨(x8_3), (wrap64 (x8_3 + 1)), (by first | rfl | (simp; done) | (simp [*]; done)), (by first | rfl | (simp; done) | (simp [*]; done)), H', ⟨by have := HK1.out; have := HK2.out; have := HK3.out; omega⟩, ⟨by (with_reducible repeat (first | apply Kd.Qaw | apply Kd.Qay | apply Kd.QaE)); exact HO_4.out⟩, ⟨by (with_reducible repeat (first | apply Kd.Qaw | apply Kd.Qay | apply Kd.QaE)); exact HO_6.out⟩, ⟨by repeat (first | (with_reducible first | exact HB.out | apply Qab | apply Qaa | apply Qac) | exact HB.out)⟩⟩
             ·replace c17 := Bool.eq_false_iff.mpr c17; subst c17
              have H1 : (Qan.l2 k3 x4_2 x6_2 x7_3 (wrap64 (x8_3 + 1))) = some r := by rw [if_neg (show ¬ (false = true) by decide)] at H; exact H
              clear H; have H := H1; clear H1; have H' := Qad.mk H; clear H
              try go_wp2
              have n0_ := Qad.mk (Kd.QaE HO_4.out); have n1_ := Qad.mk (Kd.QaE HO_6.out); have n2_ := Qad.mk (Qac HB.out); clear HO_4; clear HO_6; clear HB; have HO_4 := n0_; have HO_6 := n1_; have HB := n2_; clear n0_ n1_ n2_; have p107 : 0 ≤ (x8_3 : Int) := of_decide_eq_true (by first | (with_reducible assumption) | assumption); have q107 : x8_3 < (x4_2.length : Int) := of_decide_eq_true (by first | (with_reducible assumption) | assumption); obtain ⟨ad107, e107, hx107_0, hx107_1, hx107_2⟩ := at_T56 (Kd.QaQ HO_4.out).2.2 x8_3 p107 q107; cases e107; replace p107 := eq_true p107; replace q107 := eq_true q107; have p108 : 0 ≤ (x7_3 : Int) := of_decide_eq_true (by first | (with_reducible assumption) | assumption); have q108 : x7_3 < (x4_2.length : Int) := of_decide_eq_true (by first | (with_reducible assumption) | assumption); obtain ⟨ad108, e108, hx108_0, hx108_1, hx108_2⟩ := at_T56 (Kd.QaQ HO_4.out).2.2 x7_3 p108 q108
              obtain rfl : ad107 = ad108 := (by injection e108)
              replace p108 := eq_true p108; replace q108 := eq_true q108; refine start_ (n := 9) (S := fun w' => w'.cell? (ad107.add ((x8_3).toNat * 3)) = some (.string ((Qap x4_2 x8_3).f0.f0)) ∧ w'.cell? ⟨(ad107.add ((x8_3).toNat * 3)).block, (ad107.add ((x8_3).toNat * 3)).off + 1, none⟩ = some (.string ((Qap x4_2 x8_3).f0.f1)) ∧ w'.cell? ⟨(ad107.add ((x8_3).toNat * 3)).block, (ad107.add ((x8_3).toNat * 3)).off + 2, none⟩ = some (.string ((Qap x4_2 x8_3).f1)) ∧ w'.cell? (ad107.add ((x7_3).toNat * 3)) = some (.string ((Qap x4_2 x7_3).f0.f0)) ∧ w'.cell? ⟨(ad107.add ((x7_3).toNat * 3)).block, (ad107.add ((x7_3).toNat * 3)).off + 1, none⟩ = some (.string ((Qap x4_2 x7_3).f0.f1)) ∧ w'.cell? ⟨(ad107.add ((x7_3).toNat * 3)).block, (ad107.add ((x7_3).toNat * 3)).off + 2, none⟩ = some (.string ((Qap x4_2 x7_3).f1))) (ds := []) #[ff,ff,ff,ff,ff,ff,ff,ff,ff] (by kernel_rfl) rfl rfl ⟨hx107_0, hx107_1, hx107_2, hx108_0, hx108_1, hx108_2⟩ (fun hHeld => ?_); refine with_tabW Qan.tab12 Qan.bits12 (fun HT_ HW_ => ?_)
              generalize wr.drew = w20 at HO_4 HO_6 HB hx107_0 hx107_1 hx107_2 hx108_0 hx108_1 hx108_2 hHeld ⊢
              refine QaI (i := 0) (N := some 30) (v := ?_) (a' := ?_) #[tt,ff,ff,ff,ff,ff,ff,ff,ff] rfl rfl (QaA HT_.out (by kernel_rfl)) (fun _ _ _ h => h) (Or.inl ⟨by rfl, ?_⟩) ?_ ?_; rotate_left
              ·intro w'; go_simp; (with_reducible rfl)
              rotate_left
              ·simp only [Act.put, put_, Qax, Qaz]; rfl
              refine QaI (i := 1) (N := some 31) (v := ?_) (a' := ?_) #[tt,tt,ff,ff,ff,ff,ff,ff,ff] rfl rfl (QaA HT_.out (by kernel_rfl)) (fun _ _ _ h => h) (Or.inl ⟨by rfl, ?_⟩) ?_ ?_; rotate_left
              ·intro w'; go_simp; (with_reducible rfl)
              rotate_left
              ·simp only [Act.put, put_, Qax, Qaz]; rfl
              refine QaI (i := 2) (N := some 32) (v := ?_) (a' := ?_) #[tt,tt,tt,ff,ff,ff,ff,ff,ff] rfl rfl (QaA HT_.out (by kernel_rfl)) (fun _ _ _ h => h) (Or.inl ⟨by rfl, ?_⟩) ?_ ?_; rotate_left
              ·intro w'; go_simp; (with_reducible rfl)
              rotate_left
              ·simp only [Act.put, put_, Qax, Qaz]; rfl
              refine QaI (i := 4) (N := some 34) (v := ?_) (a' := ?_) #[tt,tt,tt,ff,tt,ff,ff,ff,ff] rfl rfl (QaA HT_.out (by kernel_rfl)) (fun _ _ _ h => h) (Or.inl ⟨by rfl, ?_⟩) ?_ ?_; rotate_left
              ·intro w'; go_simp; (with_reducible rfl)
              rotate_left
              ·simp only [Act.put, put_, Qax, Qaz]; rfl
              refine QaI (i := 5) (N := some 35) (v := ?_) (a' := ?_) #[tt,tt,tt,ff,tt,tt,ff,ff,ff] rfl rfl (QaA HT_.out (by kernel_rfl)) (fun _ _ _ h => h) (Or.inl ⟨by rfl, ?_⟩) ?_ ?_; rotate_left
              ·intro w'; go_simp; (with_reducible rfl)
              rotate_left
              ·simp only [Act.put, put_, Qax, Qaz]; rfl
              refine QaI (i := 6) (N := some 36) (v := ?_) (a' := ?_) #[tt,tt,tt,ff,tt,tt,tt,ff,ff] rfl rfl (QaA HT_.out (by kernel_rfl)) (fun _ _ _ h => h) (Or.inl ⟨by rfl, ?_⟩) ?_ ?_; rotate_left
              ·intro w'; go_simp; (with_reducible rfl)
              rotate_left
              ·simp only [Act.put, put_, Qax, Qaz]; rfl
              refine take_ (i := 3) (N := some 33) (v := ?_) (a' := ?_) #[tt,tt,tt,tt,tt,tt,tt,ff,ff] rfl rfl (take_ofW HT_.out HW_.out (by kernel_rfl)) (fun _ _ _ h => h) (Or.inl ⟨by rfl, ?_⟩) hHeld ?_ ?_; rotate_left
              ·rintro w' ⟨s0, s1, s2, s3, s4, s5⟩; go_simp; (with_reducible rfl)
              rotate_left
              ·simp only [Act.put, put_, Qax, Qaz]; rfl
              refine take_ (i := 7) (N := some 37) (v := ?_) (a' := ?_) #[tt,tt,tt,tt,tt,tt,tt,tt,ff] rfl rfl (take_ofW HT_.out HW_.out (by kernel_rfl)) (fun _ _ _ h => h) (Or.inl ⟨by rfl, ?_⟩) hHeld ?_ ?_; rotate_left
              ·rintro w' ⟨s0, s1, s2, s3, s4, s5⟩; go_simp; (with_reducible rfl)
              rotate_left
              ·simp only [Act.put, put_, Qax, Qaz]; rfl
              refine one_ (i := 8) (N := some 38) #[tt,tt,tt,tt,tt,tt,tt,tt,tt] rfl rfl (one_of HT_.out (by kernel_rfl)) (by decide) (fun K hK => ?_); refine goes_ Tryz.func37 (by kernel_rfl) rfl #[.agg #[.string ((Qap x4_2 x8_3).f0.f0), .string ((Qap x4_2 x8_3).f0.f1), .string ((Qap x4_2 x8_3).f1)], .agg #[.string ((Qap x4_2 x7_3).f0.f0), .string ((Qap x4_2 x7_3).f0.f1), .string ((Qap x4_2 x7_3).f1)]] (by rfl) rfl rfl (by (try simp only [List.map_toArray, List.map_cons, List.map_nil]); first | done | rfl | (simp only [List.length_drop, List.length_take]; rfl)) ?_
              with_reducible refine (liveryref06_less.calls ((Qap x4_2 x8_3).f0.f0) ((Qap x4_2 x8_3).f0.f1) ((Qap x4_2 x8_3).f1) ((Qap x4_2 x7_3).f0.f0) ((Qap x4_2 x7_3).f0.f1) ((Qap x4_2 x7_3).f1) false _ A16.out).mono ?_
              rintro e w21 ⟨rfl, hb⟩; have HS0_ := (hb.cell (World.block_lt_of_cell? _ _ (hHeld.1))).trans (hHeld.1); have HS1_ := (hb.cell (World.block_lt_of_cell? _ _ (hHeld.2.1))).trans (hHeld.2.1); have HS2_ := (hb.cell (World.block_lt_of_cell? _ _ (hHeld.2.2.1))).trans (hHeld.2.2.1); have HS3_ := (hb.cell (World.block_lt_of_cell? _ _ (hHeld.2.2.2.1))).trans (hHeld.2.2.2.1); have HS4_ := (hb.cell (World.block_lt_of_cell? _ _ (hHeld.2.2.2.2.1))).trans (hHeld.2.2.2.2.1); have HS5_ := (hb.cell (World.block_lt_of_cell? _ _ (hHeld.2.2.2.2.2))).trans (hHeld.2.2.2.2.2); refine ⟨_, rfl, ?_⟩; have n0_ := Qad.mk (Kd.R_below (by (with_reducible repeat (first | apply Kd.Qaw | apply Kd.Qay | apply Kd.QaE)); exact HO_4.out) hb); have n1_ := Qad.mk (Kd.R_below (by (with_reducible repeat (first | apply Kd.Qaw | apply Kd.Qay | apply Kd.QaE)); exact HO_6.out) hb); have n2_ := Qad.mk (Qak (by repeat (first | (with_reducible first | exact HB.out | apply Qab | apply Qaa | apply Qac) | exact HB.out)) hb); clear HO_4; clear HO_6; clear HB; have HO_4 := n0_; have HO_6 := n1_; have HB := n2_; clear n0_ n1_ n2_
              (try clear hb)
              (try clear hb2)
              (try clear hk)
              (try clear hi)
              refine hK.out _ _ ⟨HS0_, HS1_, HS2_, HS3_, HS4_, HS5_⟩ (fun hHeld => ?_); clear hK K; refine norm_ (a' := ?_) ?_ ?_; rotate_left
              ·show Act.put _ (some 38) _ = _
               simp only [Act.put, put_, Qax, Qaz]; rfl
              refine done_ (done_of HT_.out (by kernel_rfl)) ?_
              try go_wp2
              go_roundg k3
              case measure => have := HK1.out; have := HK2.out; have := HK3.out; omega
              case rel => exact ⟨(x7_3), (wrap64 (x8_3 + 1)), (by first | rfl | (simp; done) | (simp [*]; done)), (by first | rfl | (simp; done) | (simp [*]; done)), H', ⟨by have := HK1.out; have := HK2.out; have := HK3.out; omega⟩, ⟨by (with_reducible repeat (first | apply Kd.Qaw | apply Kd.Qay | apply Kd.QaE)); exact HO_4.out⟩, ⟨by (with_reducible repeat (first | apply Kd.Qaw | apply Kd.Qay | apply Kd.QaE)); exact HO_6.out⟩, ⟨by repeat (first | (with_reducible first | exact HB.out | apply Qab | apply Qaa | apply Qac) | exact HB.out)⟩⟩
            ·rw [if_neg c15] at H; exact absurd H (by simp)
           ·rw [if_neg c14] at H; exact absurd H (by simp)
          ·rw [if_neg c13] at H; exact absurd H (by simp)
         ·rw [if_neg c12] at H; have c12b0 : decide (x8_3 < (x4_2.length : Int)) = false := decide_eq_false c12; clear c12
          by_cases c22 : 0 ≤ x7_3
          ·rw [if_pos c22] at H; have c22b0 : decide (0 ≤ x7_3) = true := decide_eq_true c22; clear c22
           by_cases c23 : x7_3 < (x4_2.length : Int)
           ·rw [if_pos c23] at H; have c23b0 : decide (x7_3 < (x4_2.length : Int)) = true := decide_eq_true c23; clear c23
            by_cases c24 : x6_2.length < 2932031007402
            ·rw [if_pos c24] at H; have LMc24 := Qad.mk c24; clear c24
             obtain ⟨y111, hy111⟩ : ∃ y_ : List (S56), y_ = (x6_2 ++ [(⟨(⟨(Qap x4_2 x7_3).f0.f0, (Qap x4_2 x7_3).f0.f1⟩ : S24), (Qap x4_2 x7_3).f1⟩ : S56)]) := ⟨_, rfl⟩
             replace H : (if x7_3 ≤ (x4_2.length : Int) then ((some (x4_2.take (x7_3 : Int).toNat : List (S56))).bind fun y114 => (if ([] : List (S56)).length + y114.length < 2932031007402 then ((some (([] : List (S56)) ++ y114 : List (S56))).bind fun y118 => (if 0 ≤ (wrap64 (x7_3 + 1)) then (if (wrap64 (x7_3 + 1)) ≤ (x4_2.length : Int) then ((some (x4_2.drop ((wrap64 (x7_3 + 1)) : Int).toNat : List (S56))).bind fun y121 => (if y118.length + y121.length < 2932031007402 then (Qan.l1 k3 (y118 ++ y121) y111) else (none))) else (none)) else (none))) else (none))) else (none)) = some r := by first | (rw [hy111]; with_reducible exact H) | (have H2_ := (Option.bind_some _ _).symm.trans H; rw [hy111]; with_reducible exact H2_) | (have H2_ := (Option.bind_some _ _).symm.trans H; with_reducible exact H2_) | with_reducible exact H | (rw [hy111]; exact H) | exact H
             have Ny111 := Qad.mk hy111; clear hy111; have c25b0 := eq_true (of_decide_eq_true (by first | (with_reducible assumption) | assumption) : 0 ≤ x7_3)
             by_cases c26 : x7_3 ≤ (x4_2.length : Int)
             ·rw [if_pos c26] at H; have c26b0 := eq_true c26; have c26b1 : decide (x7_3 ≤ (x4_2.length : Int)) = true := decide_eq_true c26; clear c26
              obtain ⟨y114, hy114⟩ : ∃ y_ : List (S56), y_ = (x4_2.take (x7_3 : Int).toNat) := ⟨_, rfl⟩
              replace H : (if ([] : List (S56)).length + y114.length < 2932031007402 then ((some (([] : List (S56)) ++ y114 : List (S56))).bind fun y118 => (if 0 ≤ (wrap64 (x7_3 + 1)) then (if (wrap64 (x7_3 + 1)) ≤ (x4_2.length : Int) then ((some (x4_2.drop ((wrap64 (x7_3 + 1)) : Int).toNat : List (S56))).bind fun y121 => (if y118.length + y121.length < 2932031007402 then (Qan.l1 k3 (y118 ++ y121) y111) else (none))) else (none)) else (none))) else (none)) = some r := by first | (rw [hy114]; with_reducible exact H) | (have H2_ := (Option.bind_some _ _).symm.trans H; rw [hy114]; with_reducible exact H2_) | (have H2_ := (Option.bind_some _ _).symm.trans H; with_reducible exact H2_) | with_reducible exact H | (rw [hy114]; exact H) | exact H
              have Ny114 := Qad.mk hy114; clear hy114
              by_cases c27 : ([] : List (S56)).length + y114.length < 2932031007402
              ·rw [if_pos c27] at H; have LMc27 := Qad.mk c27; clear c27
               obtain ⟨y118, hy118⟩ : ∃ y_ : List (S56), y_ = (([] : List (S56)) ++ y114) := ⟨_, rfl⟩
               replace H : (if 0 ≤ (wrap64 (x7_3 + 1)) then (if (wrap64 (x7_3 + 1)) ≤ (x4_2.length : Int) then ((some (x4_2.drop ((wrap64 (x7_3 + 1)) : Int).toNat : List (S56))).bind fun y121 => (if y118.length + y121.length < 2932031007402 then (Qan.l1 k3 (y118 ++ y121) y111) else (none))) else (none)) else (none)) = some r := by first | (rw [hy118]; with_reducible exact H) | (have H2_ := (Option.bind_some _ _).symm.trans H; rw [hy118]; with_reducible exact H2_) | (have H2_ := (Option.bind_some _ _).symm.trans H; with_reducible exact H2_) | with_reducible exact H | (rw [hy118]; exact H) | exact H
               have Ny118 := Qad.mk hy118; clear hy118
               obtain ⟨ji28, hji28⟩ : ∃ j_ : Int, (wrap64 (x7_3 + 1)) = j_ := ⟨_, rfl⟩
               replace H : (if 0 ≤ (ji28) then (if (ji28) ≤ (x4_2.length : Int) then ((some (x4_2.drop ((ji28) : Int).toNat : List (S56))).bind fun y121 => (if y118.length + y121.length < 2932031007402 then (Qan.l1 k3 (y118 ++ y121) y111) else (none))) else (none)) else (none)) = some r := by first | (rw [hji28] at H; exact H) | (simp only [hji28] at H ⊢; exact H)
               have hji28w : (IntKind.i64.wrap (x7_3 + 1)) = ji28 := (Qax _).trans hji28
               by_cases c29 : 0 ≤ (ji28)
               ·rw [if_pos c29] at H; have c29b0 := eq_true c29; have c29b1 : decide (0 ≤ (ji28)) = true := decide_eq_true c29; clear c29
                by_cases c30 : (ji28) ≤ (x4_2.length : Int)
                ·rw [if_pos c30] at H; have c30b0 := eq_true c30; have c30b1 : decide ((ji28) ≤ (x4_2.length : Int)) = true := decide_eq_true c30; clear c30
                 obtain ⟨y121, hy121⟩ : ∃ y_ : List (S56), y_ = (x4_2.drop ((ji28) : Int).toNat) := ⟨_, rfl⟩
                 replace H : (if y118.length + y121.length < 2932031007402 then (Qan.l1 k3 (y118 ++ y121) y111) else (none)) = some r := by first | (rw [hy121]; with_reducible exact H) | (have H2_ := (Option.bind_some _ _).symm.trans H; rw [hy121]; with_reducible exact H2_) | (have H2_ := (Option.bind_some _ _).symm.trans H; with_reducible exact H2_) | with_reducible exact H | (rw [hy121]; exact H) | exact H
                 have Ny121 := Qad.mk hy121; clear hy121
                 by_cases c31 : y118.length + y121.length < 2932031007402
                 ·rw [if_pos c31] at H; have LMc31 := Qad.mk c31; clear c31
                  obtain ⟨y125, hy125⟩ : ∃ y_ : List (S56), y_ = (y118 ++ y121) := ⟨_, rfl⟩
                  replace H : (Qan.l1 k3 y125 y111) = some r := by first | (rw [hy125]; with_reducible exact H) | (have H2_ := (Option.bind_some _ _).symm.trans H; rw [hy125]; with_reducible exact H2_) | (have H2_ := (Option.bind_some _ _).symm.trans H; with_reducible exact H2_) | with_reducible exact H | (rw [hy125]; exact H) | exact H
                  have Ny125 := Qad.mk hy125; clear hy125; have H' := Qad.mk H; clear H; have p110 : 0 ≤ (x7_3 : Int) := of_decide_eq_true (by first | (with_reducible assumption) | assumption); have q110 : x7_3 < (x4_2.length : Int) := of_decide_eq_true (by first | (with_reducible assumption) | assumption); obtain ⟨ad110, e110, hx110_0, hx110_1, hx110_2⟩ := at_T56 (Kd.QaQ HO_4.out).2.2 x7_3 p110 q110; cases e110; replace p110 := eq_true p110; replace q110 := eq_true q110
                  go_wp2_with (first | ((with_reducible refine gate_builtin (b := .append) (xs := #[.tmp 40, .tmp 45]) rfl ?_); at_builtin; refine Kd.R_append k56 (w0 := w) w.heap.size rfl (.tmp 40) (.tmp 45) 54 56 (.agg #[(.string ⟨#[]⟩), (.string ⟨#[]⟩), (.string ⟨#[]⟩)]) 48 rfl Tryz.underlying54 info56 rfl (by decide) (by omega) u6 x6_2 (⟨(⟨(Qap x4_2 x7_3).f0.f0, (Qap x4_2 x7_3).f0.f1⟩ : S24), (Qap x4_2 x7_3).f1⟩ : S56) [.string ((Qap x4_2 x7_3).f0.f0), .string ((Qap x4_2 x7_3).f0.f1), .string ((Qap x4_2 x7_3).f1)] (fun k_ => some k_ ≠ (.slice (some ad110) x4_2.length co11 : Value).ownBlock) (fun _ => False) rfl rfl ?aP (fun _ hk => hk.elim) ?aF ?aO ?aB ?aS ?aL ?_; (case aP => exact k56_mkM _ _ _ (⟨(⟨(Qap x4_2 x7_3).f0.f0, (Qap x4_2 x7_3).f0.f1⟩ : S24), (Qap x4_2 x7_3).f1⟩ : S56)); (case aB => exact (by repeat (first | (with_reducible first | exact HB.out | apply Qab | apply Qaa | apply Qac) | exact HB.out))); (case aF => exact (fun k_ hk => Kd.fresh' (Kd.R_lt (by (with_reducible repeat (first | apply Kd.Qaw | apply Kd.Qay | apply Kd.QaE)); exact HO_4.out)) k_ hk)); (case aO => exact (by (with_reducible repeat (first | apply Kd.Qaw | apply Kd.Qay | apply Kd.QaE)); exact HO_6.out)); (case aS => exact (Qas (by repeat (first | (with_reducible first | exact HB.out | apply Qab | apply Qaa | apply Qac) | exact HB.out)))); (case aL => have := LMc24.out; omega); intro v112 w32 ho hb hg hat; rw [← Ny111.out] at ho; have n0_ := Qad.mk (Kd.R_after (ok := (fun _ => True)) (by (with_reducible repeat (first | apply Kd.Qaw | apply Kd.Qay | apply Kd.QaE)); exact Kd.R_mono HO_4.out (fun _ hk => ⟨trivial, hk⟩)) hg hat); have n1_ := Qad.mk (hb); have n2_ := Qad.mk (ho); clear HO_4; clear HB; clear HO_6; have HO_4 := n0_; have HB := n1_; have HO113 := n2_; clear n0_ n1_ n2_; clear ho hb hg hat; have q33 : (x7_3 : Int) ≤ ((x4_2.length : Int) : Int) := of_decide_eq_true (by first | (with_reducible assumption) | assumption); obtain ⟨i033, hi033, _, hsz33, _⟩ := info_parts info56; have hroom33 : x4_2.length ≤ co11 := (Kd.QaQ HO_4.out).2.1; have hC33 : Kd.C k56 _ (some ad110) x4_2.length x4_2 := (Kd.QaQ HO_4.out).2.2; have hcut33 := cut_to (P := Tryz.prog) 54 56 .i64 Tryz.underlying54 hi033 (some ad110) x4_2.length co11 x7_3 (of_decide_eq_true (by first | (with_reducible assumption) | assumption)) q33 hroom33; have hr33 := Kd.C_take (m := (x7_3 : Int).toNat) hC33 (by omega); have hy33 : y114.length = (x7_3 : Int).toNat := (by rw [Ny114.out, List.length_take]; omega); rw [← Ny114.out] at hr33; rw [← hy33] at hcut33; have HR117 := Qad.mk hr33; have HC117 := Qad.mk (show y114.length ≤ co11 from by omega); clear hr33 hC33 hroom33 hi033 hsz33; have KY33 := Qad.mk hy33; clear hy33; have KL33 := Qad.mk (show (x7_3 : Int).toNat ≤ x4_2.length from by omega); replace q33 := eq_true q33) | ((with_reducible refine gate_builtin (b := .append) (xs := #[.tmp 47, .tmp 50]) rfl ?_); at_builtin; refine Kd.R_append_rows k56 (w0 := w) w.heap.size rfl (.tmp 47) (.tmp 50) 54 56 (.agg #[(.string ⟨#[]⟩), (.string ⟨#[]⟩), (.string ⟨#[]⟩)]) 48 rfl Tryz.underlying54 info56 rfl (by decide) (by omega) (.slice none 0 0) ([] : List (S56)) y114 _ _ _ (fun k_ => some k_ ≠ (.slice (some ad110) x4_2.length co11 : Value).ownBlock ∧ some k_ ≠ (v112 : Value).ownBlock) (fun _ => False) rfl rfl ?aO ?aR (fun _ _ h => h) (fun _ h => h.elim) ?aF ?aB ?aS ?aL ?_; (case aR => repeat (first | exact (by repeat (first | (with_reducible exact HR117.out) | (with_reducible refine Kd.C_alloc ?_ _) | (with_reducible refine Kd.C_drewN ?_ _) | (with_reducible refine Kd.C_drew ?_) | exact HR117.out)) | (with_reducible refine Kd.C_alloc ?_ _) | (with_reducible refine Kd.C_drewN ?_ _) | (with_reducible refine Kd.C_drew ?_))); (case aB => exact (by repeat (first | (with_reducible first | exact HB.out | apply Qab | apply Qaa | apply Qac) | exact HB.out))); (case aF => exact (fun k_ hk => ⟨Kd.fresh' (Kd.R_lt (by (with_reducible repeat (first | apply Kd.Qaw | apply Kd.Qay | apply Kd.QaE)); exact HO_4.out)) k_ hk, Kd.fresh' (Kd.R_lt (by (with_reducible repeat (first | apply Kd.Qaw | apply Kd.Qay | apply Kd.QaE)); exact HO113.out)) k_ hk⟩)); (case aO => exact ((Kd.R_nil _ _ _ _ (fun k_ => some k_ ≠ (.slice (some ad110) x4_2.length co11 : Value).ownBlock ∧ some k_ ≠ (v112 : Value).ownBlock)))); (case aS => exact (Qas (by repeat (first | (with_reducible first | exact HB.out | apply Qab | apply Qaa | apply Qac) | exact HB.out)))); (case aL => have := LMc27.out; omega); intro v119 w34 ho hb hg hat; rw [← Ny118.out] at ho; have n0_ := Qad.mk (Kd.R_after (Kd.R_apart_nil (by (with_reducible repeat (first | apply Kd.Qaw | apply Kd.Qay | apply Kd.QaE)); exact HO_4.out)) hg hat); have n1_ := Qad.mk (Kd.R_after (Kd.R_apart_nil (by (with_reducible repeat (first | apply Kd.Qaw | apply Kd.Qay | apply Kd.QaE)); exact HO113.out)) hg hat); have n2_ := Qad.mk (hb); have n3_ := Qad.mk ((show Kd.C k56 w34 (some ad110) y114.length y114 from by rw [Ny114.out]; exact Kd.C_take (m := (x7_3 : Int).toNat) ((Kd.QaQ (Kd.R_after (Kd.R_apart_nil (by (with_reducible repeat (first | apply Kd.Qaw | apply Kd.Qay | apply Kd.QaE)); exact HO_4.out)) hg hat)).2.2) KL33.out)); have n4_ := Qad.mk (ho); clear HO_4; clear HO113; clear HB; clear HR117; have HO_4 := n0_; have HO113 := n1_; have HB := n2_; have HR117 := n3_; have HO120 := n4_; clear n0_ n1_ n2_ n3_ n4_; clear ho hb hg hat; have q35 : ((ji28) : Int) ≤ ((x4_2.length : Int) : Int) := of_decide_eq_true (by first | (with_reducible assumption) | assumption); obtain ⟨i035, hi035, _, hsz35, _⟩ := info_parts info56; have hroom35 : x4_2.length ≤ co11 := (Kd.QaQ HO_4.out).2.1; have hC35 : Kd.C k56 _ (some ad110) x4_2.length x4_2 := (Kd.QaQ HO_4.out).2.2; have q035 : (0 : Int) ≤ ((ji28) : Int) := of_decide_eq_true (by first | (with_reducible assumption) | assumption); have hcut35 := cut_from (P := Tryz.prog) 54 56 .i64 Tryz.underlying54 hi035 3 hsz35 (some ad110) x4_2.length co11 (ji28) q035 q35; have hr35 := Kd.C_drop (m := ((ji28) : Int).toNat) (c := co11) hC35 (by omega) hroom35; obtain ⟨A35, hA35⟩ : ∃ A1, A1 = (if co11 = ((ji28) : Int).toNat then (some ad110) else ((some ad110) : Option Addr).map (·.add (((ji28) : Int).toNat * 3))) := ⟨_, rfl⟩; obtain ⟨c35, hc35⟩ : ∃ c1, c1 = co11 - ((ji28) : Int).toNat := ⟨_, rfl⟩; have hy35 : y121.length = x4_2.length - ((ji28) : Int).toNat := (by rw [Ny121.out, List.length_drop] <;> omega); rw [show (x4_2).drop ((ji28) : Int).toNat = y121 from Ny121.out.symm] at hr35; replace hr35 : Kd.C k56 _ A35 y121.length y121 := (by rw [hA35]; exact hr35); rw [← hy35, ← hA35, ← hc35] at hcut35; have HR124 := Qad.mk hr35; have HC124 := Qad.mk (show y121.length ≤ c35 from by rw [hy35, hc35]; exact Nat.sub_le_sub_right hroom35 _); clear hr35 hC35 hroom35 hi035 hsz35 hc35; have KY35 := Qad.mk hy35; have KA35 := Qad.mk hA35; clear hy35 hA35; have KL35 := Qad.mk (show ((ji28) : Int).toNat ≤ x4_2.length from by omega); replace q35 := eq_true q35) | ((with_reducible refine gate_builtin (b := .append) (xs := #[.tmp 52, .tmp 56]) rfl ?_); at_builtin; refine Kd.R_append_rows k56 (w0 := w) w.heap.size rfl (.tmp 52) (.tmp 56) 54 56 (.agg #[(.string ⟨#[]⟩), (.string ⟨#[]⟩), (.string ⟨#[]⟩)]) 48 rfl Tryz.underlying54 info56 rfl (by decide) (by omega) v119 y118 y121 _ _ _ (fun k_ => some k_ ≠ (.slice (some ad110) x4_2.length co11 : Value).ownBlock ∧ some k_ ≠ (v112 : Value).ownBlock) (fun _ => False) rfl rfl ?aO ?aR (fun _ _ h => h) (fun _ h => h.elim) ?aF ?aB ?aS ?aL ?_; (case aR => repeat (first | exact (by repeat (first | (with_reducible exact HR124.out) | (with_reducible refine Kd.C_alloc ?_ _) | (with_reducible refine Kd.C_drewN ?_ _) | (with_reducible refine Kd.C_drew ?_) | exact HR124.out)) | (with_reducible refine Kd.C_alloc ?_ _) | (with_reducible refine Kd.C_drewN ?_ _) | (with_reducible refine Kd.C_drew ?_))); (case aB => exact (by repeat (first | (with_reducible first | exact HB.out | apply Qab | apply Qaa | apply Qac) | exact HB.out))); (case aF => exact (fun k_ hk => ⟨Kd.fresh' (Kd.R_lt (by (with_reducible repeat (first | apply Kd.Qaw | apply Kd.Qay | apply Kd.QaE)); exact HO_4.out)) k_ hk, Kd.fresh' (Kd.R_lt (by (with_reducible repeat (first | apply Kd.Qaw | apply Kd.Qay | apply Kd.QaE)); exact HO113.out)) k_ hk⟩)); (case aO => exact (by (with_reducible repeat (first | apply Kd.Qaw | apply Kd.Qay | apply Kd.QaE)); exact HO120.out)); (case aS => exact (Qas (by repeat (first | (with_reducible first | exact HB.out | apply Qab | apply Qaa | apply Qac) | exact HB.out)))); (case aL => have := LMc31.out; omega); intro v126 w36 ho hb hg hat; rw [← Ny125.out] at ho; have n0_ := Qad.mk (Kd.R_after (ok := (fun k_ => some k_ ≠ (v112 : Value).ownBlock)) (by (with_reducible repeat (first | apply Kd.Qaw | apply Kd.Qay | apply Kd.QaE)); exact Kd.R_mono HO_4.out (fun _ hk => ⟨hk.1.2, hk.2⟩)) hg hat); have n1_ := Qad.mk (Kd.R_after (ok := (fun k_ => some k_ ≠ (.slice (some ad110) x4_2.length co11 : Value).ownBlock)) (by (with_reducible repeat (first | apply Kd.Qaw | apply Kd.Qay | apply Kd.QaE)); exact HO113.out) hg hat); have n2_ := Qad.mk (hb); have n3_ := Qad.mk ((show Kd.C k56 w36 (some ad110) y114.length y114 from by rw [Ny114.out]; exact Kd.C_take (m := (x7_3 : Int).toNat) ((Kd.QaQ (Kd.R_after (ok := (fun k_ => some k_ ≠ (v112 : Value).ownBlock)) (by (with_reducible repeat (first | apply Kd.Qaw | apply Kd.Qay | apply Kd.QaE)); exact Kd.R_mono HO_4.out (fun _ hk => ⟨hk.1.2, hk.2⟩)) hg hat)).2.2) KL33.out)); have n4_ := Qad.mk ((show Kd.C k56 w36 A35 y121.length y121 from by rw [Ny121.out, KA35.out]; exact Kd.C_drop (m := ((ji28) : Int).toNat) (c := co11) ((Kd.QaQ (Kd.R_after (ok := (fun k_ => some k_ ≠ (v112 : Value).ownBlock)) (by (with_reducible repeat (first | apply Kd.Qaw | apply Kd.Qay | apply Kd.QaE)); exact Kd.R_mono HO_4.out (fun _ hk => ⟨hk.1.2, hk.2⟩)) hg hat)).2.2) KL35.out ((Kd.QaQ (Kd.R_after (ok := (fun k_ => some k_ ≠ (v112 : Value).ownBlock)) (by (with_reducible repeat (first | apply Kd.Qaw | apply Kd.Qay | apply Kd.QaE)); exact Kd.R_mono HO_4.out (fun _ hk => ⟨hk.1.2, hk.2⟩)) hg hat)).2.1))); have n5_ := Qad.mk (ho); clear HO_4; clear HO113; clear HB; clear HR117; clear HR124; clear HO120; have HO_4 := n0_; have HO113 := n1_; have HB := n2_; have HR117 := n3_; have HR124 := n4_; have HO127 := n5_; clear n0_ n1_ n2_ n3_ n4_ n5_; clear ho hb hg hat))
                  go_roundg k3
                  case measure => have := HK1.out; have := HK2.out; have := HK3.out; omega
                  case rel => exact ⟨(y125), (y111), H', ⟨by have := HK1.out; have := HK2.out; have := HK3.out; omega⟩, ⟨by (with_reducible repeat (first | apply Kd.Qaw | apply Kd.Qay | apply Kd.QaE)); exact Kd.R_mono HO127.out (fun _ hk => hk.2)⟩, ⟨by (with_reducible repeat (first | apply Kd.Qaw | apply Kd.Qay | apply Kd.QaE)); exact Kd.R_mono HO113.out (fun _ hk => hk.2)⟩, ⟨by repeat (first | (with_reducible first | exact HB.out | apply Qab | apply Qaa | apply Qac) | exact HB.out)⟩⟩
                 ·rw [if_neg c31] at H; exact absurd H (by simp)
                ·rw [if_neg c30] at H; exact absurd H (by simp)
               ·rw [if_neg c29] at H; exact absurd H (by simp)
              ·rw [if_neg c27] at H; exact absurd H (by simp)
             ·rw [if_neg c26] at H; exact absurd H (by simp)
            ·rw [if_neg c24] at H; exact absurd H (by simp)
           ·rw [if_neg c23] at H; exact absurd H (by simp)
          ·rw [if_neg c22] at H; exact absurd H (by simp)
      ·rw [if_neg c10] at H; have c10b0 : decide (0 < (x4_2.length : Int)) = false := decide_eq_false c10; have c10b1 : decide (0 < x4_2.length) = false := decide_eq_false (by omega); clear c10; obtain rfl := Option.some.inj H; obtain ⟨Ao37, co37, eo37⟩ := Kd.R_slice HO_4.out; subst eo37; go_wp2; go_ret; exact ⟨_, by first | rfl | (simp [Qar, Qaq] <;> rfl) | (simp [*, Qar, Qaq] <;> rfl), by (with_reducible repeat (first | apply Kd.Qaw | apply Kd.Qay | apply Kd.QaE)); exact Kd.R_mono HO_6.out (fun _ hk => trivial), by repeat (first | (with_reducible first | exact HB.out | apply Qab | apply Qaa | apply Qac) | exact HB.out)⟩
   ·rw [if_neg c5] at H; have c5b0 : ((t104.length : Int) == (x4_1.length : Int)) = false := beq_eq_false_iff_ne.mpr c5; have c5b1 : ((t104.length : Int) != (x4_1.length : Int)) = true := bne_iff_ne.mpr c5
    have c5b2 : (t104.length == x4_1.length) = false := by first | simpa using c5 | (simp at c5 ⊢; omega)
    have H' := Qad.mk H; clear H; obtain ⟨Ao38, co38, eo38⟩ := Kd.R_slice HO_3.out; subst eo38; obtain ⟨Ao39, co39, eo39⟩ := Kd.R_slice HO_4.out; subst eo39
    go_wp2_with (first | ((with_reducible refine QaO (f := 36) rfl ?_); refine goesL_ (some 14) rfl rfl Tryz.func36 (by kernel_rfl) rfl #[.slice Ao38 t101.length co38, .slice Ao39 x4_1.length co39] rfl (by (try simp only [List.map_toArray, List.map_cons, List.map_nil]); first | done | rfl | (simp only [List.length_drop, List.length_take]; rfl)) ?_; (with_reducible refine (QaC.calls k1 _ _ t101 _ _ x4_1 t104 _ ?side1 ?side2 ?side3 ?side4 A4.out).mono ?_); (case side1 => repeat (first | exact (Kd.QaQ HO_3.out).2.2 | (with_reducible refine Kd.C_alloc ?_ _) | (with_reducible refine Kd.C_drewN ?_ _) | (with_reducible refine Kd.C_drew ?_))); (case side2 => exact (Kd.QaQ HO_3.out).2.1); (case side3 => repeat (first | exact (Kd.QaQ HO_4.out).2.2 | (with_reducible refine Kd.C_alloc ?_ _) | (with_reducible refine Kd.C_drewN ?_ _) | (with_reducible refine Kd.C_drew ?_))); (case side4 => exact (Kd.QaQ HO_4.out).2.1); rintro e w40 ⟨v105, rfl, ho0, hb⟩; refine ⟨_, rfl, ?_⟩; have n0_ := Qad.mk (Kd.R_below (by (with_reducible repeat (first | apply Kd.Qaw | apply Kd.Qay | apply Kd.QaE)); exact HO_3.out) hb); have n1_ := Qad.mk (Kd.R_elder' (by (with_reducible repeat (first | apply Kd.Qaw | apply Kd.Qay | apply Kd.QaE)); exact HO_4.out) (Kd.R_base ho0) hb); have n2_ := Qad.mk (Kd.R_lower (Kd.R_new' ho0 (Kd.R_lt (by (with_reducible repeat (first | apply Kd.Qaw | apply Kd.Qay | apply Kd.QaE)); exact HO_4.out))) (Qas (by repeat (first | (with_reducible first | exact HB.out | apply Qab | apply Qaa | apply Qac) | exact HB.out)))); have n3_ := Qad.mk (Qak (by repeat (first | (with_reducible first | exact HB.out | apply Qab | apply Qaa | apply Qac) | exact HB.out)) hb); clear HO_3; clear HO_4; clear HB; have HO_3 := n0_; have HO_4 := n1_; have HO106 := n2_; have HB := n3_; clear n0_ n1_ n2_ n3_; (try clear hb); (try clear hb2); (try clear hk); (try clear hi); (try clear ho0); obtain ⟨Ao41, co41, eo41⟩ := Kd.R_slice HO106.out; subst eo41))
    go_roundg k1
    case measure => have := HK1.out; omega
    case rel => exact ⟨(t104), H', ⟨by have := HK1.out; omega⟩, ⟨by (with_reducible repeat (first | apply Kd.Qaw | apply Kd.Qay | apply Kd.QaE)); exact HO_3.out⟩, ⟨by (with_reducible repeat (first | apply Kd.Qaw | apply Kd.Qay | apply Kd.QaE)); exact Kd.R_mono HO106.out (fun _ hk => trivial)⟩, ⟨by repeat (first | (with_reducible first | exact HB.out | apply Qab | apply Qaa | apply Qac) | exact HB.out)⟩⟩
end Go.Proofs.YtmaipohgahdclaaGreatDoor.Pr
end
