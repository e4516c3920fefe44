/- The proof's own texts, joined: part 5. No conditions. -/
import Derived.Laws.StructEq
import Derived.Below
import Derived.Deep.Draws
import Derived.Deep.AppendLies
import Derived.Maps.AppendAt
import Derived.OwnWalk
import Derived.Laws.BytesArg
import Derived.Laws.MakeOwn
import Derived.Laws.OwnMore
import Derived.Deep.OwnRows
import Derived.Tactics
import Derived.Lib.ConvBytes
import Derived.Laws.Slices
import Derived.WalkKit
import Derived.KernelRfl
import Derived.RowKit3
import Derived.Deep.LoopGhost
import Derived.Deep.QuietTactic
import Derived.BigQuiet
import Derived.WideLaws
import Derived.Deep.DeepCutAuto
import Derived.Deep.CutBlock
import Derived.Deep.RegionHeld3
import Derived.Laws.Rows
import Derived.Lib.AppendStr
import Derived.ArgAppend
import Derived.Laws.IdiomCopy
import Derived.RowKit
import Derived.OrdersHeld
import Derived.Laws.BitsLemmas
import Derived.Test.YtbjjgaahdnfflaaDoorProg
import Derived.Test.YtbjjgaahdnfflaaDoorPa0
import Derived.Test.YtbjjgaahdnfflaaDoorPa1
section
namespace Go.Proofs.YtbjjgaahdnfflaaDoor.Pr
open Go.RowKit Go.Proofs.YtbjjgaahdnfflaaDoorW.PrintWords Go.Proofs.YtbjjgaahdnfflaaDoorW.PrintLast Go.Proofs.YtbjjgaahdnfflaaDoorW.PrintMore
attribute [local go_sem] max2_int min2_int max_two min_two max_three min_three max_four min_four
set_option linter.unusedVariables false
set_option linter.unusedSimpArgs false
mutual
def Qan.l0 : Nat → List (S42) → List (S42) → Option ((List (S42)))
 | 0, _, _ => none
 | k + 1, x0, x3 => if (x0.length : Int) > 0 then (Qan.l1 k x0 x3 0 1) else (some x3)
def Qan.l1 : Nat → List (S42) → List (S42) → Int → Int → Option ((List (S42)))
 | 0, _, _, _, _ => none
 | k + 1, x0, x3, x4, x5 => if x5 < (x0.length : Int) then (if 0 ≤ x5 then (if 0 ≤ x4 then (if x4 < (x0.length : Int) then ((liveryref05_Before.f ((Qam x0 x5).f0.f0) ((Qam x0 x5).f0.f1) ((Qam x0 x4).f0.f0) ((Qam x0 x4).f0.f1)).bind fun t103 => (if t103 = true then (Qan.l1 k x0 x3 x5 (wrap64 (x5 + 1))) else (Qan.l1 k x0 x3 x4 (wrap64 (x5 + 1))))) else (none)) else (none)) else (none)) else (if 0 ≤ x4 then (if x4 < (x0.length : Int) then (if x3.length < 1172812402961 then (if x4 ≤ (x0.length : Int) then ((some (x0.take (x4 : Int).toNat : List (S42))).bind fun y108 => (if ([] : List (S42)).length + y108.length < 1172812402961 then ((some (([] : List (S42)) ++ y108 : List (S42))).bind fun y113 => (if 0 ≤ (wrap64 (x4 + 1)) then (if (wrap64 (x4 + 1)) ≤ (x0.length : Int) then ((some (x0.drop ((wrap64 (x4 + 1)) : Int).toNat : List (S42))).bind fun y116 => (if y113.length + y116.length < 1172812402961 then (Qan.l0 k (y113 ++ y116) (x3 ++ [(⟨(⟨(Qam x0 x4).f0.f0, (Qam x0 x4).f0.f1⟩ : S26), (Qam x0 x4).f1, (Qam x0 x4).f2, (Qam x0 x4).f3, (⟨(Qam x0 x4).f4.f0, (Qam x0 x4).f4.f1⟩ : S24), (⟨(Qam x0 x4).f5.f0, (Qam x0 x4).f5.f1⟩ : S24)⟩ : S42)])) else (none))) else (none)) else (none))) else (none))) else (none)) else (none)) else (none)) else (none))
end
def Qan.f (k : Nat) (l0 : List (S42)) : Option ((List (S42))) := Qan.l0 k l0 ([] : List (S42))
def Qan.T7 : Bool × List (List Nat × List Nat) := (true, [([], []), ([], []), ([0, 1], [0, 1]), ([2], [2]), ([3], [3]), ([], []), ([], []), ([5, 6], [5, 6]), ([7], [7]), ([8], [8]), ([4, 9], [4, 9])])
def Qan.B7 : List Nat := [0, 0, 3, 7, 15, 0, 0, 96, 224, 480, 1023]
theorem Qan.tab7 : rtab .any (opsOf Tryd.f20 7) = Qan.T7 := by kernel_rfl
theorem Qan.bits7 : waitsOk Qan.T7.2 Qan.B7 = true := by kernel_rfl
set_option maxHeartbeats 8000000 in
set_option maxRecDepth 100000 in
theorem Qan.calls (k : Nat) (P0_ : Nat → Prop) (A0 : Option Addr) (c0 : Nat) (l0 : List (S42)) (r : List (S42)) (w : World) (hs0 : Kd.V k42 42 w w.heap.size (fun k_ => P0_ k_) (.slice A0 l0.length c0) l0) (h : Qan.f k l0 = some r) :
  Calls Tryd.prog 20 #[.slice A0 l0.length c0] w fun e w' => ∃ v0_ : Value, e = .returned (v0_) ∧ Kd.R k42 42 w' w.heap.size (fun k_ => (w.heap.size ≤ k_)) v0_ r ∧ Below w.heap.size w w' := by
 have hu26 := Tryd.underlying26; have hu42 := Tryd.underlying42; have HO0 := Qad.mk (show Kd.V k42 42 w w.heap.size (fun k_ => (P0_ k_ ∨ w.heap.size ≤ k_)) (.slice A0 l0.length c0) l0 from Kd.V_mono hs0 (fun k_ hk => .inl hk)); have HB := Qad.mk (Below.refl w.heap.size w); have H : (Qan.l0 k l0 ([] : List (S42))) = some r := h; clear h; have H' := Qad.mk H; clear H; go_enter Tryd.func20, Tryd.ntmps20; go_wp2
 go_loopg [0, 3] k (fun kq v0 v3 w' => ∃ (x0_1 : List (S42)) (x3_1 : List (S42)), Qad (Qan.l0 kq x0_1 x3_1 = some r) ∧ Qad (kq ≤ k) ∧ Qad (Kd.V k42 42 w' w.heap.size (fun k_ => (P0_ k_ ∨ w.heap.size ≤ k_) ∧ some k_ ≠ (v3 : Value).ownBlock) v0 x0_1) ∧ Qad (Kd.R k42 42 w' w.heap.size (fun k_ => (w.heap.size ≤ k_)) v3 x3_1) ∧ Qad (Below w.heap.size w w'))
 case atStart => exact ⟨(l0), (([] : List (S42))), H', ⟨Nat.le_refl _⟩, ⟨by (with_reducible repeat (first | apply Kd.V_alloc | apply Kd.V_drewN | apply Kd.V_drew)); exact Kd.V_mono HO0.out (fun _ hk => ⟨hk, (by simp [Value.ownBlock])⟩)⟩, ⟨by first | exact Kd.R_nil _ _ _ _ _ | exact Kd.N_nil _ _ _ _ _ | exact Kd.V_nil _ _ _ _ _ | exact Kd.Q_nil _ _ _ _ _ | exact Kd.S_nil _ _ _ _ _⟩, ⟨by repeat (first | (with_reducible first | exact HB.out | apply Qab | apply Qaa | apply Qac) | exact HB.out)⟩⟩
 case round =>
  clear H'; obtain ⟨x0_1, x3_1, HA, HK1, HO_0, HO_3, HB⟩ := hrel
  cases gk with
  | zero => exact absurd HA.out (by simp [Qan.l0])
  | succ k1 =>
   have H := HA.out; clear HA; simp only [Qan.l0] at H
   by_cases c2 : (x0_1.length : Int) > 0
   ·rw [if_pos c2] at H; have c2b0 : decide (0 < (x0_1.length : Int)) = true := decide_eq_true c2; have c2b1 : decide (0 < x0_1.length) = true := decide_eq_true (by omega); clear c2; have H' := Qad.mk H; clear H; obtain ⟨Ao3, co3, eo3⟩ := Kd.V_slice HO_0.out; subst eo3; go_wp2
    go_loopg [4, 5] k1 (fun kq v4 v5 w' => ∃ (x4_2 : Int) (x5_2 : Int), v4 = .int .i64 x4_2 ∧ v5 = .int .i64 x5_2 ∧ Qad (Qan.l1 kq x0_1 x3_1 x4_2 x5_2 = some r) ∧ Qad (kq ≤ k1) ∧ Qad (Kd.V k42 42 w' w.heap.size (fun k_ => (P0_ k_ ∨ w.heap.size ≤ k_) ∧ some k_ ≠ (u3 : Value).ownBlock) (.slice Ao3 x0_1.length co3) x0_1) ∧ Qad (Kd.R k42 42 w' w.heap.size (fun k_ => (w.heap.size ≤ k_)) u3 x3_1) ∧ Qad (Below w.heap.size w w'))
    case atStart => exact ⟨(0), (1), (by first | rfl | (simp; done) | (simp [*]; done)), (by first | rfl | (simp; done) | (simp [*]; done)), H', ⟨Nat.le_refl _⟩, ⟨by (with_reducible repeat (first | apply Kd.V_alloc | apply Kd.V_drewN | apply Kd.V_drew)); exact HO_0.out⟩, ⟨by (with_reducible repeat (first | apply Kd.R_alloc | apply Kd.R_drewN | apply Kd.R_drew)); exact HO_3.out⟩, ⟨by repeat (first | (with_reducible first | exact HB.out | apply Qab | apply Qaa | apply Qac) | exact HB.out)⟩⟩
    case round =>
     clear H'; (try clear c2); (try clear c2b0); (try clear c2b1); (try clear p2); obtain ⟨x4_2, x5_2, rfl, rfl, HA, HK2, HO_0, HO_3, HB⟩ := hrel
     cases gk with
     | zero => exact absurd HA.out (by simp [Qan.l1])
     | succ k2 =>
      have H := HA.out; clear HA; simp only [Qan.l1] at H
      by_cases c4 : x5_2 < (x0_1.length : Int)
      ·rw [if_pos c4] at H; have c4b0 : decide (x5_2 < (x0_1.length : Int)) = true := decide_eq_true c4; clear c4
       by_cases c5 : 0 ≤ x5_2
       ·rw [if_pos c5] at H; have c5b0 : decide (0 ≤ x5_2) = true := decide_eq_true c5; clear c5
        by_cases c6 : 0 ≤ x4_2
        ·rw [if_pos c6] at H; have c6b0 : decide (0 ≤ x4_2) = true := decide_eq_true c6; clear c6
         by_cases c7 : x4_2 < (x0_1.length : Int)
         ·rw [if_pos c7] at H; have c7b0 : decide (x4_2 < (x0_1.length : Int)) = true := decide_eq_true c7; clear c7; replace H := Option.bind_eq_some_iff.mp H; obtain ⟨t103, A80, H⟩ := H; replace H : (if t103 = true then (Qan.l1 k2 x0_1 x3_1 x5_2 (wrap64 (x5_2 + 1))) else (Qan.l1 k2 x0_1 x3_1 x4_2 (wrap64 (x5_2 + 1)))) = some r := H; have A8 := Qad.mk A80; clear A80
          by_cases c9 : t103 = true
          ·subst c9
           have H1 : (Qan.l1 k2 x0_1 x3_1 x5_2 (wrap64 (x5_2 + 1))) = some r := by rw [if_pos rfl] at H; exact H
           clear H; have H := H1; clear H1; have H' := Qad.mk H; clear H
           try go_wp2
           have n0_ := Qad.mk (Kd.V_drew HO_0.out); have n1_ := Qad.mk (Kd.R_drew HO_3.out); have n2_ := Qad.mk (Qac HB.out); clear HO_0; clear HO_3; clear HB; have HO_0 := n0_; have HO_3 := n1_; have HB := n2_; clear n0_ n1_ n2_; have p101 : 0 ≤ (x5_2 : Int) := of_decide_eq_true (by first | (with_reducible assumption) | assumption); have q101 : x5_2 < (x0_1.length : Int) := of_decide_eq_true (by first | (with_reducible assumption) | assumption); obtain ⟨ad101, e101, hx101_0, hx101_1, hx101_2, hx101_3, hx101_4, hx101_5, hx101_6, hx101_7, hx101_8⟩ := at_T42 (Kd.V_reads' HO_0.out).2.2 x5_2 p101 q101; cases e101; replace p101 := eq_true p101; replace q101 := eq_true q101; have p102 : 0 ≤ (x4_2 : Int) := of_decide_eq_true (by first | (with_reducible assumption) | assumption); have q102 : x4_2 < (x0_1.length : Int) := of_decide_eq_true (by first | (with_reducible assumption) | assumption); obtain ⟨ad102, e102, hx102_0, hx102_1, hx102_2, hx102_3, hx102_4, hx102_5, hx102_6, hx102_7, hx102_8⟩ := at_T42 (Kd.V_reads' HO_0.out).2.2 x4_2 p102 q102
           obtain rfl : ad101 = ad102 := (by injection e102)
           replace p102 := eq_true p102; replace q102 := eq_true q102; refine start_ (n := 11) (S := fun w' => w'.cell? (ad101.add ((x5_2).toNat * 9)) = some (.int .i64 ((Qam x0_1 x5_2).f0.f0)) ∧ w'.cell? ⟨(ad101.add ((x5_2).toNat * 9)).block, (ad101.add ((x5_2).toNat * 9)).off + 1, none⟩ = some (.int .i64 ((Qam x0_1 x5_2).f0.f1)) ∧ w'.cell? ⟨(ad101.add ((x5_2).toNat * 9)).block, (ad101.add ((x5_2).toNat * 9)).off + 2, none⟩ = some (.string ((Qam x0_1 x5_2).f1)) ∧ w'.cell? ⟨(ad101.add ((x5_2).toNat * 9)).block, (ad101.add ((x5_2).toNat * 9)).off + 3, none⟩ = some (.int .i64 ((Qam x0_1 x5_2).f2)) ∧ w'.cell? ⟨(ad101.add ((x5_2).toNat * 9)).block, (ad101.add ((x5_2).toNat * 9)).off + 4, none⟩ = some (.string ((Qam x0_1 x5_2).f3)) ∧ w'.cell? ⟨(ad101.add ((x5_2).toNat * 9)).block, (ad101.add ((x5_2).toNat * 9)).off + 5, none⟩ = some (.string ((Qam x0_1 x5_2).f4.f0)) ∧ w'.cell? ⟨(ad101.add ((x5_2).toNat * 9)).block, (ad101.add ((x5_2).toNat * 9)).off + 6, none⟩ = some (.string ((Qam x0_1 x5_2).f4.f1)) ∧ w'.cell? ⟨(ad101.add ((x5_2).toNat * 9)).block, (ad101.add ((x5_2).toNat * 9)).off + 7, none⟩ = some (.string ((Qam x0_1 x5_2).f5.f0)) ∧ w'.cell? ⟨(ad101.add ((x5_2).toNat * 9)).block, (ad101.add ((x5_2).toNat * 9)).off + 8, none⟩ = some (.string ((Qam x0_1 x5_2).f5.f1)) ∧ w'.cell? (ad101.add ((x4_2).toNat * 9)) = some (.int .i64 ((Qam x0_1 x4_2).f0.f0)) ∧ w'.cell? ⟨(ad101.add ((x4_2).toNat * 9)).block, (ad101.add ((x4_2).toNat * 9)).off + 1, none⟩ = some (.int .i64 ((Qam x0_1 x4_2).f0.f1)) ∧ w'.cell? ⟨(ad101.add ((x4_2).toNat * 9)).block, (ad101.add ((x4_2).toNat * 9)).off + 2, none⟩ = some (.string ((Qam x0_1 x4_2).f1)) ∧ w'.cell? ⟨(ad101.add ((x4_2).toNat * 9)).block, (ad101.add ((x4_2).toNat * 9)).off + 3, none⟩ = some (.int .i64 ((Qam x0_1 x4_2).f2)) ∧ w'.cell? ⟨(ad101.add ((x4_2).toNat * 9)).block, (ad101.add ((x4_2).toNat * 9)).off + 4, none⟩ = some (.string ((Qam x0_1 x4_2).f3)) ∧ w'.cell? ⟨(ad101.add ((x4_2).toNat * 9)).block, (ad101.add ((x4_2).toNat * 9)).off + 5, none⟩ = some (.string ((Qam x0_1 x4_2).f4.f0)) ∧ w'.cell? ⟨(ad101.add ((x4_2).toNat * 9)).block, (ad101.add ((x4_2).toNat * 9)).off + 6, none⟩ = some (.string ((Qam x0_1 x4_2).f4.f1)) ∧ w'.cell? ⟨(ad101.add ((x4_2).toNat * 9)).block, (ad101.add ((x4_2).toNat * 9)).off + 7, none⟩ = some (.string ((Qam x0_1 x4_2).f5.f0)) ∧ w'.cell? ⟨(ad101.add ((x4_2).toNat * 9)).block, (ad101.add ((x4_2).toNat * 9)).off + 8, none⟩ = some (.string ((Qam x0_1 x4_2).f5.f1))) (ds := []) #[ff,ff,ff,ff,ff,ff,ff,ff,ff,ff,ff] (by kernel_rfl) rfl rfl ⟨hx101_0, hx101_1, hx101_2, hx101_3, hx101_4, hx101_5, hx101_6, hx101_7, hx101_8, hx102_0, hx102_1, hx102_2, hx102_3, hx102_4, hx102_5, hx102_6, hx102_7, hx102_8⟩ (fun hHeld => ?_); refine with_tabW Qan.tab7 Qan.bits7 (fun HT_ HW_ => ?_)
           generalize wr.drew = w10 at HO_0 HO_3 HB hx101_0 hx101_1 hx101_2 hx101_3 hx101_4 hx101_5 hx101_6 hx101_7 hx101_8 hx102_0 hx102_1 hx102_2 hx102_3 hx102_4 hx102_5 hx102_6 hx102_7 hx102_8 hHeld ⊢
           refine pure_ (i := 0) (N := some 16) (v := ?_) (a' := ?_) #[tt,ff,ff,ff,ff,ff,ff,ff,ff,ff,ff] rfl rfl (any_of HT_.out (by kernel_rfl)) (fun _ _ _ h => h) (Or.inl ⟨by rfl, ?_⟩) ?_ ?_; rotate_left
           ·intro w'; go_simp; (with_reducible rfl)
           rotate_left
           ·simp only [Act.put, put_, i64_w, i32_w]; rfl
           refine pure_ (i := 1) (N := some 17) (v := ?_) (a' := ?_) #[tt,tt,ff,ff,ff,ff,ff,ff,ff,ff,ff] rfl rfl (any_of HT_.out (by kernel_rfl)) (fun _ _ _ h => h) (Or.inl ⟨by rfl, ?_⟩) ?_ ?_; rotate_left
           ·intro w'; go_simp; (with_reducible rfl)
           rotate_left
           ·simp only [Act.put, put_, i64_w, i32_w]; rfl
           refine pure_ (i := 2) (N := some 18) (v := ?_) (a' := ?_) #[tt,tt,tt,ff,ff,ff,ff,ff,ff,ff,ff] rfl rfl (any_of HT_.out (by kernel_rfl)) (fun _ _ _ h => h) (Or.inl ⟨by rfl, ?_⟩) ?_ ?_; rotate_left
           ·intro w'; go_simp; (with_reducible rfl)
           rotate_left
           ·simp only [Act.put, put_, i64_w, i32_w]; rfl
           refine pure_ (i := 3) (N := some 19) (v := ?_) (a' := ?_) #[tt,tt,tt,tt,ff,ff,ff,ff,ff,ff,ff] rfl rfl (any_of HT_.out (by kernel_rfl)) (fun _ _ _ h => h) (Or.inl ⟨by rfl, ?_⟩) ?_ ?_; rotate_left
           ·intro w'; go_simp; (with_reducible rfl)
           rotate_left
           ·simp only [Act.put, put_, i64_w, i32_w]; rfl
           refine pure_ (i := 5) (N := some 21) (v := ?_) (a' := ?_) #[tt,tt,tt,tt,ff,tt,ff,ff,ff,ff,ff] rfl rfl (any_of HT_.out (by kernel_rfl)) (fun _ _ _ h => h) (Or.inl ⟨by rfl, ?_⟩) ?_ ?_; rotate_left
           ·intro w'; go_simp; (with_reducible rfl)
           rotate_left
           ·simp only [Act.put, put_, i64_w, i32_w]; rfl
           refine pure_ (i := 6) (N := some 22) (v := ?_) (a' := ?_) #[tt,tt,tt,tt,ff,tt,tt,ff,ff,ff,ff] rfl rfl (any_of HT_.out (by kernel_rfl)) (fun _ _ _ h => h) (Or.inl ⟨by rfl, ?_⟩) ?_ ?_; rotate_left
           ·intro w'; go_simp; (with_reducible rfl)
           rotate_left
           ·simp only [Act.put, put_, i64_w, i32_w]; rfl
           refine pure_ (i := 7) (N := some 23) (v := ?_) (a' := ?_) #[tt,tt,tt,tt,ff,tt,tt,tt,ff,ff,ff] rfl rfl (any_of HT_.out (by kernel_rfl)) (fun _ _ _ h => h) (Or.inl ⟨by rfl, ?_⟩) ?_ ?_; rotate_left
           ·intro w'; go_simp; (with_reducible rfl)
           rotate_left
           ·simp only [Act.put, put_, i64_w, i32_w]; rfl
           refine pure_ (i := 8) (N := some 24) (v := ?_) (a' := ?_) #[tt,tt,tt,tt,ff,tt,tt,tt,tt,ff,ff] rfl rfl (any_of HT_.out (by kernel_rfl)) (fun _ _ _ h => h) (Or.inl ⟨by rfl, ?_⟩) ?_ ?_; rotate_left
           ·intro w'; go_simp; (with_reducible rfl)
           rotate_left
           ·simp only [Act.put, put_, i64_w, i32_w]; rfl
           refine take_ (i := 4) (N := some 20) (v := ?_) (a' := ?_) #[tt,tt,tt,tt,tt,tt,tt,tt,tt,ff,ff] rfl rfl (take_ofW HT_.out HW_.out (by kernel_rfl)) (fun _ _ _ h => h) (Or.inl ⟨by rfl, ?_⟩) hHeld ?_ ?_; rotate_left
           ·rintro w' ⟨s0, s1, s2, s3, s4, s5, s6, s7, s8, s9, s10, s11, s12, s13, s14, s15, s16, s17⟩; go_simp; (with_reducible rfl)
           rotate_left
           ·simp only [Act.put, put_, i64_w, i32_w]; rfl
           refine take_ (i := 9) (N := some 25) (v := ?_) (a' := ?_) #[tt,tt,tt,tt,tt,tt,tt,tt,tt,tt,ff] rfl rfl (take_ofW HT_.out HW_.out (by kernel_rfl)) (fun _ _ _ h => h) (Or.inl ⟨by rfl, ?_⟩) hHeld ?_ ?_; rotate_left
           ·rintro w' ⟨s0, s1, s2, s3, s4, s5, s6, s7, s8, s9, s10, s11, s12, s13, s14, s15, s16, s17⟩; go_simp; (with_reducible rfl)
           rotate_left
           ·simp only [Act.put, put_, i64_w, i32_w]; rfl
           refine one_ (i := 10) (N := some 26) #[tt,tt,tt,tt,tt,tt,tt,tt,tt,tt,tt] rfl rfl (one_of HT_.out (by kernel_rfl)) (by decide) (fun K hK => ?_); refine goes_ Tryd.func30 (by kernel_rfl) rfl #[.agg #[.int .i64 ((Qam x0_1 x5_2).f0.f0), .int .i64 ((Qam x0_1 x5_2).f0.f1)], .agg #[.int .i64 ((Qam x0_1 x4_2).f0.f0), .int .i64 ((Qam x0_1 x4_2).f0.f1)]] (by rfl) rfl rfl (by (try simp only [List.map_toArray, List.map_cons, List.map_nil]); first | done | rfl | (simp only [List.length_drop, List.length_take]; rfl)) ?_
           with_reducible refine (liveryref05_Before.calls ((Qam x0_1 x5_2).f0.f0) ((Qam x0_1 x5_2).f0.f1) ((Qam x0_1 x4_2).f0.f0) ((Qam x0_1 x4_2).f0.f1) true _ A8.out).mono ?_
           rintro e w11 ⟨rfl, hb⟩; have HS0_ := (hb.cell (World.block_lt_of_cell? _ _ (hHeld.1))).trans (hHeld.1); have HS1_ := (hb.cell (World.block_lt_of_cell? _ _ (hHeld.2.1))).trans (hHeld.2.1); have HS2_ := (hb.cell (World.block_lt_of_cell? _ _ (hHeld.2.2.1))).trans (hHeld.2.2.1); have HS3_ := (hb.cell (World.block_lt_of_cell? _ _ (hHeld.2.2.2.1))).trans (hHeld.2.2.2.1); have HS4_ := (hb.cell (World.block_lt_of_cell? _ _ (hHeld.2.2.2.2.1))).trans (hHeld.2.2.2.2.1); have HS5_ := (hb.cell (World.block_lt_of_cell? _ _ (hHeld.2.2.2.2.2.1))).trans (hHeld.2.2.2.2.2.1); have HS6_ := (hb.cell (World.block_lt_of_cell? _ _ (hHeld.2.2.2.2.2.2.1))).trans (hHeld.2.2.2.2.2.2.1); have HS7_ := (hb.cell (World.block_lt_of_cell? _ _ (hHeld.2.2.2.2.2.2.2.1))).trans (hHeld.2.2.2.2.2.2.2.1); have HS8_ := (hb.cell (World.block_lt_of_cell? _ _ (hHeld.2.2.2.2.2.2.2.2.1))).trans (hHeld.2.2.2.2.2.2.2.2.1); have HS9_ := (hb.cell (World.block_lt_of_cell? _ _ (hHeld.2.2.2.2.2.2.2.2.2.1))).trans (hHeld.2.2.2.2.2.2.2.2.2.1); have HS10_ := (hb.cell (World.block_lt_of_cell? _ _ (hHeld.2.2.2.2.2.2.2.2.2.2.1))).trans (hHeld.2.2.2.2.2.2.2.2.2.2.1); have HS11_ := (hb.cell (World.block_lt_of_cell? _ _ (hHeld.2.2.2.2.2.2.2.2.2.2.2.1))).trans (hHeld.2.2.2.2.2.2.2.2.2.2.2.1); have HS12_ := (hb.cell (World.block_lt_of_cell? _ _ (hHeld.2.2.2.2.2.2.2.2.2.2.2.2.1))).trans (hHeld.2.2.2.2.2.2.2.2.2.2.2.2.1); have HS13_ := (hb.cell (World.block_lt_of_cell? _ _ (hHeld.2.2.2.2.2.2.2.2.2.2.2.2.2.1))).trans (hHeld.2.2.2.2.2.2.2.2.2.2.2.2.2.1)
           have HS14_ := (hb.cell (World.block_lt_of_cell? _ _ (hHeld.2.2.2.2.2.2.2.2.2.2.2.2.2.2.1))).trans (hHeld.2.2.2.2.2.2.2.2.2.2.2.2.2.2.1); have HS15_ := (hb.cell (World.block_lt_of_cell? _ _ (hHeld.2.2.2.2.2.2.2.2.2.2.2.2.2.2.2.1))).trans (hHeld.2.2.2.2.2.2.2.2.2.2.2.2.2.2.2.1); have HS16_ := (hb.cell (World.block_lt_of_cell? _ _ (hHeld.2.2.2.2.2.2.2.2.2.2.2.2.2.2.2.2.1))).trans (hHeld.2.2.2.2.2.2.2.2.2.2.2.2.2.2.2.2.1); have HS17_ := (hb.cell (World.block_lt_of_cell? _ _ (hHeld.2.2.2.2.2.2.2.2.2.2.2.2.2.2.2.2.2))).trans (hHeld.2.2.2.2.2.2.2.2.2.2.2.2.2.2.2.2.2); refine ⟨_, rfl, ?_⟩; have n0_ := Qad.mk (Kd.V_below (by (with_reducible repeat (first | apply Kd.V_alloc | apply Kd.V_drewN | apply Kd.V_drew)); exact HO_0.out) hb); have n1_ := Qad.mk (Kd.R_below (by (with_reducible repeat (first | apply Kd.R_alloc | apply Kd.R_drewN | apply Kd.R_drew)); exact HO_3.out) hb); have n2_ := Qad.mk (Qaf (by repeat (first | (with_reducible first | exact HB.out | apply Qab | apply Qaa | apply Qac) | exact HB.out)) hb); clear HO_0; clear HO_3; clear HB; have HO_0 := n0_; have HO_3 := n1_; have HB := n2_; clear n0_ n1_ n2_
           (try clear hb)
           (try clear hb2)
           (try clear hk)
           (try clear hi)
           refine hK.out _ _ ⟨HS0_, HS1_, HS2_, HS3_, HS4_, HS5_, HS6_, HS7_, HS8_, HS9_, HS10_, HS11_, HS12_, HS13_, HS14_, HS15_, HS16_, HS17_⟩ (fun hHeld => ?_); clear hK K; refine norm_ (a' := ?_) ?_ ?_; rotate_left
           ·show Act.put _ (some 26) _ = _
            simp only [Act.put, put_, i64_w, i32_w]; rfl
           refine done_ (done_of HT_.out (by kernel_rfl)) ?_
           try go_wp2
           go_roundg k2
           case measure => have := HK1.out; have := HK2.out; omega
           case rel => exact ⟨(x5_2), (wrap64 (x5_2 + 1)), (by first | rfl | (simp; done) | (simp [*]; done)), (by first | rfl | (simp; done) | (simp [*]; done)), H', ⟨by have := HK1.out; have := HK2.out; omega⟩, ⟨by (with_reducible repeat (first | apply Kd.V_alloc | apply Kd.V_drewN | apply Kd.V_drew)); exact HO_0.out⟩, ⟨by (with_reducible repeat (first | apply Kd.R_alloc | apply Kd.R_drewN | apply Kd.R_drew)); exact HO_3.out⟩, ⟨by repeat (first | (with_reducible first | exact HB.out | apply Qab | apply Qaa | apply Qac) | exact HB.out)⟩⟩
          ·replace c9 := Bool.eq_false_iff.mpr c9; subst c9
           have H1 : (Qan.l1 k2 x0_1 x3_1 x4_2 (wrap64 (x5_2 + 1))) = some r := by rw [if_neg (show ¬ (false = true) by decide)] at H; exact H
           clear H; have H := H1; clear H1; have H' := Qad.mk H; clear H
           try go_wp2
           have n0_ := Qad.mk (Kd.V_drew HO_0.out); have n1_ := Qad.mk (Kd.R_drew HO_3.out); have n2_ := Qad.mk (Qac HB.out); clear HO_0; clear HO_3; clear HB; have HO_0 := n0_; have HO_3 := n1_; have HB := n2_; clear n0_ n1_ n2_; have p101 : 0 ≤ (x5_2 : Int) := of_decide_eq_true (by first | (with_reducible assumption) | assumption); have q101 : x5_2 < (x0_1.length : Int) := of_decide_eq_true (by first | (with_reducible assumption) | assumption); obtain ⟨ad101, e101, hx101_0, hx101_1, hx101_2, hx101_3, hx101_4, hx101_5, hx101_6, hx101_7, hx101_8⟩ := at_T42 (Kd.V_reads' HO_0.out).2.2 x5_2 p101 q101; cases e101; replace p101 := eq_true p101; replace q101 := eq_true q101; have p102 : 0 ≤ (x4_2 : Int) := of_decide_eq_true (by first | (with_reducible assumption) | assumption); have q102 : x4_2 < (x0_1.length : Int) := of_decide_eq_true (by first | (with_reducible assumption) | assumption); obtain ⟨ad102, e102, hx102_0, hx102_1, hx102_2, hx102_3, hx102_4, hx102_5, hx102_6, hx102_7, hx102_8⟩ := at_T42 (Kd.V_reads' HO_0.out).2.2 x4_2 p102 q102
           obtain rfl : ad101 = ad102 := (by injection e102)
           replace p102 := eq_true p102; replace q102 := eq_true q102; refine start_ (n := 11) (S := fun w' => w'.cell? (ad101.add ((x5_2).toNat * 9)) = some (.int .i64 ((Qam x0_1 x5_2).f0.f0)) ∧ w'.cell? ⟨(ad101.add ((x5_2).toNat * 9)).block, (ad101.add ((x5_2).toNat * 9)).off + 1, none⟩ = some (.int .i64 ((Qam x0_1 x5_2).f0.f1)) ∧ w'.cell? ⟨(ad101.add ((x5_2).toNat * 9)).block, (ad101.add ((x5_2).toNat * 9)).off + 2, none⟩ = some (.string ((Qam x0_1 x5_2).f1)) ∧ w'.cell? ⟨(ad101.add ((x5_2).toNat * 9)).block, (ad101.add ((x5_2).toNat * 9)).off + 3, none⟩ = some (.int .i64 ((Qam x0_1 x5_2).f2)) ∧ w'.cell? ⟨(ad101.add ((x5_2).toNat * 9)).block, (ad101.add ((x5_2).toNat * 9)).off + 4, none⟩ = some (.string ((Qam x0_1 x5_2).f3)) ∧ w'.cell? ⟨(ad101.add ((x5_2).toNat * 9)).block, (ad101.add ((x5_2).toNat * 9)).off + 5, none⟩ = some (.string ((Qam x0_1 x5_2).f4.f0)) ∧ w'.cell? ⟨(ad101.add ((x5_2).toNat * 9)).block, (ad101.add ((x5_2).toNat * 9)).off + 6, none⟩ = some (.string ((Qam x0_1 x5_2).f4.f1)) ∧ w'.cell? ⟨(ad101.add ((x5_2).toNat * 9)).block, (ad101.add ((x5_2).toNat * 9)).off + 7, none⟩ = some (.string ((Qam x0_1 x5_2).f5.f0)) ∧ w'.cell? ⟨(ad101.add ((x5_2).toNat * 9)).block, (ad101.add ((x5_2).toNat * 9)).off + 8, none⟩ = some (.string ((Qam x0_1 x5_2).f5.f1)) ∧ w'.cell? (ad101.add ((x4_2).toNat * 9)) = some (.int .i64 ((Qam x0_1 x4_2).f0.f0)) ∧ w'.cell? ⟨(ad101.add ((x4_2).toNat * 9)).block, (ad101.add ((x4_2).toNat * 9)).off + 1, none⟩ = some (.int .i64 ((Qam x0_1 x4_2).f0.f1)) ∧ w'.cell? ⟨(ad101.add ((x4_2).toNat * 9)).block, (ad101.add ((x4_2).toNat * 9)).off + 2, none⟩ = some (.string ((Qam x0_1 x4_2).f1)) ∧ w'.cell? ⟨(ad101.add ((x4_2).toNat * 9)).block, (ad101.add ((x4_2).toNat * 9)).off + 3, none⟩ = some (.int .i64 ((Qam x0_1 x4_2).f2)) ∧ w'.cell? ⟨(ad101.add ((x4_2).toNat * 9)).block, (ad101.add ((x4_2).toNat * 9)).off + 4, none⟩ = some (.string ((Qam x0_1 x4_2).f3)) ∧ w'.cell? ⟨(ad101.add ((x4_2).toNat * 9)).block, (ad101.add ((x4_2).toNat * 9)).off + 5, none⟩ = some (.string ((Qam x0_1 x4_2).f4.f0)) ∧ w'.cell? ⟨(ad101.add ((x4_2).toNat * 9)).block, (ad101.add ((x4_2).toNat * 9)).off + 6, none⟩ = some (.string ((Qam x0_1 x4_2).f4.f1)) ∧ w'.cell? ⟨(ad101.add ((x4_2).toNat * 9)).block, (ad101.add ((x4_2).toNat * 9)).off + 7, none⟩ = some (.string ((Qam x0_1 x4_2).f5.f0)) ∧ w'.cell? ⟨(ad101.add ((x4_2).toNat * 9)).block, (ad101.add ((x4_2).toNat * 9)).off + 8, none⟩ = some (.string ((Qam x0_1 x4_2).f5.f1))) (ds := []) #[ff,ff,ff,ff,ff,ff,ff,ff,ff,ff,ff] (by kernel_rfl) rfl rfl ⟨hx101_0, hx101_1, hx101_2, hx101_3, hx101_4, hx101_5, hx101_6, hx101_7, hx101_8, hx102_0, hx102_1, hx102_2, hx102_3, hx102_4, hx102_5, hx102_6, hx102_7, hx102_8⟩ (fun hHeld => ?_); refine with_tabW Qan.tab7 Qan.bits7 (fun HT_ HW_ => ?_)
           generalize wr.drew = w12 at HO_0 HO_3 HB hx101_0 hx101_1 hx101_2 hx101_3 hx101_4 hx101_5 hx101_6 hx101_7 hx101_8 hx102_0 hx102_1 hx102_2 hx102_3 hx102_4 hx102_5 hx102_6 hx102_7 hx102_8 hHeld ⊢
           refine pure_ (i := 0) (N := some 16) (v := ?_) (a' := ?_) #[tt,ff,ff,ff,ff,ff,ff,ff,ff,ff,ff] rfl rfl (any_of HT_.out (by kernel_rfl)) (fun _ _ _ h => h) (Or.inl ⟨by rfl, ?_⟩) ?_ ?_; rotate_left
           ·intro w'; go_simp; (with_reducible rfl)
           rotate_left
           ·simp only [Act.put, put_, i64_w, i32_w]; rfl
           refine pure_ (i := 1) (N := some 17) (v := ?_) (a' := ?_) #[tt,tt,ff,ff,ff,ff,ff,ff,ff,ff,ff] rfl rfl (any_of HT_.out (by kernel_rfl)) (fun _ _ _ h => h) (Or.inl ⟨by rfl, ?_⟩) ?_ ?_; rotate_left
           ·intro w'; go_simp; (with_reducible rfl)
           rotate_left
           ·simp only [Act.put, put_, i64_w, i32_w]; rfl
           refine pure_ (i := 2) (N := some 18) (v := ?_) (a' := ?_) #[tt,tt,tt,ff,ff,ff,ff,ff,ff,ff,ff] rfl rfl (any_of HT_.out (by kernel_rfl)) (fun _ _ _ h => h) (Or.inl ⟨by rfl, ?_⟩) ?_ ?_; rotate_left
           ·intro w'; go_simp; (with_reducible rfl)
           rotate_left
           ·simp only [Act.put, put_, i64_w, i32_w]; rfl
           refine pure_ (i := 3) (N := some 19) (v := ?_) (a' := ?_) #[tt,tt,tt,tt,ff,ff,ff,ff,ff,ff,ff] rfl rfl (any_of HT_.out (by kernel_rfl)) (fun _ _ _ h => h) (Or.inl ⟨by rfl, ?_⟩) ?_ ?_; rotate_left
           ·intro w'; go_simp; (with_reducible rfl)
           rotate_left
           ·simp only [Act.put, put_, i64_w, i32_w]; rfl
           refine pure_ (i := 5) (N := some 21) (v := ?_) (a' := ?_) #[tt,tt,tt,tt,ff,tt,ff,ff,ff,ff,ff] rfl rfl (any_of HT_.out (by kernel_rfl)) (fun _ _ _ h => h) (Or.inl ⟨by rfl, ?_⟩) ?_ ?_; rotate_left
           ·intro w'; go_simp; (with_reducible rfl)
           rotate_left
           ·simp only [Act.put, put_, i64_w, i32_w]; rfl
           refine pure_ (i := 6) (N := some 22) (v := ?_) (a' := ?_) #[tt,tt,tt,tt,ff,tt,tt,ff,ff,ff,ff] rfl rfl (any_of HT_.out (by kernel_rfl)) (fun _ _ _ h => h) (Or.inl ⟨by rfl, ?_⟩) ?_ ?_; rotate_left
           ·intro w'; go_simp; (with_reducible rfl)
           rotate_left
           ·simp only [Act.put, put_, i64_w, i32_w]; rfl
           refine pure_ (i := 7) (N := some 23) (v := ?_) (a' := ?_) #[tt,tt,tt,tt,ff,tt,tt,tt,ff,ff,ff] rfl rfl (any_of HT_.out (by kernel_rfl)) (fun _ _ _ h => h) (Or.inl ⟨by rfl, ?_⟩) ?_ ?_; rotate_left
           ·intro w'; go_simp; (with_reducible rfl)
           rotate_left
           ·simp only [Act.put, put_, i64_w, i32_w]; rfl
           refine pure_ (i := 8) (N := some 24) (v := ?_) (a' := ?_) #[tt,tt,tt,tt,ff,tt,tt,tt,tt,ff,ff] rfl rfl (any_of HT_.out (by kernel_rfl)) (fun _ _ _ h => h) (Or.inl ⟨by rfl, ?_⟩) ?_ ?_; rotate_left
           ·intro w'; go_simp; (with_reducible rfl)
           rotate_left
           ·simp only [Act.put, put_, i64_w, i32_w]; rfl
           refine take_ (i := 4) (N := some 20) (v := ?_) (a' := ?_) #[tt,tt,tt,tt,tt,tt,tt,tt,tt,ff,ff] rfl rfl (take_ofW HT_.out HW_.out (by kernel_rfl)) (fun _ _ _ h => h) (Or.inl ⟨by rfl, ?_⟩) hHeld ?_ ?_; rotate_left
           ·rintro w' ⟨s0, s1, s2, s3, s4, s5, s6, s7, s8, s9, s10, s11, s12, s13, s14, s15, s16, s17⟩; go_simp; (with_reducible rfl)
           rotate_left
           ·simp only [Act.put, put_, i64_w, i32_w]; rfl
           refine take_ (i := 9) (N := some 25) (v := ?_) (a' := ?_) #[tt,tt,tt,tt,tt,tt,tt,tt,tt,tt,ff] rfl rfl (take_ofW HT_.out HW_.out (by kernel_rfl)) (fun _ _ _ h => h) (Or.inl ⟨by rfl, ?_⟩) hHeld ?_ ?_; rotate_left
           ·rintro w' ⟨s0, s1, s2, s3, s4, s5, s6, s7, s8, s9, s10, s11, s12, s13, s14, s15, s16, s17⟩; go_simp; (with_reducible rfl)
           rotate_left
           ·simp only [Act.put, put_, i64_w, i32_w]; rfl
           refine one_ (i := 10) (N := some 26) #[tt,tt,tt,tt,tt,tt,tt,tt,tt,tt,tt] rfl rfl (one_of HT_.out (by kernel_rfl)) (by decide) (fun K hK => ?_); refine goes_ Tryd.func30 (by kernel_rfl) rfl #[.agg #[.int .i64 ((Qam x0_1 x5_2).f0.f0), .int .i64 ((Qam x0_1 x5_2).f0.f1)], .agg #[.int .i64 ((Qam x0_1 x4_2).f0.f0), .int .i64 ((Qam x0_1 x4_2).f0.f1)]] (by rfl) rfl rfl (by (try simp only [List.map_toArray, List.map_cons, List.map_nil]); first | done | rfl | (simp only [List.length_drop, List.length_take]; rfl)) ?_
           with_reducible refine (liveryref05_Before.calls ((Qam x0_1 x5_2).f0.f0) ((Qam x0_1 x5_2).f0.f1) ((Qam x0_1 x4_2).f0.f0) ((Qam x0_1 x4_2).f0.f1) false _ A8.out).mono ?_
           rintro e w13 ⟨rfl, hb⟩; have HS0_ := (hb.cell (World.block_lt_of_cell? _ _ (hHeld.1))).trans (hHeld.1); have HS1_ := (hb.cell (World.block_lt_of_cell? _ _ (hHeld.2.1))).trans (hHeld.2.1); have HS2_ := (hb.cell (World.block_lt_of_cell? _ _ (hHeld.2.2.1))).trans (hHeld.2.2.1); have HS3_ := (hb.cell (World.block_lt_of_cell? _ _ (hHeld.2.2.2.1))).trans (hHeld.2.2.2.1); have HS4_ := (hb.cell (World.block_lt_of_cell? _ _ (hHeld.2.2.2.2.1))).trans (hHeld.2.2.2.2.1); have HS5_ := (hb.cell (World.block_lt_of_cell? _ _ (hHeld.2.2.2.2.2.1))).trans (hHeld.2.2.2.2.2.1); have HS6_ := (hb.cell (World.block_lt_of_cell? _ _ (hHeld.2.2.2.2.2.2.1))).trans (hHeld.2.2.2.2.2.2.1); have HS7_ := (hb.cell (World.block_lt_of_cell? _ _ (hHeld.2.2.2.2.2.2.2.1))).trans (hHeld.2.2.2.2.2.2.2.1); have HS8_ := (hb.cell (World.block_lt_of_cell? _ _ (hHeld.2.2.2.2.2.2.2.2.1))).trans (hHeld.2.2.2.2.2.2.2.2.1); have HS9_ := (hb.cell (World.block_lt_of_cell? _ _ (hHeld.2.2.2.2.2.2.2.2.2.1))).trans (hHeld.2.2.2.2.2.2.2.2.2.1); have HS10_ := (hb.cell (World.block_lt_of_cell? _ _ (hHeld.2.2.2.2.2.2.2.2.2.2.1))).trans (hHeld.2.2.2.2.2.2.2.2.2.2.1); have HS11_ := (hb.cell (World.block_lt_of_cell? _ _ (hHeld.2.2.2.2.2.2.2.2.2.2.2.1))).trans (hHeld.2.2.2.2.2.2.2.2.2.2.2.1); have HS12_ := (hb.cell (World.block_lt_of_cell? _ _ (hHeld.2.2.2.2.2.2.2.2.2.2.2.2.1))).trans (hHeld.2.2.2.2.2.2.2.2.2.2.2.2.1); have HS13_ := (hb.cell (World.block_lt_of_cell? _ _ (hHeld.2.2.2.2.2.2.2.2.2.2.2.2.2.1))).trans (hHeld.2.2.2.2.2.2.2.2.2.2.2.2.2.1)
           have HS14_ := (hb.cell (World.block_lt_of_cell? _ _ (hHeld.2.2.2.2.2.2.2.2.2.2.2.2.2.2.1))).trans (hHeld.2.2.2.2.2.2.2.2.2.2.2.2.2.2.1); have HS15_ := (hb.cell (World.block_lt_of_cell? _ _ (hHeld.2.2.2.2.2.2.2.2.2.2.2.2.2.2.2.1))).trans (hHeld.2.2.2.2.2.2.2.2.2.2.2.2.2.2.2.1); have HS16_ := (hb.cell (World.block_lt_of_cell? _ _ (hHeld.2.2.2.2.2.2.2.2.2.2.2.2.2.2.2.2.1))).trans (hHeld.2.2.2.2.2.2.2.2.2.2.2.2.2.2.2.2.1); have HS17_ := (hb.cell (World.block_lt_of_cell? _ _ (hHeld.2.2.2.2.2.2.2.2.2.2.2.2.2.2.2.2.2))).trans (hHeld.2.2.2.2.2.2.2.2.2.2.2.2.2.2.2.2.2); refine ⟨_, rfl, ?_⟩; have n0_ := Qad.mk (Kd.V_below (by (with_reducible repeat (first | apply Kd.V_alloc | apply Kd.V_drewN | apply Kd.V_drew)); exact HO_0.out) hb); have n1_ := Qad.mk (Kd.R_below (by (with_reducible repeat (first | apply Kd.R_alloc | apply Kd.R_drewN | apply Kd.R_drew)); exact HO_3.out) hb); have n2_ := Qad.mk (Qaf (by repeat (first | (with_reducible first | exact HB.out | apply Qab | apply Qaa | apply Qac) | exact HB.out)) hb); clear HO_0; clear HO_3; clear HB; have HO_0 := n0_; have HO_3 := n1_; have HB := n2_; clear n0_ n1_ n2_
           (try clear hb)
           (try clear hb2)
           (try clear hk)
           (try clear hi)
           refine hK.out _ _ ⟨HS0_, HS1_, HS2_, HS3_, HS4_, HS5_, HS6_, HS7_, HS8_, HS9_, HS10_, HS11_, HS12_, HS13_, HS14_, HS15_, HS16_, HS17_⟩ (fun hHeld => ?_); clear hK K; refine norm_ (a' := ?_) ?_ ?_; rotate_left
           ·show Act.put _ (some 26) _ = _
            simp only [Act.put, put_, i64_w, i32_w]; rfl
           refine done_ (done_of HT_.out (by kernel_rfl)) ?_
           try go_wp2
           go_roundg k2
           case measure => have := HK1.out; have := HK2.out; omega
           case rel => exact ⟨(x4_2), (wrap64 (x5_2 + 1)), (by first | rfl | (simp; done) | (simp [*]; done)), (by first | rfl | (simp; done) | (simp [*]; done)), H', ⟨by have := HK1.out; have := HK2.out; omega⟩, ⟨by (with_reducible repeat (first | apply Kd.V_alloc | apply Kd.V_drewN | apply Kd.V_drew)); exact HO_0.out⟩, ⟨by (with_reducible repeat (first | apply Kd.R_alloc | apply Kd.R_drewN | apply Kd.R_drew)); exact HO_3.out⟩, ⟨by repeat (first | (with_reducible first | exact HB.out | apply Qab | apply Qaa | apply Qac) | exact HB.out)⟩⟩
         ·rw [if_neg c7] at H; exact absurd H (by simp)
        ·rw [if_neg c6] at H; exact absurd H (by simp)
       ·rw [if_neg c5] at H; exact absurd H (by simp)
      ·rw [if_neg c4] at H; have c4b0 : decide (x5_2 < (x0_1.length : Int)) = false := decide_eq_false c4; clear c4
       by_cases c14 : 0 ≤ x4_2
       ·rw [if_pos c14] at H; have c14b0 : decide (0 ≤ x4_2) = true := decide_eq_true c14; clear c14
        by_cases c15 : x4_2 < (x0_1.length : Int)
        ·rw [if_pos c15] at H; have c15b0 : decide (x4_2 < (x0_1.length : Int)) = true := decide_eq_true c15; clear c15
         by_cases c16 : x3_1.length < 1172812402961
         ·rw [if_pos c16] at H; have LMc16 := Qad.mk c16; clear c16
          obtain ⟨y105, hy105⟩ : ∃ y_ : List (S42), y_ = (x3_1 ++ [(⟨(⟨(Qam x0_1 x4_2).f0.f0, (Qam x0_1 x4_2).f0.f1⟩ : S26), (Qam x0_1 x4_2).f1, (Qam x0_1 x4_2).f2, (Qam x0_1 x4_2).f3, (⟨(Qam x0_1 x4_2).f4.f0, (Qam x0_1 x4_2).f4.f1⟩ : S24), (⟨(Qam x0_1 x4_2).f5.f0, (Qam x0_1 x4_2).f5.f1⟩ : S24)⟩ : S42)]) := ⟨_, rfl⟩
          replace H : (if x4_2 ≤ (x0_1.length : Int) then ((some (x0_1.take (x4_2 : Int).toNat : List (S42))).bind fun y108 => (if ([] : List (S42)).length + y108.length < 1172812402961 then ((some (([] : List (S42)) ++ y108 : List (S42))).bind fun y113 => (if 0 ≤ (wrap64 (x4_2 + 1)) then (if (wrap64 (x4_2 + 1)) ≤ (x0_1.length : Int) then ((some (x0_1.drop ((wrap64 (x4_2 + 1)) : Int).toNat : List (S42))).bind fun y116 => (if y113.length + y116.length < 1172812402961 then (Qan.l0 k2 (y113 ++ y116) y105) else (none))) else (none)) else (none))) else (none))) else (none)) = some r := by first | (rw [hy105]; with_reducible exact H) | (have H2_ := (Option.bind_some _ _).symm.trans H; rw [hy105]; with_reducible exact H2_) | (have H2_ := (Option.bind_some _ _).symm.trans H; with_reducible exact H2_) | with_reducible exact H | (rw [hy105]; exact H) | exact H
          have Ny105 := Qad.mk hy105; clear hy105; have c17b0 := eq_true (of_decide_eq_true (by first | (with_reducible assumption) | assumption) : 0 ≤ x4_2)
          by_cases c18 : x4_2 ≤ (x0_1.length : Int)
          ·rw [if_pos c18] at H; have c18b0 := eq_true c18; have c18b1 : decide (x4_2 ≤ (x0_1.length : Int)) = true := decide_eq_true c18; clear c18
           obtain ⟨y108, hy108⟩ : ∃ y_ : List (S42), y_ = (x0_1.take (x4_2 : Int).toNat) := ⟨_, rfl⟩
           replace H : (if ([] : List (S42)).length + y108.length < 1172812402961 then ((some (([] : List (S42)) ++ y108 : List (S42))).bind fun y113 => (if 0 ≤ (wrap64 (x4_2 + 1)) then (if (wrap64 (x4_2 + 1)) ≤ (x0_1.length : Int) then ((some (x0_1.drop ((wrap64 (x4_2 + 1)) : Int).toNat : List (S42))).bind fun y116 => (if y113.length + y116.length < 1172812402961 then (Qan.l0 k2 (y113 ++ y116) y105) else (none))) else (none)) else (none))) else (none)) = some r := by first | (rw [hy108]; with_reducible exact H) | (have H2_ := (Option.bind_some _ _).symm.trans H; rw [hy108]; with_reducible exact H2_) | (have H2_ := (Option.bind_some _ _).symm.trans H; with_reducible exact H2_) | with_reducible exact H | (rw [hy108]; exact H) | exact H
           have Ny108 := Qad.mk hy108; clear hy108
           by_cases c19 : ([] : List (S42)).length + y108.length < 1172812402961
           ·rw [if_pos c19] at H; have LMc19 := Qad.mk c19; clear c19
            obtain ⟨y113, hy113⟩ : ∃ y_ : List (S42), y_ = (([] : List (S42)) ++ y108) := ⟨_, rfl⟩
            replace H : (if 0 ≤ (wrap64 (x4_2 + 1)) then (if (wrap64 (x4_2 + 1)) ≤ (x0_1.length : Int) then ((some (x0_1.drop ((wrap64 (x4_2 + 1)) : Int).toNat : List (S42))).bind fun y116 => (if y113.length + y116.length < 1172812402961 then (Qan.l0 k2 (y113 ++ y116) y105) else (none))) else (none)) else (none)) = some r := by first | (rw [hy113]; with_reducible exact H) | (have H2_ := (Option.bind_some _ _).symm.trans H; rw [hy113]; with_reducible exact H2_) | (have H2_ := (Option.bind_some _ _).symm.trans H; with_reducible exact H2_) | with_reducible exact H | (rw [hy113]; exact H) | exact H
            have Ny113 := Qad.mk hy113; clear hy113
            obtain ⟨ji20, hji20⟩ : ∃ j_ : Int, (wrap64 (x4_2 + 1)) = j_ := ⟨_, rfl⟩
            replace H : (if 0 ≤ (ji20) then (if (ji20) ≤ (x0_1.length : Int) then ((some (x0_1.drop ((ji20) : Int).toNat : List (S42))).bind fun y116 => (if y113.length + y116.length < 1172812402961 then (Qan.l0 k2 (y113 ++ y116) y105) else (none))) else (none)) else (none)) = some r := by first | (rw [hji20] at H; exact H) | (simp only [hji20] at H ⊢; exact H)
            have hji20w : (IntKind.i64.wrap (x4_2 + 1)) = ji20 := (i64_w _).trans hji20
            by_cases c21 : 0 ≤ (ji20)
            ·rw [if_pos c21] at H; have c21b0 := eq_true c21; have c21b1 : decide (0 ≤ (ji20)) = true := decide_eq_true c21; clear c21
             by_cases c22 : (ji20) ≤ (x0_1.length : Int)
             ·rw [if_pos c22] at H; have c22b0 := eq_true c22; have c22b1 : decide ((ji20) ≤ (x0_1.length : Int)) = true := decide_eq_true c22; clear c22
              obtain ⟨y116, hy116⟩ : ∃ y_ : List (S42), y_ = (x0_1.drop ((ji20) : Int).toNat) := ⟨_, rfl⟩
              replace H : (if y113.length + y116.length < 1172812402961 then (Qan.l0 k2 (y113 ++ y116) y105) else (none)) = some r := by first | (rw [hy116]; with_reducible exact H) | (have H2_ := (Option.bind_some _ _).symm.trans H; rw [hy116]; with_reducible exact H2_) | (have H2_ := (Option.bind_some _ _).symm.trans H; with_reducible exact H2_) | with_reducible exact H | (rw [hy116]; exact H) | exact H
              have Ny116 := Qad.mk hy116; clear hy116
              by_cases c23 : y113.length + y116.length < 1172812402961
              ·rw [if_pos c23] at H; have LMc23 := Qad.mk c23; clear c23
               obtain ⟨y121, hy121⟩ : ∃ y_ : List (S42), y_ = (y113 ++ y116) := ⟨_, rfl⟩
               replace H : (Qan.l0 k2 y121 y105) = some r := by first | (rw [hy121]; with_reducible exact H) | (have H2_ := (Option.bind_some _ _).symm.trans H; rw [hy121]; with_reducible exact H2_) | (have H2_ := (Option.bind_some _ _).symm.trans H; with_reducible exact H2_) | with_reducible exact H | (rw [hy121]; exact H) | exact H
               have Ny121 := Qad.mk hy121; clear hy121; have H' := Qad.mk H; clear H; have p104 : 0 ≤ (x4_2 : Int) := of_decide_eq_true (by first | (with_reducible assumption) | assumption); have q104 : x4_2 < (x0_1.length : Int) := of_decide_eq_true (by first | (with_reducible assumption) | assumption); obtain ⟨ad104, e104, hx104_0, hx104_1, hx104_2, hx104_3, hx104_4, hx104_5, hx104_6, hx104_7, hx104_8⟩ := at_T42 (Kd.V_reads' HO_0.out).2.2 x4_2 p104 q104; cases e104; replace p104 := eq_true p104; replace q104 := eq_true q104
               go_wp2_with (first | ((with_reducible refine gate_builtin (b := .append) (xs := #[.tmp 28, .tmp 33]) rfl ?_); at_builtin; refine Kd.R_append k42 (w0 := w) w.heap.size rfl (.tmp 28) (.tmp 33) 22 42 (.agg #[(.int .i64 0), (.int .i64 0), (.string ⟨#[]⟩), (.int .i64 0), (.string ⟨#[]⟩), (.string ⟨#[]⟩), (.string ⟨#[]⟩), (.string ⟨#[]⟩), (.string ⟨#[]⟩)]) 120 rfl Tryd.underlying22 info42 rfl (by decide) (by omega) u3 x3_1 (⟨(⟨(Qam x0_1 x4_2).f0.f0, (Qam x0_1 x4_2).f0.f1⟩ : S26), (Qam x0_1 x4_2).f1, (Qam x0_1 x4_2).f2, (Qam x0_1 x4_2).f3, (⟨(Qam x0_1 x4_2).f4.f0, (Qam x0_1 x4_2).f4.f1⟩ : S24), (⟨(Qam x0_1 x4_2).f5.f0, (Qam x0_1 x4_2).f5.f1⟩ : S24)⟩ : S42) [.int .i64 ((Qam x0_1 x4_2).f0.f0), .int .i64 ((Qam x0_1 x4_2).f0.f1), .string ((Qam x0_1 x4_2).f1), .int .i64 ((Qam x0_1 x4_2).f2), .string ((Qam x0_1 x4_2).f3), .string ((Qam x0_1 x4_2).f4.f0), .string ((Qam x0_1 x4_2).f4.f1), .string ((Qam x0_1 x4_2).f5.f0), .string ((Qam x0_1 x4_2).f5.f1)] (fun k_ => (w.heap.size ≤ k_)) (fun _ => False) rfl rfl ?aP (fun _ hk => hk.elim) ?aF ?aO ?aB ?aS ?aL ?_; (case aP => exact k42_mkM _ _ _ (⟨(⟨(Qam x0_1 x4_2).f0.f0, (Qam x0_1 x4_2).f0.f1⟩ : S26), (Qam x0_1 x4_2).f1, (Qam x0_1 x4_2).f2, (Qam x0_1 x4_2).f3, (⟨(Qam x0_1 x4_2).f4.f0, (Qam x0_1 x4_2).f4.f1⟩ : S24), (⟨(Qam x0_1 x4_2).f5.f0, (Qam x0_1 x4_2).f5.f1⟩ : S24)⟩ : S42)); (case aB => exact (by repeat (first | (with_reducible first | exact HB.out | apply Qab | apply Qaa | apply Qac) | exact HB.out))); (case aF => exact (fun k_ hk => (Nat.le_trans (Qav (by repeat (first | (with_reducible first | exact HB.out | apply Qab | apply Qaa | apply Qac) | exact HB.out))) hk))); (case aO => exact (by (with_reducible repeat (first | apply Kd.R_alloc | apply Kd.R_drewN | apply Kd.R_drew)); exact HO_3.out)); (case aS => exact (Qav (by repeat (first | (with_reducible first | exact HB.out | apply Qab | apply Qaa | apply Qac) | exact HB.out)))); (case aL => have := LMc16.out; omega); intro v106 w24 ho hb hg hat; rw [← Ny105.out] at ho; have n0_ := Qad.mk (Kd.V_afterv (ok := (fun k_ => (P0_ k_ ∨ w.heap.size ≤ k_))) (by (with_reducible repeat (first | apply Kd.V_alloc | apply Kd.V_drewN | apply Kd.V_drew)); exact HO_0.out) hg hat); have n1_ := Qad.mk (hb); have n2_ := Qad.mk (ho); clear HO_0; clear HB; clear HO_3; have HO_0 := n0_; have HB := n1_; have HO107 := n2_; clear n0_ n1_ n2_; clear ho hb hg hat; have q25 : (x4_2 : Int) ≤ ((x0_1.length : Int) : Int) := of_decide_eq_true (by first | (with_reducible assumption) | assumption); obtain ⟨i025, hi025, _, hsz25, _⟩ := info_parts info42; have hroom25 : x0_1.length ≤ co3 := (Kd.V_reads' HO_0.out).2.1; have hC25 : Kd.F k42 _ _ (some ad104) x0_1.length x0_1 := (Kd.V_at (base := w.heap.size) HO_0.out).2.2; have hcut25 := cut_to (P := Tryd.prog) 22 42 .i64 Tryd.underlying22 hi025 (some ad104) x0_1.length co3 x4_2 (of_decide_eq_true (by first | (with_reducible assumption) | assumption)) q25 hroom25; have hr25 := Kd.F_take (m := (x4_2 : Int).toNat) hC25 (by omega); have hy25 : y108.length = (x4_2 : Int).toNat := (by rw [Ny108.out, List.length_take]; omega); rw [← Ny108.out] at hr25; rw [← hy25] at hcut25; have HO112 := Qad.mk (show Kd.V k42 42 _ w.heap.size _ (.slice (some ad104) y108.length co3) y108 from Kd.V_mk (by omega) hr25); have HC112 := Qad.mk (show y108.length ≤ co3 from by omega); clear hr25 hC25 hroom25 hi025 hsz25; have KY25 := Qad.mk hy25; clear hy25; replace q25 := eq_true q25) | ((with_reducible refine gate_builtin (b := .append) (xs := #[.tmp 35, .tmp 38]) rfl ?_); at_builtin; refine Kd.R_append_rows k42 (w0 := w) w.heap.size rfl (.tmp 35) (.tmp 38) 22 42 (.agg #[(.int .i64 0), (.int .i64 0), (.string ⟨#[]⟩), (.int .i64 0), (.string ⟨#[]⟩), (.string ⟨#[]⟩), (.string ⟨#[]⟩), (.string ⟨#[]⟩), (.string ⟨#[]⟩)]) 120 rfl Tryd.underlying22 info42 rfl (by decide) (by omega) (.slice none 0 0) ([] : List (S42)) y108 _ _ _ (fun k_ => (w.heap.size ≤ k_) ∧ some k_ ≠ (v106 : Value).ownBlock) (fun _ => False) rfl rfl ?aO ?aR (fun _ _ h => h) (fun _ h => h.elim) ?aF ?aB ?aS ?aL ?_; (case aR => repeat (first | exact (Kd.V_reads' HO112.out).2.2 | (with_reducible refine Kd.C_alloc ?_ _) | (with_reducible refine Kd.C_drewN ?_ _) | (with_reducible refine Kd.C_drew ?_))); (case aB => exact (by repeat (first | (with_reducible first | exact HB.out | apply Qab | apply Qaa | apply Qac) | exact HB.out))); (case aF => exact (fun k_ hk => ⟨(Nat.le_trans (Qav (by repeat (first | (with_reducible first | exact HB.out | apply Qab | apply Qaa | apply Qac) | exact HB.out))) hk), Kd.fresh' (Kd.R_lt (by (with_reducible repeat (first | apply Kd.R_alloc | apply Kd.R_drewN | apply Kd.R_drew)); exact HO107.out)) k_ hk⟩)); (case aO => exact ((Kd.R_nil _ _ _ _ (fun k_ => (w.heap.size ≤ k_) ∧ some k_ ≠ (v106 : Value).ownBlock)))); (case aS => exact (Qav (by repeat (first | (with_reducible first | exact HB.out | apply Qab | apply Qaa | apply Qac) | exact HB.out)))); (case aL => have := LMc19.out; omega); intro v114 w26 ho hb hg hat; rw [← Ny113.out] at ho; have n0_ := Qad.mk (Kd.V_afterv (Kd.V_apart_nil (by (with_reducible repeat (first | apply Kd.V_alloc | apply Kd.V_drewN | apply Kd.V_drew)); exact HO_0.out)) hg hat); have n1_ := Qad.mk (Kd.R_after (Kd.R_apart_nil (by (with_reducible repeat (first | apply Kd.R_alloc | apply Kd.R_drewN | apply Kd.R_drew)); exact HO107.out)) hg hat); have n2_ := Qad.mk (Kd.V_afterv (Kd.V_apart_nil (by (with_reducible repeat (first | apply Kd.V_alloc | apply Kd.V_drewN | apply Kd.V_drew)); exact HO112.out)) hg hat); have n3_ := Qad.mk (hb); have n4_ := Qad.mk (ho); clear HO_0; clear HO107; clear HO112; clear HB; have HO_0 := n0_; have HO107 := n1_; have HO112 := n2_; have HB := n3_; have HO115 := n4_; clear n0_ n1_ n2_ n3_ n4_; clear ho hb hg hat; have q27 : ((ji20) : Int) ≤ ((x0_1.length : Int) : Int) := of_decide_eq_true (by first | (with_reducible assumption) | assumption); obtain ⟨i027, hi027, _, hsz27, _⟩ := info_parts info42; have hroom27 : x0_1.length ≤ co3 := (Kd.V_reads' HO_0.out).2.1; have hC27 : Kd.F k42 _ _ (some ad104) x0_1.length x0_1 := (Kd.V_at (base := w.heap.size) HO_0.out).2.2; have q027 : (0 : Int) ≤ ((ji20) : Int) := of_decide_eq_true (by first | (with_reducible assumption) | assumption); have hcut27 := cut_from (P := Tryd.prog) 22 42 .i64 Tryd.underlying22 hi027 9 hsz27 (some ad104) x0_1.length co3 (ji20) q027 q27; have hr27 := Kd.F_cut (m := ((ji20) : Int).toNat) (c := co3) hC27 (by omega) hroom27; obtain ⟨A27, hA27⟩ : ∃ A1, A1 = (if co3 = ((ji20) : Int).toNat then (some ad104) else ((some ad104) : Option Addr).map (·.add (((ji20) : Int).toNat * 9))) := ⟨_, rfl⟩; obtain ⟨c27, hc27⟩ : ∃ c1, c1 = co3 - ((ji20) : Int).toNat := ⟨_, rfl⟩; have hy27 : y116.length = x0_1.length - ((ji20) : Int).toNat := (by rw [Ny116.out, List.length_drop] <;> omega); rw [show (x0_1).drop ((ji20) : Int).toNat = y116 from Ny116.out.symm] at hr27; replace hr27 : Kd.F k42 _ _ A27 y116.length y116 := (by rw [hA27]; exact hr27); rw [← hy27, ← hA27, ← hc27] at hcut27; have HO120 := Qad.mk (show Kd.V k42 42 _ w.heap.size _ (.slice A27 y116.length c27) y116 from Kd.V_mk (by rw [hy27, hc27]; exact Nat.sub_le_sub_right hroom27 _) hr27); have HC120 := Qad.mk (show y116.length ≤ c27 from by rw [hy27, hc27]; exact Nat.sub_le_sub_right hroom27 _); clear hr27 hC27 hroom27 hi027 hsz27 hc27; have KY27 := Qad.mk hy27; have KA27 := Qad.mk hA27; clear hy27 hA27; replace q27 := eq_true q27) | ((with_reducible refine gate_builtin (b := .append) (xs := #[.tmp 40, .tmp 44]) rfl ?_); at_builtin; refine Kd.R_append_rows k42 (w0 := w) w.heap.size rfl (.tmp 40) (.tmp 44) 22 42 (.agg #[(.int .i64 0), (.int .i64 0), (.string ⟨#[]⟩), (.int .i64 0), (.string ⟨#[]⟩), (.string ⟨#[]⟩), (.string ⟨#[]⟩), (.string ⟨#[]⟩), (.string ⟨#[]⟩)]) 120 rfl Tryd.underlying22 info42 rfl (by decide) (by omega) v114 y113 y116 _ _ _ (fun k_ => (w.heap.size ≤ k_) ∧ some k_ ≠ (v106 : Value).ownBlock) (fun _ => False) rfl rfl ?aO ?aR (fun _ _ h => h) (fun _ h => h.elim) ?aF ?aB ?aS ?aL ?_; (case aR => repeat (first | exact (Kd.V_reads' HO120.out).2.2 | (with_reducible refine Kd.C_alloc ?_ _) | (with_reducible refine Kd.C_drewN ?_ _) | (with_reducible refine Kd.C_drew ?_))); (case aB => exact (by repeat (first | (with_reducible first | exact HB.out | apply Qab | apply Qaa | apply Qac) | exact HB.out))); (case aF => exact (fun k_ hk => ⟨(Nat.le_trans (Qav (by repeat (first | (with_reducible first | exact HB.out | apply Qab | apply Qaa | apply Qac) | exact HB.out))) hk), Kd.fresh' (Kd.R_lt (by (with_reducible repeat (first | apply Kd.R_alloc | apply Kd.R_drewN | apply Kd.R_drew)); exact HO107.out)) k_ hk⟩)); (case aO => exact (by (with_reducible repeat (first | apply Kd.R_alloc | apply Kd.R_drewN | apply Kd.R_drew)); exact HO115.out)); (case aS => exact (Qav (by repeat (first | (with_reducible first | exact HB.out | apply Qab | apply Qaa | apply Qac) | exact HB.out)))); (case aL => have := LMc23.out; omega); intro v122 w28 ho hb hg hat; rw [← Ny121.out] at ho; have n0_ := Qad.mk (Kd.V_afterv (ok := (fun k_ => (P0_ k_ ∨ w.heap.size ≤ k_) ∧ some k_ ≠ (v106 : Value).ownBlock)) (by (with_reducible repeat (first | apply Kd.V_alloc | apply Kd.V_drewN | apply Kd.V_drew)); exact HO_0.out) hg hat); have n1_ := Qad.mk (Kd.R_after (ok := (fun k_ => (w.heap.size ≤ k_))) (by (with_reducible repeat (first | apply Kd.R_alloc | apply Kd.R_drewN | apply Kd.R_drew)); exact HO107.out) hg hat); have n2_ := Qad.mk (Kd.V_afterv (ok := (fun k_ => (P0_ k_ ∨ w.heap.size ≤ k_) ∧ some k_ ≠ (v106 : Value).ownBlock)) (by (with_reducible repeat (first | apply Kd.V_alloc | apply Kd.V_drewN | apply Kd.V_drew)); exact HO112.out) hg hat); have n3_ := Qad.mk (Kd.V_afterv (ok := (fun k_ => (P0_ k_ ∨ w.heap.size ≤ k_) ∧ some k_ ≠ (v106 : Value).ownBlock)) (by (with_reducible repeat (first | apply Kd.V_alloc | apply Kd.V_drewN | apply Kd.V_drew)); exact HO120.out) hg hat); have n4_ := Qad.mk (hb); have n5_ := Qad.mk (ho); clear HO_0; clear HO107; clear HO112; clear HO120; clear HB; clear HO115; have HO_0 := n0_; have HO107 := n1_; have HO112 := n2_; have HO120 := n3_; have HB := n4_; have HO123 := n5_; clear n0_ n1_ n2_ n3_ n4_ n5_; clear ho hb hg hat))
               go_roundg k2
               case measure => have := HK1.out; have := HK2.out; omega
               case rel => exact ⟨(y121), (y105), H', ⟨by have := HK1.out; have := HK2.out; omega⟩, ⟨Kd.V_mono (Kd.R_V (by (with_reducible repeat (first | apply Kd.R_alloc | apply Kd.R_drewN | apply Kd.R_drew)); exact HO123.out)) (fun k_ hk => by first | exact ⟨(.inr (hk.1)), hk.2⟩ | exact (.inr (hk)))⟩, ⟨by (with_reducible repeat (first | apply Kd.R_alloc | apply Kd.R_drewN | apply Kd.R_drew)); exact Kd.R_mono HO107.out (fun _ hk => hk.1)⟩, ⟨by repeat (first | (with_reducible first | exact HB.out | apply Qab | apply Qaa | apply Qac) | exact HB.out)⟩⟩
              ·rw [if_neg c23] at H; exact absurd H (by simp)
             ·rw [if_neg c22] at H; exact absurd H (by simp)
            ·rw [if_neg c21] at H; exact absurd H (by simp)
           ·rw [if_neg c19] at H; exact absurd H (by simp)
          ·rw [if_neg c18] at H; exact absurd H (by simp)
         ·rw [if_neg c16] at H; exact absurd H (by simp)
        ·rw [if_neg c15] at H; exact absurd H (by simp)
       ·rw [if_neg c14] at H; exact absurd H (by simp)
   ·rw [if_neg c2] at H; have c2b0 : decide (0 < (x0_1.length : Int)) = false := decide_eq_false c2; have c2b1 : decide (0 < x0_1.length) = false := decide_eq_false (by omega); clear c2; obtain rfl := Option.some.inj H; obtain ⟨Ao29, co29, eo29⟩ := Kd.V_slice HO_0.out; subst eo29; go_wp2; go_ret; exact ⟨_, by first | rfl | (simp [Qau, Qat] <;> rfl) | (simp [*, Qau, Qat] <;> rfl), by (with_reducible repeat (first | apply Kd.R_alloc | apply Kd.R_drewN | apply Kd.R_drew)); exact HO_3.out, by repeat (first | (with_reducible first | exact HB.out | apply Qab | apply Qaa | apply Qac) | exact HB.out)⟩
end Go.Proofs.YtbjjgaahdnfflaaDoor.Pr
end
