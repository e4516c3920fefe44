/- The proof's own texts, joined: part 2. No conditions. -/
import Derived.Test.YtbjjonpkmplhbaaGreatDoorProg
import Derived.Below
import Derived.Deep.Draws
import Derived.Deep.AppendLies
import Derived.Maps.AppendAt
import Derived.OwnWalk
import Derived.Laws.BytesArg
import Derived.Laws.MakeOwn
import Derived.Laws.OwnMore
import Derived.Deep.OwnRows
import Derived.Tactics
import Derived.Lib.ConvBytes
import Derived.Laws.Slices
import Derived.WalkKit
import Derived.KernelRfl
import Derived.RowKit3
import Derived.Deep.LoopGhost
import Derived.Deep.QuietTactic
import Derived.BigQuiet
import Derived.WideLaws
import Derived.Deep.DeepCutAuto
import Derived.Deep.CutBlock
import Derived.Deep.RegionHeld3
import Derived.Laws.Rows
import Derived.Lib.AppendStr
import Derived.ArgAppend
import Derived.Laws.IdiomCopy
import Derived.OrdersHeld
import Derived.Laws.BitsLemmas
import Derived.RowKit
import Derived.Laws.StructEq
import Derived.Deep.MidRow
import Derived.Deep.WholeRow
import Derived.WalkSpells
import Derived.Lib.Hide
import Derived.DeepKeys4
import Derived.Maps.OwnSet
import Derived.Maps.RangeRun
import Derived.Maps.Range
import Derived.Carry
import Derived.Sort.LotA
import Derived.Test.YtbjjonpkmplhbaaGreatDoorPSaid0
import Derived.Test.YtbjjonpkmplhbaaGreatDoorPSaid1
section
namespace Go.Proofs.YtbjjonpkmplhbaaGreatDoor.Pr
open Go.RowKit Go.Proofs.YtbjjonpkmplhbaaGreatDoorW.PrintWords Go.Proofs.YtbjjonpkmplhbaaGreatDoorW.PrintLast Go.Proofs.YtbjjonpkmplhbaaGreatDoorW.PrintMore
set_option linter.unusedVariables false
set_option linter.unusedSimpArgs false
section
attribute [local go_sem] QaE QaC QaS QaR Qaw Qav QaD QaB
attribute [local go_sem high] eqA33
def Qbc.l0 : Nat → List (S33) → List (S33) → Int → Int → Option (Bool)
 | 0, _, _, _, _ => none
 | k + 1, x0, x1, x12, x13 => if x13 < x12 then (if 0 ≤ x13 then (if x13 < (x0.length : Int) then (if x13 < (x1.length : Int) then (if (!((((Qa7 x0 x13).f0).toList) == (((Qa7 x1 x13).f0).toList)) || (!((((Qa7 x0 x13).f1).toList) == (((Qa7 x1 x13).f1).toList)))) = true then (some false) else (Qbc.l0 k x0 x1 x12 (wrap64 (x13 + 1)))) else (none)) else (none)) else (none)) else (some true)
def Qbc.f (k : Nat) (l0 : List (S33)) (l1 : List (S33)) : Option (Bool) := if (l0.length : Int) = (l1.length : Int) then (Qbc.l0 k l0 l1 (l0.length : Int) 0) else (some false)
set_option maxHeartbeats 8000000 in
set_option maxRecDepth 100000 in
theorem Qbc.calls (k : Nat) (A0 : Option Addr) (c0 : Nat) (l0 : List (S33)) (A1 : Option Addr) (c1 : Nat) (l1 : List (S33)) (r : Bool) (w : World) (hr0 : Kd.C k33 w A0 l0.length l0) (hc0 : l0.length ≤ c0) (hr1 : Kd.C k33 w A1 l1.length l1) (hc1 : l1.length ≤ c1) (h : Qbc.f k l0 l1 = some r) :
  Calls Tryz.prog 35 #[.slice A0 l0.length c0, .slice A1 l1.length c1] w fun e w' => e = .returned (.bool r) ∧ Drawn0 w w' := by
 have hu33 := Tryz.underlying33; have HR0 := Qaa.mk hr0; have HC0 := Qaa.mk hc0; clear hr0 hc0; have HR1 := Qaa.mk hr1; have HC1 := Qaa.mk hc1; clear hr1 hc1; have H : (if (l0.length : Int) = (l1.length : Int) then (Qbc.l0 k l0 l1 (l0.length : Int) 0) else (some false)) = some r := h; clear h
 by_cases c3 : (l0.length : Int) = (l1.length : Int)
 ·rw [if_pos c3] at H; have c3b0 : ((l0.length : Int) == (l1.length : Int)) = true := beq_iff_eq.mpr c3; have c3b1 : ((l0.length : Int) != (l1.length : Int)) = false := bne_eq_false_iff_eq.mpr c3
  have c3b2 : (l0.length == l1.length) = true := by first | simpa using c3 | (simp at c3 ⊢; omega)
  clear c3; have H' := Qaa.mk H; clear H; go_enter Tryz.func35, Tryz.ntmps35; go_wp2
  repeat (go_quiet (fail); try go_wp2)
  go_loopg [13] k (fun kq v13 w' => ∃ (x13_1 : Int), v13 = .int .i64 x13_1 ∧ Qaa (Qbc.l0 kq l0 l1 (l0.length : Int) x13_1 = some r) ∧ Qaa (kq ≤ k) ∧ Drawn0 w w')
  case atStart => exact ⟨(0), (by first | rfl | (simp; done) | (simp [*]; done)), H', ⟨Nat.le_refl _⟩, by repeat (first | exact Drawn0.refl _ | apply Drawn0.step)⟩
  case round =>
   clear H'; (try clear c1); (try clear p2); (try clear c3); (try clear c3b0); (try clear c3b1); (try clear c3b2); obtain ⟨x13_1, rfl, HA, HK1, ⟨m1, rfl⟩⟩ := hrel
   cases gk with
   | zero => exact absurd HA.out (by simp [Qbc.l0])
   | succ k1 =>
    have H := HA.out; clear HA; simp only [Qbc.l0] at H
    by_cases c4 : x13_1 < (l0.length : Int)
    ·rw [if_pos c4] at H; have c4b0 : decide (x13_1 < (l0.length : Int)) = true := decide_eq_true c4; clear c4
     by_cases c5 : 0 ≤ x13_1
     ·rw [if_pos c5] at H; have c5b0 : decide (0 ≤ x13_1) = true := decide_eq_true c5; clear c5
      by_cases c6 : x13_1 < (l0.length : Int)
      ·rw [if_pos c6] at H; have c6b0 : decide (x13_1 < (l0.length : Int)) = true := decide_eq_true c6; clear c6
       by_cases c7 : x13_1 < (l1.length : Int)
       ·rw [if_pos c7] at H; have c7b0 : decide (x13_1 < (l1.length : Int)) = true := decide_eq_true c7; clear c7
        by_cases c8 : (!((((Qa7 l0 x13_1).f0).toList) == (((Qa7 l1 x13_1).f0).toList)) || (!((((Qa7 l0 x13_1).f1).toList) == (((Qa7 l1 x13_1).f1).toList)))) = true
        ·rw [if_pos c8] at H; have c8b0 : (!((((Qa7 l0 x13_1).f0).toList) == (((Qa7 l1 x13_1).f0).toList)) || (!((((Qa7 l0 x13_1).f1).toList) == (((Qa7 l1 x13_1).f1).toList)))) = true := c8; clear c8; obtain rfl := Option.some.inj H; have p101 : 0 ≤ (x13_1 : Int) := dd_; have q101 : x13_1 < (l0.length : Int) := dd_; obtain ⟨ad101, e101, hx101_0, hx101_1⟩ := at_T33 HR0.out x13_1 p101 q101; cases e101; replace p101 := eq_true p101; replace q101 := eq_true q101; have p102 : 0 ≤ (x13_1 : Int) := dd_; have q102 : x13_1 < (l1.length : Int) := dd_; obtain ⟨ad102, e102, hx102_0, hx102_1⟩ := at_T33 HR1.out x13_1 p102 q102; cases e102; replace p102 := eq_true p102; replace q102 := eq_true q102; go_wp2
         repeat (go_quiet (fail); try go_wp2)
         go_ret; exact ⟨by first | rfl | (simp; done) | (simp [*]; done), by repeat (first | exact Drawn0.refl _ | apply Drawn0.step)⟩
        ·rw [if_neg c8] at H
         have c8b0 : (!((((Qa7 l0 x13_1).f0).toList) == (((Qa7 l1 x13_1).f0).toList)) || (!((((Qa7 l0 x13_1).f1).toList) == (((Qa7 l1 x13_1).f1).toList)))) = false := by simpa using c8
         clear c8; have H' := Qaa.mk H; clear H; have p101 : 0 ≤ (x13_1 : Int) := dd_; have q101 : x13_1 < (l0.length : Int) := dd_; obtain ⟨ad101, e101, hx101_0, hx101_1⟩ := at_T33 HR0.out x13_1 p101 q101; cases e101; replace p101 := eq_true p101; replace q101 := eq_true q101; have p102 : 0 ≤ (x13_1 : Int) := dd_; have q102 : x13_1 < (l1.length : Int) := dd_; obtain ⟨ad102, e102, hx102_0, hx102_1⟩ := at_T33 HR1.out x13_1 p102 q102; cases e102; replace p102 := eq_true p102; replace q102 := eq_true q102; go_wp2
         repeat (go_quiet (fail); try go_wp2)
         go_roundg k1
         case measure => have := HK1.out; omega
         case rel => exact ⟨(wrap64 (x13_1 + 1)), (by first | rfl | (simp; done) | (simp [*]; done)), H', ⟨by have := HK1.out; omega⟩, by repeat (first | exact Drawn0.refl _ | apply Drawn0.step)⟩
       ·rw [if_neg c7] at H; exact absurd H (by simp)
      ·rw [if_neg c6] at H; exact absurd H (by simp)
     ·rw [if_neg c5] at H; exact absurd H (by simp)
    ·rw [if_neg c4] at H; have c4b0 : decide (x13_1 < (l0.length : Int)) = false := decide_eq_false c4; clear c4; obtain rfl := Option.some.inj H; go_wp2
     repeat (go_quiet (fail); try go_wp2)
     go_ret; exact ⟨by first | rfl | (simp; done) | (simp [*]; done), by repeat (first | exact Drawn0.refl _ | apply Drawn0.step)⟩
 ·rw [if_neg c3] at H; have c3b0 : ((l0.length : Int) == (l1.length : Int)) = false := beq_eq_false_iff_ne.mpr c3; have c3b1 : ((l0.length : Int) != (l1.length : Int)) = true := bne_iff_ne.mpr c3
  have c3b2 : (l0.length == l1.length) = false := by first | simpa using c3 | (simp at c3 ⊢; omega)
  obtain rfl := Option.some.inj H; go_enter Tryz.func35, Tryz.ntmps35; go_wp2
  repeat (go_quiet (fail); try go_wp2)
  go_ret; exact ⟨by first | rfl | (simp; done) | (simp [*]; done), by repeat (first | exact Drawn0.refl _ | apply Drawn0.step)⟩
end
section
attribute [local go_sem] QaE QaC QaS QaR Qaw Qav QaD QaB
attribute [local go_sem high] eqA31
def api_ID.l0 : Nat → List (S31) → List (S31) → Int → Int → Option (Bool)
 | 0, _, _, _, _ => none
 | k + 1, x0, x1, x12, x13 => if x13 < x12 then (if 0 ≤ x13 then (if x13 < (x0.length : Int) then (if x13 < (x1.length : Int) then (if (!(((QbH x0 x13).f0) == ((QbH x1 x13).f0)) || (!(((QbH x0 x13).f1) == ((QbH x1 x13).f1)))) = true then (some false) else (api_ID.l0 k x0 x1 x12 (wrap64 (x13 + 1)))) else (none)) else (none)) else (none)) else (some true)
def api_ID.f (k : Nat) (l0 : List (S31)) (l1 : List (S31)) : Option (Bool) := if (l0.length : Int) = (l1.length : Int) then (api_ID.l0 k l0 l1 (l0.length : Int) 0) else (some false)
set_option maxHeartbeats 8000000 in
set_option maxRecDepth 100000 in
theorem api_ID.calls (k : Nat) (A0 : Option Addr) (c0 : Nat) (l0 : List (S31)) (A1 : Option Addr) (c1 : Nat) (l1 : List (S31)) (r : Bool) (w : World) (hr0 : Kd.C k31 w A0 l0.length l0) (hc0 : l0.length ≤ c0) (hr1 : Kd.C k31 w A1 l1.length l1) (hc1 : l1.length ≤ c1) (h : api_ID.f k l0 l1 = some r) :
  Calls Tryz.prog 58 #[.slice A0 l0.length c0, .slice A1 l1.length c1] w fun e w' => e = .returned (.bool r) ∧ Drawn0 w w' := by
 have hu31 := Tryz.underlying31; have HR0 := Qaa.mk hr0; have HC0 := Qaa.mk hc0; clear hr0 hc0; have HR1 := Qaa.mk hr1; have HC1 := Qaa.mk hc1; clear hr1 hc1; have H : (if (l0.length : Int) = (l1.length : Int) then (api_ID.l0 k l0 l1 (l0.length : Int) 0) else (some false)) = some r := h; clear h
 by_cases c3 : (l0.length : Int) = (l1.length : Int)
 ·rw [if_pos c3] at H; have c3b0 : ((l0.length : Int) == (l1.length : Int)) = true := beq_iff_eq.mpr c3; have c3b1 : ((l0.length : Int) != (l1.length : Int)) = false := bne_eq_false_iff_eq.mpr c3
  have c3b2 : (l0.length == l1.length) = true := by first | simpa using c3 | (simp at c3 ⊢; omega)
  clear c3; have H' := Qaa.mk H; clear H; go_enter Tryz.func58, Tryz.ntmps58; go_wp2
  repeat (go_quiet (fail); try go_wp2)
  go_loopg [13] k (fun kq v13 w' => ∃ (x13_1 : Int), v13 = .int .i64 x13_1 ∧ Qaa (api_ID.l0 kq l0 l1 (l0.length : Int) x13_1 = some r) ∧ Qaa (kq ≤ k) ∧ Drawn0 w w')
  case atStart => exact ⟨(0), (by first | rfl | (simp; done) | (simp [*]; done)), H', ⟨Nat.le_refl _⟩, by repeat (first | exact Drawn0.refl _ | apply Drawn0.step)⟩
  case round =>
   clear H'; (try clear c1); (try clear p2); (try clear c3); (try clear c3b0); (try clear c3b1); (try clear c3b2); obtain ⟨x13_1, rfl, HA, HK1, ⟨m1, rfl⟩⟩ := hrel
   cases gk with
   | zero => exact absurd HA.out (by simp [api_ID.l0])
   | succ k1 =>
    have H := HA.out; clear HA; simp only [api_ID.l0] at H
    by_cases c4 : x13_1 < (l0.length : Int)
    ·rw [if_pos c4] at H; have c4b0 : decide (x13_1 < (l0.length : Int)) = true := decide_eq_true c4; clear c4
     by_cases c5 : 0 ≤ x13_1
     ·rw [if_pos c5] at H; have c5b0 : decide (0 ≤ x13_1) = true := decide_eq_true c5; clear c5
      by_cases c6 : x13_1 < (l0.length : Int)
      ·rw [if_pos c6] at H; have c6b0 : decide (x13_1 < (l0.length : Int)) = true := decide_eq_true c6; clear c6
       by_cases c7 : x13_1 < (l1.length : Int)
       ·rw [if_pos c7] at H; have c7b0 : decide (x13_1 < (l1.length : Int)) = true := decide_eq_true c7; clear c7
        by_cases c8 : (!(((QbH l0 x13_1).f0) == ((QbH l1 x13_1).f0)) || (!(((QbH l0 x13_1).f1) == ((QbH l1 x13_1).f1)))) = true
        ·rw [if_pos c8] at H; have c8b0 : (!(((QbH l0 x13_1).f0) == ((QbH l1 x13_1).f0)) || (!(((QbH l0 x13_1).f1) == ((QbH l1 x13_1).f1)))) = true := c8; clear c8; obtain rfl := Option.some.inj H; have p101 : 0 ≤ (x13_1 : Int) := dd_; have q101 : x13_1 < (l0.length : Int) := dd_; obtain ⟨ad101, e101, hx101_0, hx101_1⟩ := at_T31 HR0.out x13_1 p101 q101; cases e101; replace p101 := eq_true p101; replace q101 := eq_true q101; have p102 : 0 ≤ (x13_1 : Int) := dd_; have q102 : x13_1 < (l1.length : Int) := dd_; obtain ⟨ad102, e102, hx102_0, hx102_1⟩ := at_T31 HR1.out x13_1 p102 q102; cases e102; replace p102 := eq_true p102; replace q102 := eq_true q102; go_wp2
         repeat (go_quiet (fail); try go_wp2)
         go_ret; exact ⟨by first | rfl | (simp; done) | (simp [*]; done), by repeat (first | exact Drawn0.refl _ | apply Drawn0.step)⟩
        ·rw [if_neg c8] at H
         have c8b0 : (!(((QbH l0 x13_1).f0) == ((QbH l1 x13_1).f0)) || (!(((QbH l0 x13_1).f1) == ((QbH l1 x13_1).f1)))) = false := by simpa using c8
         clear c8; have H' := Qaa.mk H; clear H; have p101 : 0 ≤ (x13_1 : Int) := dd_; have q101 : x13_1 < (l0.length : Int) := dd_; obtain ⟨ad101, e101, hx101_0, hx101_1⟩ := at_T31 HR0.out x13_1 p101 q101; cases e101; replace p101 := eq_true p101; replace q101 := eq_true q101; have p102 : 0 ≤ (x13_1 : Int) := dd_; have q102 : x13_1 < (l1.length : Int) := dd_; obtain ⟨ad102, e102, hx102_0, hx102_1⟩ := at_T31 HR1.out x13_1 p102 q102; cases e102; replace p102 := eq_true p102; replace q102 := eq_true q102; go_wp2
         repeat (go_quiet (fail); try go_wp2)
         go_roundg k1
         case measure => have := HK1.out; omega
         case rel => exact ⟨(wrap64 (x13_1 + 1)), (by first | rfl | (simp; done) | (simp [*]; done)), H', ⟨by have := HK1.out; omega⟩, by repeat (first | exact Drawn0.refl _ | apply Drawn0.step)⟩
       ·rw [if_neg c7] at H; exact absurd H (by simp)
      ·rw [if_neg c6] at H; exact absurd H (by simp)
     ·rw [if_neg c5] at H; exact absurd H (by simp)
    ·rw [if_neg c4] at H; have c4b0 : decide (x13_1 < (l0.length : Int)) = false := decide_eq_false c4; clear c4; obtain rfl := Option.some.inj H; go_wp2
     repeat (go_quiet (fail); try go_wp2)
     go_ret; exact ⟨by first | rfl | (simp; done) | (simp [*]; done), by repeat (first | exact Drawn0.refl _ | apply Drawn0.step)⟩
 ·rw [if_neg c3] at H; have c3b0 : ((l0.length : Int) == (l1.length : Int)) = false := beq_eq_false_iff_ne.mpr c3; have c3b1 : ((l0.length : Int) != (l1.length : Int)) = true := bne_iff_ne.mpr c3
  have c3b2 : (l0.length == l1.length) = false := by first | simpa using c3 | (simp at c3 ⊢; omega)
  obtain rfl := Option.some.inj H; go_enter Tryz.func58, Tryz.ntmps58; go_wp2
  repeat (go_quiet (fail); try go_wp2)
  go_ret; exact ⟨by first | rfl | (simp; done) | (simp [*]; done), by repeat (first | exact Drawn0.refl _ | apply Drawn0.step)⟩
end
section
attribute [local go_sem] QaE QaC QaS QaR Qaw Qav QaD QaB
attribute [local go_sem high] eqA62
def Qay.l0 : Nat → List (S62) → Int → ByteArray → ByteArray → ByteArray → Option (Bool)
 | 0, _, _, _, _, _ => none
 | k + 1, x0, x5, x102000, x102001, x102002 => if x5 < (x0.length : Int) then (if 0 ≤ x5 then (if (((((Qah x0 x5).f0.f0).toList) == x102000.toList && ((((Qah x0 x5).f0.f1).toList) == x102001.toList)) && ((((Qah x0 x5).f1).toList) == x102002.toList)) = true then (some true) else (Qay.l0 k x0 (wrap64 (x5 + 1)) x102000 x102001 x102002)) else (none)) else (some false)
def Qay.f (k : Nat) (l0 : List (S62)) (a1_0 : ByteArray) (a1_1 : ByteArray) (a1_2 : ByteArray) : Option (Bool) := Qay.l0 k l0 0 a1_0 a1_1 a1_2
set_option maxHeartbeats 8000000 in
set_option maxRecDepth 100000 in
theorem Qay.calls (k : Nat) (A0 : Option Addr) (c0 : Nat) (l0 : List (S62)) (a1_0 : ByteArray) (a1_1 : ByteArray) (a1_2 : ByteArray) (r : Bool) (w : World) (hr0 : Kd.C k62 w A0 l0.length l0) (hc0 : l0.length ≤ c0) (h : Qay.f k l0 a1_0 a1_1 a1_2 = some r) :
  Calls Tryz.prog 13 #[.slice A0 l0.length c0, .agg #[.string a1_0, .string a1_1, .string a1_2]] w fun e w' => e = .returned (.bool r) ∧ Below w.heap.size w w' := by
 have hu62 := Tryz.underlying62; have HR0 := Qaa.mk hr0; have HC0 := Qaa.mk hc0; clear hr0 hc0; have HB := Qaa.mk (Below.refl w.heap.size w); have H : (Qay.l0 k l0 0 a1_0 a1_1 a1_2) = some r := h; clear h; have H' := Qaa.mk H; clear H; go_enter Tryz.func13, Tryz.ntmps13
 go_wp2_with (first | ((with_reducible refine QaA (N := 3) rfl ?_); refine Qax ?hg (N := 3) ?hd (cs := #[.string a1_0, .string a1_1, .string a1_2]) (t := 62) ?hr ?_; (case hd => rfl); (case hg => rfl); (case hr => first | (go_simp; done) | (go_simp; rfl)); intro gb101 hg w3 hbox hb; have BK101 := Qaa.mk (hbox); have GW101 := (gz_ hg : Qaa (w.heap.size ≤ gb101)); have GE101 := (gz_ hg : Qaa (w.heap.size ≤ gb101)); replace HB := Qaa.mk (Qac bw_ hb); clear hb hbox hg))
 repeat (go_quiet (first | ((with_reducible refine QaA (N := 3) rfl ?_); refine Qax ?hg (N := 3) ?hd (cs := #[.string a1_0, .string a1_1, .string a1_2]) (t := 62) ?hr ?_; (case hd => rfl); (case hg => rfl); (case hr => first | (go_simp; done) | (go_simp; rfl)); intro gb101 hg w3 hbox hb; have BK101 := Qaa.mk (hbox); have GW101 := (gz_ hg : Qaa (w.heap.size ≤ gb101)); have GE101 := (gz_ hg : Qaa (w.heap.size ≤ gb101)); replace HB := Qaa.mk (Qac bw_ hb); clear hb hbox hg)); try go_wp2_with (first | ((with_reducible refine QaA (N := 3) rfl ?_); refine Qax ?hg (N := 3) ?hd (cs := #[.string a1_0, .string a1_1, .string a1_2]) (t := 62) ?hr ?_; (case hd => rfl); (case hg => rfl); (case hr => first | (go_simp; done) | (go_simp; rfl)); intro gb101 hg w3 hbox hb; have BK101 := Qaa.mk (hbox); have GW101 := (gz_ hg : Qaa (w.heap.size ≤ gb101)); have GE101 := (gz_ hg : Qaa (w.heap.size ≤ gb101)); replace HB := Qaa.mk (Qac bw_ hb); clear hb hbox hg)))
 go_loopg [5] k (fun kq v5 w' => ∃ (x5_1 : Int), v5 = .int .i64 x5_1 ∧ Qaa (Qay.l0 kq l0 x5_1 a1_0 a1_1 a1_2 = some r) ∧ Qaa (kq ≤ k) ∧ Qaa (w'.heap[gb101]? = some (.cells #[.string a1_0, .string a1_1, .string a1_2] 62 (0, 0))) ∧ Qaa (Below w.heap.size w w'))
 case atStart => exact ⟨(0), (by first | rfl | (simp; done) | (simp [*]; done)), H', ⟨Nat.le_refl _⟩, ⟨by (with_reducible repeat (first | refine Qat ?_ _ | refine Qan ?_ | refine Qam ?_ _)); exact BK101.out⟩, ⟨bw_⟩⟩
 case round =>
  clear H'; (try clear c1); (try clear p2); obtain ⟨x5_1, rfl, HA, HK1, BK101, HB⟩ := hrel
  cases gk with
  | zero => exact absurd HA.out (by simp [Qay.l0])
  | succ k1 =>
   have H := HA.out; clear HA; simp only [Qay.l0] at H
   by_cases c4 : x5_1 < (l0.length : Int)
   ·rw [if_pos c4] at H; have c4b0 : decide (x5_1 < (l0.length : Int)) = true := decide_eq_true c4; clear c4
    by_cases c5 : 0 ≤ x5_1
    ·rw [if_pos c5] at H; have c5b0 : decide (0 ≤ x5_1) = true := decide_eq_true c5; clear c5
     by_cases c6 : (((((Qah l0 x5_1).f0.f0).toList) == a1_0.toList && ((((Qah l0 x5_1).f0.f1).toList) == a1_1.toList)) && ((((Qah l0 x5_1).f1).toList) == a1_2.toList)) = true
     ·rw [if_pos c6] at H; have c6b0 : (((((Qah l0 x5_1).f0.f0).toList) == a1_0.toList && ((((Qah l0 x5_1).f0.f1).toList) == a1_1.toList)) && ((((Qah l0 x5_1).f1).toList) == a1_2.toList)) = true := c6; clear c6; obtain rfl := Option.some.inj H; have p102 : 0 ≤ (x5_1 : Int) := dd_; have q102 : x5_1 < (l0.length : Int) := dd_; obtain ⟨ad102, e102, hx102_0, hx102_1, hx102_2⟩ := QbL HR0.out x5_1 p102 q102; cases e102; replace hx102_0 := cb_ HB hx102_0; replace hx102_1 := cb_ HB hx102_1; replace hx102_2 := cb_ HB hx102_2; replace p102 := eq_true p102; replace q102 := eq_true q102; have c7_0 : wr.cell? ⟨gb101, 0, none⟩ = some (.string a1_0) := (Qak BK101.out 0).trans rfl; have c7_1 : wr.cell? ⟨gb101, 1, none⟩ = some (.string a1_1) := (Qak BK101.out 1).trans rfl; have c7_2 : wr.cell? ⟨gb101, 2, none⟩ = some (.string a1_2) := (Qak BK101.out 2).trans rfl; obtain ⟨f7_0, f7_1, f7_2⟩ := fz_3 BK101.out; go_wp2
      repeat (go_quiet (fail); try go_wp2)
      go_ret; exact ⟨by first | rfl | (simp [Qap, Qao] <;> rfl) | (simp [*, Qap, Qao] <;> rfl), bw_⟩
     ·rw [if_neg c6] at H
      have c6b0 : (((((Qah l0 x5_1).f0.f0).toList) == a1_0.toList && ((((Qah l0 x5_1).f0.f1).toList) == a1_1.toList)) && ((((Qah l0 x5_1).f1).toList) == a1_2.toList)) = false := by simpa using c6
      clear c6; have H' := Qaa.mk H; clear H; have p102 : 0 ≤ (x5_1 : Int) := dd_; have q102 : x5_1 < (l0.length : Int) := dd_; obtain ⟨ad102, e102, hx102_0, hx102_1, hx102_2⟩ := QbL HR0.out x5_1 p102 q102; cases e102; replace hx102_0 := cb_ HB hx102_0; replace hx102_1 := cb_ HB hx102_1; replace hx102_2 := cb_ HB hx102_2; replace p102 := eq_true p102; replace q102 := eq_true q102; have c8_0 : wr.cell? ⟨gb101, 0, none⟩ = some (.string a1_0) := (Qak BK101.out 0).trans rfl; have c8_1 : wr.cell? ⟨gb101, 1, none⟩ = some (.string a1_1) := (Qak BK101.out 1).trans rfl; have c8_2 : wr.cell? ⟨gb101, 2, none⟩ = some (.string a1_2) := (Qak BK101.out 2).trans rfl; obtain ⟨f8_0, f8_1, f8_2⟩ := fz_3 BK101.out; go_wp2
      repeat (go_quiet (fail); try go_wp2)
      go_roundg k1
      case measure => have := HK1.out; omega
      case rel => exact ⟨(wrap64 (x5_1 + 1)), (by first | rfl | (simp; done) | (simp [*]; done)), H', ⟨by have := HK1.out; omega⟩, ⟨by (with_reducible repeat (first | refine Qat ?_ _ | refine Qan ?_ | refine Qam ?_ _)); exact BK101.out⟩, ⟨bw_⟩⟩
    ·rw [if_neg c5] at H; exact absurd H (by simp)
   ·rw [if_neg c4] at H; have c4b0 : decide (x5_1 < (l0.length : Int)) = false := decide_eq_false c4; clear c4; obtain rfl := Option.some.inj H; go_wp2
    repeat (go_quiet (fail); try go_wp2)
    go_ret; exact ⟨by first | rfl | (simp [Qap, Qao] <;> rfl) | (simp [*, Qap, Qao] <;> rfl), bw_⟩
end
section
attribute [local go_sem] QaE QaC QaS QaR Qaw Qav QaD QaB
mutual
def Qas.j0 : Nat → ByteArray → Bool → Option (Bool)
 | 0, _, _ => none
 | k + 1, x0, x23 => if x23 = true then (some false) else (Qas.l0 k x0 1)
def Qas.l0 : Nat → ByteArray → Int → Option (Bool)
 | 0, _, _ => none
 | k + 1, x0, x3 => if x3 < (x0.size : Int) then (if 0 ≤ x3 then (if (bt x0 x3) ≥ 97 then (if (bt x0 x3) ≥ 48 then (if ((bt x0 x3) ≤ 122) then (Qas.l0 k x0 (wrap64 (x3 + 1))) else (if ((bt x0 x3) ≤ 57) then (Qas.l0 k x0 (wrap64 (x3 + 1))) else (some false))) else (if ((bt x0 x3) ≤ 122) then (Qas.l0 k x0 (wrap64 (x3 + 1))) else (some false))) else (if (bt x0 x3) ≥ 48 then (if ((bt x0 x3) ≤ 57) then (Qas.l0 k x0 (wrap64 (x3 + 1))) else (some false)) else (some false))) else (none)) else (some true)
end
def Qas.f (k : Nat) (a0 : ByteArray) : Option (Bool) := if (a0.size : Int) < 1 then (Qas.j0 k a0 true) else (if (a0.size : Int) > 8 then (Qas.j0 k a0 true) else (if 0 < (a0.size : Int) then (if (bt a0 0) < 97 then (Qas.j0 k a0 true) else (Qas.j0 k a0 (decide ((bt a0 0) > 122)))) else (none)))
set_option maxHeartbeats 8000000 in
set_option maxRecDepth 100000 in
theorem Qas.calls (k : Nat) (a0 : ByteArray) (r : Bool) (w : World) (h : Qas.f k a0 = some r) :
  Calls Tryz.prog 43 #[.string a0] w fun e w' => e = .returned (.bool r) ∧ Drawn0 w w' := by
 have H : (if (a0.size : Int) < 1 then (Qas.j0 k a0 true) else (if (a0.size : Int) > 8 then (Qas.j0 k a0 true) else (if 0 < (a0.size : Int) then (if (bt a0 0) < 97 then (Qas.j0 k a0 true) else (Qas.j0 k a0 (decide ((bt a0 0) > 122)))) else (none)))) = some r := h; clear h; have HC2 := Qaa.mk H; clear H; go_enter Tryz.func43, Tryz.ntmps43
 go_upto_region 1 with (fail)
 go_cut [23] (fun v23 wc => ∃ (kq : Nat) (x23_1 : Bool), v23 = .bool x23_1 ∧ Qaa (Qas.j0 kq a0 x23_1 = some r) ∧ Qaa (kq ≤ k) ∧ Drawn0 w wc)
 case first =>
  have H := HC2.out; clear HC2
  by_cases c3 : (a0.size : Int) < 1
  ·rw [if_pos c3] at H; have c3b0 : decide ((a0.size : Int) < 1) = true := decide_eq_true c3; have c3b1 : decide (a0.size < 1) = true := decide_eq_true (by omega); clear c3
   (first | rw [c3b0] | (simp only [Qbe, Qbh]; rw [c3b0]) | skip)
   have H' := Qaa.mk H; clear H; go_wp2
   go_meet
   case rel => exact ⟨_, (true), (by first | rfl | (simp; done) | (simp [*]; done)), H', ⟨by first | omega | exact Nat.le_refl _⟩, by repeat (first | exact Drawn0.refl _ | apply Drawn0.step)⟩
  ·rw [if_neg c3] at H; have c3b0 : decide ((a0.size : Int) < 1) = false := decide_eq_false c3; have c3b1 : decide (a0.size < 1) = false := decide_eq_false (by omega); clear c3
   (first | rw [c3b0] | (simp only [Qbe, Qbh]; rw [c3b0]) | skip)
   by_cases c4 : (a0.size : Int) > 8
   ·rw [if_pos c4] at H; have c4b0 : decide (8 < (a0.size : Int)) = true := decide_eq_true c4; have c4b1 : decide (8 < a0.size) = true := decide_eq_true (by omega); clear c4; have H' := Qaa.mk H; clear H; go_wp2
    go_meet
    case rel => exact ⟨_, (true), (by first | rfl | (simp; done) | (simp [*]; done)), H', ⟨by first | omega | exact Nat.le_refl _⟩, by repeat (first | exact Drawn0.refl _ | apply Drawn0.step)⟩
   ·rw [if_neg c4] at H; have c4b0 : decide (8 < (a0.size : Int)) = false := decide_eq_false c4; have c4b1 : decide (8 < a0.size) = false := decide_eq_false (by omega); clear c4
    by_cases c5 : 0 < (a0.size : Int)
    ·rw [if_pos c5] at H; have c5b0 : decide (0 < (a0.size : Int)) = true := decide_eq_true c5; have c5b1 : decide (0 < a0.size) = true := decide_eq_true (by omega); clear c5
     by_cases c7 : (bt a0 0) < 97
     ·rw [if_pos c7] at H; have c7b0 : decide ((bt a0 0) < 97) = true := decide_eq_true c7; clear c7; have H' := Qaa.mk H; clear H
      have p6 : 0 ≤ (0 : Int) := (by omega)
      have q6 : 0 < a0.size := (by have : (0 : Int) < (a0.size : Int) := dd_; omega)
      have hx6 : ∀ h : 0 < a0.size, ((a0[0]'h).toNat : Int) = bt a0 0 := Qbv a0 0; clear p6; have qi6 : (0 < (a0.size : Int)) = True := eq_true (dd_); replace q6 := eq_true q6; go_wp2
      go_meet
      case rel => exact ⟨_, (true), (by first | rfl | (simp; done) | (simp [*]; done)), H', ⟨by first | omega | exact Nat.le_refl _⟩, by repeat (first | exact Drawn0.refl _ | apply Drawn0.step)⟩
     ·rw [if_neg c7] at H; have c7b0 : decide ((bt a0 0) < 97) = false := decide_eq_false c7; clear c7; have H' := Qaa.mk H; clear H
      have p6 : 0 ≤ (0 : Int) := (by omega)
      have q6 : 0 < a0.size := (by have : (0 : Int) < (a0.size : Int) := dd_; omega)
      have hx6 : ∀ h : 0 < a0.size, ((a0[0]'h).toNat : Int) = bt a0 0 := Qbv a0 0; clear p6; have qi6 : (0 < (a0.size : Int)) = True := eq_true (dd_); replace q6 := eq_true q6
      have p8 : 0 ≤ (0 : Int) := (by omega)
      have q8 : 0 < a0.size := (by have : (0 : Int) < (a0.size : Int) := dd_; omega)
      have hx8 : ∀ h : 0 < a0.size, ((a0[0]'h).toNat : Int) = bt a0 0 := Qbv a0 0; clear p8; have qi8 : (0 < (a0.size : Int)) = True := eq_true (dd_); replace q8 := eq_true q8; go_wp2
      go_meet
      case rel => exact ⟨_, (decide ((bt a0 0) > 122)), (by first | rfl | (simp; done) | (simp [*]; done)), H', ⟨by first | omega | exact Nat.le_refl _⟩, by repeat (first | exact Drawn0.refl _ | apply Drawn0.step)⟩
    ·rw [if_neg c5] at H; exact absurd H (by simp)
 case rest =>
  clear HC2; (try clear p2); (try clear c3); (try clear c3b0); (try clear c3b1); (try clear c4); (try clear c4b0); (try clear c4b1); (try clear c5); (try clear c5b0); (try clear c5b1); (try clear p6); (try clear q6); (try clear hx6); (try clear qi6); (try clear c7); (try clear c7b0); (try clear p8); (try clear q8); (try clear hx8); (try clear qi8); (try clear p6); (try clear p8); (try clear q6); (try clear q8); obtain ⟨kq, x23_1, rfl, HA, HJ1, ⟨mc1, rfl⟩⟩ := hcut
  cases kq with
  | zero => exact absurd HA.out (by simp [Qas.j0])
  | succ kj1 =>
   have H := HA.out; clear HA; simp only [Qas.j0] at H
   by_cases c9 : x23_1 = true
   ·subst c9
    have H1 : (some false) = some r := by rw [if_pos rfl] at H; exact H
    clear H; have H := H1; clear H1; obtain rfl := Option.some.inj H; go_wp2; go_ret; exact ⟨by first | rfl | (simp; done) | (simp [*]; done), by repeat (first | exact Drawn0.refl _ | apply Drawn0.step)⟩
   ·replace c9 := Bool.eq_false_iff.mpr c9; subst c9
    have H1 : (Qas.l0 kj1 a0 1) = some r := by rw [if_neg (show ¬ (false = true) by decide)] at H; exact H
    clear H; have H := H1; clear H1; have H' := Qaa.mk H; clear H; go_wp2
    go_loopg [3] kj1 (fun kq v3 w' => ∃ (x3_2 : Int), v3 = .int .i64 x3_2 ∧ Qaa (Qas.l0 kq a0 x3_2 = some r) ∧ Qaa (kq ≤ kj1) ∧ Drawn0 w w')
    case atStart => exact ⟨(1), (by first | rfl | (simp; done) | (simp [*]; done)), H', ⟨Nat.le_refl _⟩, by repeat (first | exact Drawn0.refl _ | apply Drawn0.step)⟩
    case round =>
     clear H'; (try clear c1); (try clear p2); (try clear c3); (try clear c3b0); (try clear c3b1); (try clear c4); (try clear c4b0); (try clear c4b1); (try clear c5); (try clear c5b0); (try clear c5b1); (try clear p6); (try clear q6); (try clear hx6); (try clear qi6); (try clear c7); (try clear c7b0); (try clear p8); (try clear q8); (try clear hx8); (try clear qi8); (try clear c9); (try clear p2); (try clear p6); (try clear p8); (try clear q6); (try clear q8); obtain ⟨x3_2, rfl, HA, HK2, ⟨m2, rfl⟩⟩ := hrel
     cases gk with
     | zero => exact absurd HA.out (by simp [Qas.l0])
     | succ k2 =>
      have H := HA.out; clear HA; simp only [Qas.l0] at H
      by_cases c10 : x3_2 < (a0.size : Int)
      ·rw [if_pos c10] at H; have c10b0 : decide (x3_2 < (a0.size : Int)) = true := decide_eq_true c10; clear c10
       by_cases c11 : 0 ≤ x3_2
       ·rw [if_pos c11] at H; have c11b0 : decide (0 ≤ x3_2) = true := decide_eq_true c11; clear c11
        by_cases c13 : (bt a0 x3_2) ≥ 97
        ·rw [if_pos c13] at H; have c13b0 : decide (97 ≤ (bt a0 x3_2)) = true := decide_eq_true c13; clear c13
         by_cases c16 : (bt a0 x3_2) ≥ 48
         ·rw [if_pos c16] at H; have c16b0 : decide (48 ≤ (bt a0 x3_2)) = true := decide_eq_true c16; clear c16
          by_cases c18 : ((bt a0 x3_2) ≤ 122)
          ·rw [if_pos c18] at H; have c18b0 : decide ((bt a0 x3_2) ≤ 122) = true := decide_eq_true c18; clear c18; have H' := Qaa.mk H; clear H; have p12 : 0 ≤ (x3_2 : Int) := dd_; have q12 : x3_2 < (a0.size : Int) := dd_; have hx12 := Qbv a0 x3_2; replace p12 := eq_true p12; replace q12 := eq_true q12; have p14 : 0 ≤ (x3_2 : Int) := dd_; have q14 : x3_2 < (a0.size : Int) := dd_; have hx14 := Qbv a0 x3_2; replace p14 := eq_true p14; replace q14 := eq_true q14; have p15 : 0 ≤ (x3_2 : Int) := dd_; have q15 : x3_2 < (a0.size : Int) := dd_; have hx15 := Qbv a0 x3_2; replace p15 := eq_true p15; replace q15 := eq_true q15; have p17 : 0 ≤ (x3_2 : Int) := dd_; have q17 : x3_2 < (a0.size : Int) := dd_; have hx17 := Qbv a0 x3_2; replace p17 := eq_true p17; replace q17 := eq_true q17; go_wp2
           go_roundg k2
           case measure => have := HJ1.out; have := HK2.out; omega
           case rel => exact ⟨(wrap64 (x3_2 + 1)), (by first | rfl | (simp; done) | (simp [*]; done)), H', ⟨by have := HJ1.out; have := HK2.out; omega⟩, by repeat (first | exact Drawn0.refl _ | apply Drawn0.step)⟩
          ·rw [if_neg c18] at H; have c18b0 : decide ((bt a0 x3_2) ≤ 122) = false := decide_eq_false c18; clear c18
           by_cases c19 : ((bt a0 x3_2) ≤ 57)
           ·rw [if_pos c19] at H; have c19b0 : decide ((bt a0 x3_2) ≤ 57) = true := decide_eq_true c19; clear c19; have H' := Qaa.mk H; clear H; have p12 : 0 ≤ (x3_2 : Int) := dd_; have q12 : x3_2 < (a0.size : Int) := dd_; have hx12 := Qbv a0 x3_2; replace p12 := eq_true p12; replace q12 := eq_true q12; have p14 : 0 ≤ (x3_2 : Int) := dd_; have q14 : x3_2 < (a0.size : Int) := dd_; have hx14 := Qbv a0 x3_2; replace p14 := eq_true p14; replace q14 := eq_true q14; have p15 : 0 ≤ (x3_2 : Int) := dd_; have q15 : x3_2 < (a0.size : Int) := dd_; have hx15 := Qbv a0 x3_2; replace p15 := eq_true p15; replace q15 := eq_true q15; have p17 : 0 ≤ (x3_2 : Int) := dd_; have q17 : x3_2 < (a0.size : Int) := dd_; have hx17 := Qbv a0 x3_2; replace p17 := eq_true p17; replace q17 := eq_true q17; go_wp2
            go_roundg k2
            case measure => have := HJ1.out; have := HK2.out; omega
            case rel => exact ⟨(wrap64 (x3_2 + 1)), (by first | rfl | (simp; done) | (simp [*]; done)), H', ⟨by have := HJ1.out; have := HK2.out; omega⟩, by repeat (first | exact Drawn0.refl _ | apply Drawn0.step)⟩
           ·rw [if_neg c19] at H; have c19b0 : decide ((bt a0 x3_2) ≤ 57) = false := decide_eq_false c19; clear c19; obtain rfl := Option.some.inj H; have p12 : 0 ≤ (x3_2 : Int) := dd_; have q12 : x3_2 < (a0.size : Int) := dd_; have hx12 := Qbv a0 x3_2; replace p12 := eq_true p12; replace q12 := eq_true q12; have p14 : 0 ≤ (x3_2 : Int) := dd_; have q14 : x3_2 < (a0.size : Int) := dd_; have hx14 := Qbv a0 x3_2; replace p14 := eq_true p14; replace q14 := eq_true q14; have p15 : 0 ≤ (x3_2 : Int) := dd_; have q15 : x3_2 < (a0.size : Int) := dd_; have hx15 := Qbv a0 x3_2; replace p15 := eq_true p15; replace q15 := eq_true q15; have p17 : 0 ≤ (x3_2 : Int) := dd_; have q17 : x3_2 < (a0.size : Int) := dd_; have hx17 := Qbv a0 x3_2; replace p17 := eq_true p17; replace q17 := eq_true q17; go_wp2; go_ret; exact ⟨by first | rfl | (simp; done) | (simp [*]; done), by repeat (first | exact Drawn0.refl _ | apply Drawn0.step)⟩
         ·rw [if_neg c16] at H; have c16b0 : decide (48 ≤ (bt a0 x3_2)) = false := decide_eq_false c16; clear c16
          by_cases c20 : ((bt a0 x3_2) ≤ 122)
          ·rw [if_pos c20] at H; have c20b0 : decide ((bt a0 x3_2) ≤ 122) = true := decide_eq_true c20; clear c20; have H' := Qaa.mk H; clear H; have p12 : 0 ≤ (x3_2 : Int) := dd_; have q12 : x3_2 < (a0.size : Int) := dd_; have hx12 := Qbv a0 x3_2; replace p12 := eq_true p12; replace q12 := eq_true q12; have p14 : 0 ≤ (x3_2 : Int) := dd_; have q14 : x3_2 < (a0.size : Int) := dd_; have hx14 := Qbv a0 x3_2; replace p14 := eq_true p14; replace q14 := eq_true q14; have p15 : 0 ≤ (x3_2 : Int) := dd_; have q15 : x3_2 < (a0.size : Int) := dd_; have hx15 := Qbv a0 x3_2; replace p15 := eq_true p15; replace q15 := eq_true q15; go_wp2
           go_roundg k2
           case measure => have := HJ1.out; have := HK2.out; omega
           case rel => exact ⟨(wrap64 (x3_2 + 1)), (by first | rfl | (simp; done) | (simp [*]; done)), H', ⟨by have := HJ1.out; have := HK2.out; omega⟩, by repeat (first | exact Drawn0.refl _ | apply Drawn0.step)⟩
          ·rw [if_neg c20] at H; have c20b0 : decide ((bt a0 x3_2) ≤ 122) = false := decide_eq_false c20; clear c20; obtain rfl := Option.some.inj H; have p12 : 0 ≤ (x3_2 : Int) := dd_; have q12 : x3_2 < (a0.size : Int) := dd_; have hx12 := Qbv a0 x3_2; replace p12 := eq_true p12; replace q12 := eq_true q12; have p14 : 0 ≤ (x3_2 : Int) := dd_; have q14 : x3_2 < (a0.size : Int) := dd_; have hx14 := Qbv a0 x3_2; replace p14 := eq_true p14; replace q14 := eq_true q14; have p15 : 0 ≤ (x3_2 : Int) := dd_; have q15 : x3_2 < (a0.size : Int) := dd_; have hx15 := Qbv a0 x3_2; replace p15 := eq_true p15; replace q15 := eq_true q15; go_wp2; go_ret; exact ⟨by first | rfl | (simp; done) | (simp [*]; done), by repeat (first | exact Drawn0.refl _ | apply Drawn0.step)⟩
        ·rw [if_neg c13] at H; have c13b0 : decide (97 ≤ (bt a0 x3_2)) = false := decide_eq_false c13; clear c13
         by_cases c22 : (bt a0 x3_2) ≥ 48
         ·rw [if_pos c22] at H; have c22b0 : decide (48 ≤ (bt a0 x3_2)) = true := decide_eq_true c22; clear c22
          by_cases c24 : ((bt a0 x3_2) ≤ 57)
          ·rw [if_pos c24] at H; have c24b0 : decide ((bt a0 x3_2) ≤ 57) = true := decide_eq_true c24; clear c24; have H' := Qaa.mk H; clear H; have p12 : 0 ≤ (x3_2 : Int) := dd_; have q12 : x3_2 < (a0.size : Int) := dd_; have hx12 := Qbv a0 x3_2; replace p12 := eq_true p12; replace q12 := eq_true q12; have p21 : 0 ≤ (x3_2 : Int) := dd_; have q21 : x3_2 < (a0.size : Int) := dd_; have hx21 := Qbv a0 x3_2; replace p21 := eq_true p21; replace q21 := eq_true q21; have p23 : 0 ≤ (x3_2 : Int) := dd_; have q23 : x3_2 < (a0.size : Int) := dd_; have hx23 := Qbv a0 x3_2; replace p23 := eq_true p23; replace q23 := eq_true q23; go_wp2
           go_roundg k2
           case measure => have := HJ1.out; have := HK2.out; omega
           case rel => exact ⟨(wrap64 (x3_2 + 1)), (by first | rfl | (simp; done) | (simp [*]; done)), H', ⟨by have := HJ1.out; have := HK2.out; omega⟩, by repeat (first | exact Drawn0.refl _ | apply Drawn0.step)⟩
          ·rw [if_neg c24] at H; have c24b0 : decide ((bt a0 x3_2) ≤ 57) = false := decide_eq_false c24; clear c24; obtain rfl := Option.some.inj H; have p12 : 0 ≤ (x3_2 : Int) := dd_; have q12 : x3_2 < (a0.size : Int) := dd_; have hx12 := Qbv a0 x3_2; replace p12 := eq_true p12; replace q12 := eq_true q12; have p21 : 0 ≤ (x3_2 : Int) := dd_; have q21 : x3_2 < (a0.size : Int) := dd_; have hx21 := Qbv a0 x3_2; replace p21 := eq_true p21; replace q21 := eq_true q21; have p23 : 0 ≤ (x3_2 : Int) := dd_; have q23 : x3_2 < (a0.size : Int) := dd_; have hx23 := Qbv a0 x3_2; replace p23 := eq_true p23; replace q23 := eq_true q23; go_wp2; go_ret; exact ⟨by first | rfl | (simp; done) | (simp [*]; done), by repeat (first | exact Drawn0.refl _ | apply Drawn0.step)⟩
         ·rw [if_neg c22] at H; have c22b0 : decide (48 ≤ (bt a0 x3_2)) = false := decide_eq_false c22; clear c22; obtain rfl := Option.some.inj H; have p12 : 0 ≤ (x3_2 : Int) := dd_; have q12 : x3_2 < (a0.size : Int) := dd_; have hx12 := Qbv a0 x3_2; replace p12 := eq_true p12; replace q12 := eq_true q12; have p21 : 0 ≤ (x3_2 : Int) := dd_; have q21 : x3_2 < (a0.size : Int) := dd_; have hx21 := Qbv a0 x3_2; replace p21 := eq_true p21; replace q21 := eq_true q21; go_wp2; go_ret; exact ⟨by first | rfl | (simp; done) | (simp [*]; done), by repeat (first | exact Drawn0.refl _ | apply Drawn0.step)⟩
       ·rw [if_neg c11] at H; exact absurd H (by simp)
      ·rw [if_neg c10] at H; have c10b0 : decide (x3_2 < (a0.size : Int)) = false := decide_eq_false c10; clear c10; obtain rfl := Option.some.inj H; go_wp2; go_ret; exact ⟨by first | rfl | (simp; done) | (simp [*]; done), by repeat (first | exact Drawn0.refl _ | apply Drawn0.step)⟩

mutual
def Qaj.j0 : Nat → ByteArray → Bool → Option (Int)
 | 0, _, _ => none
 | k + 1, x0, x26 => if x26 = true then (some 0) else (if 1 < (x0.size : Int) then (if (x0.size : Int) = 3 then (if 2 < (x0.size : Int) then (if (bt x0 2) < 48 then (Qaj.j1 k x0 (((bt x0 1) - 48) % 256) true) else (Qaj.j1 k x0 (((bt x0 1) - 48) % 256) (decide ((bt x0 2) > 57)))) else (none)) else (if (((bt x0 1) - 48) % 256) > 16 then (some 0) else (some (((bt x0 1) - 48) % 256)))) else (none))
def Qaj.j1 : Nat → ByteArray → Int → Bool → Option (Int)
 | 0, _, _, _ => none
 | k + 1, x0, x3, x41 => if x41 = true then (some 0) else (if 2 < (x0.size : Int) then (if (((10 * x3) + (((bt x0 2) - 48) % 256))) > 16 then (some 0) else (some (((10 * x3) + (((bt x0 2) - 48) % 256))))) else (none))
end
def Qaj.f (k : Nat) (a0 : ByteArray) : Option (Int) := if (a0.size : Int) < 2 then (Qaj.j0 k a0 true) else (if (a0.size : Int) > 3 then (Qaj.j0 k a0 true) else (if 0 < (a0.size : Int) then (if (bt a0 0) = 100 then (if 1 < (a0.size : Int) then (if (bt a0 1) < 49 then (Qaj.j0 k a0 true) else (Qaj.j0 k a0 (decide ((bt a0 1) > 57)))) else (none)) else (Qaj.j0 k a0 true)) else (none)))
set_option maxHeartbeats 8000000 in
set_option maxRecDepth 100000 in
theorem Qaj.calls (k : Nat) (a0 : ByteArray) (r : Int) (w : World) (h : Qaj.f k a0 = some r) :
  Calls Tryz.prog 60 #[.string a0] w fun e w' => e = .returned (.int .i64 r) ∧ Drawn0 w w' := by
 have H : (if (a0.size : Int) < 2 then (Qaj.j0 k a0 true) else (if (a0.size : Int) > 3 then (Qaj.j0 k a0 true) else (if 0 < (a0.size : Int) then (if (bt a0 0) = 100 then (if 1 < (a0.size : Int) then (if (bt a0 1) < 49 then (Qaj.j0 k a0 true) else (Qaj.j0 k a0 (decide ((bt a0 1) > 57)))) else (none)) else (Qaj.j0 k a0 true)) else (none)))) = some r := h; clear h; have HC2 := Qaa.mk H; clear H; go_enter Tryz.func60, Tryz.ntmps60
 go_upto_region 1 with (fail)
 go_cut [26] (fun v26 wc => ∃ (kq : Nat) (x26_1 : Bool), v26 = .bool x26_1 ∧ Qaa (Qaj.j0 kq a0 x26_1 = some r) ∧ Qaa (kq ≤ k) ∧ Drawn0 w wc)
 case first =>
  have H := HC2.out; clear HC2
  by_cases c3 : (a0.size : Int) < 2
  ·rw [if_pos c3] at H; have c3b0 : decide ((a0.size : Int) < 2) = true := decide_eq_true c3; have c3b1 : decide (a0.size < 2) = true := decide_eq_true (by omega); clear c3
   (first | rw [c3b0] | (simp only [Qbe, Qbh]; rw [c3b0]) | skip)
   have H' := Qaa.mk H; clear H; go_wp2
   go_meet
   case rel => exact ⟨_, (true), (by first | rfl | (simp; done) | (simp [*]; done)), H', ⟨by first | omega | exact Nat.le_refl _⟩, by repeat (first | exact Drawn0.refl _ | apply Drawn0.step)⟩
  ·rw [if_neg c3] at H; have c3b0 : decide ((a0.size : Int) < 2) = false := decide_eq_false c3; have c3b1 : decide (a0.size < 2) = false := decide_eq_false (by omega); clear c3
   (first | rw [c3b0] | (simp only [Qbe, Qbh]; rw [c3b0]) | skip)
   by_cases c4 : (a0.size : Int) > 3
   ·rw [if_pos c4] at H; have c4b0 : decide (3 < (a0.size : Int)) = true := decide_eq_true c4; have c4b1 : decide (3 < a0.size) = true := decide_eq_true (by omega); clear c4; have H' := Qaa.mk H; clear H; go_wp2
    go_meet
    case rel => exact ⟨_, (true), (by first | rfl | (simp; done) | (simp [*]; done)), H', ⟨by first | omega | exact Nat.le_refl _⟩, by repeat (first | exact Drawn0.refl _ | apply Drawn0.step)⟩
   ·rw [if_neg c4] at H; have c4b0 : decide (3 < (a0.size : Int)) = false := decide_eq_false c4; have c4b1 : decide (3 < a0.size) = false := decide_eq_false (by omega); clear c4
    by_cases c5 : 0 < (a0.size : Int)
    ·rw [if_pos c5] at H; have c5b0 : decide (0 < (a0.size : Int)) = true := decide_eq_true c5; have c5b1 : decide (0 < a0.size) = true := decide_eq_true (by omega); clear c5
     by_cases c7 : (bt a0 0) = 100
     ·rw [if_pos c7] at H; have c7b0 : ((bt a0 0) == 100) = true := beq_iff_eq.mpr c7; have c7b1 : ((bt a0 0) != 100) = false := bne_eq_false_iff_eq.mpr c7; clear c7
      by_cases c8 : 1 < (a0.size : Int)
      ·rw [if_pos c8] at H; have c8b0 : decide (1 < (a0.size : Int)) = true := decide_eq_true c8; have c8b1 : decide (1 < a0.size) = true := decide_eq_true (by omega); clear c8
       by_cases c10 : (bt a0 1) < 49
       ·rw [if_pos c10] at H; have c10b0 : decide ((bt a0 1) < 49) = true := decide_eq_true c10; clear c10; have H' := Qaa.mk H; clear H
        have p6 : 0 ≤ (0 : Int) := (by omega)
        have q6 : 0 < a0.size := (by have : (0 : Int) < (a0.size : Int) := dd_; omega)
        have hx6 : ∀ h : 0 < a0.size, ((a0[0]'h).toNat : Int) = bt a0 0 := Qbv a0 0; clear p6; have qi6 : (0 < (a0.size : Int)) = True := eq_true (dd_); replace q6 := eq_true q6
        have p9 : 0 ≤ (1 : Int) := (by omega)
        have q9 : 1 < a0.size := (by have : (1 : Int) < (a0.size : Int) := dd_; omega)
        have hx9 : ∀ h : 1 < a0.size, ((a0[1]'h).toNat : Int) = bt a0 1 := Qbv a0 1; clear p9; have qi9 : (1 < (a0.size : Int)) = True := eq_true (dd_); replace q9 := eq_true q9; go_wp2
        go_meet
        case rel => exact ⟨_, (true), (by first | rfl | (simp; done) | (simp [*]; done)), H', ⟨by first | omega | exact Nat.le_refl _⟩, by repeat (first | exact Drawn0.refl _ | apply Drawn0.step)⟩
       ·rw [if_neg c10] at H; have c10b0 : decide ((bt a0 1) < 49) = false := decide_eq_false c10; clear c10; have H' := Qaa.mk H; clear H
        have p6 : 0 ≤ (0 : Int) := (by omega)
        have q6 : 0 < a0.size := (by have : (0 : Int) < (a0.size : Int) := dd_; omega)
        have hx6 : ∀ h : 0 < a0.size, ((a0[0]'h).toNat : Int) = bt a0 0 := Qbv a0 0; clear p6; have qi6 : (0 < (a0.size : Int)) = True := eq_true (dd_); replace q6 := eq_true q6
        have p9 : 0 ≤ (1 : Int) := (by omega)
        have q9 : 1 < a0.size := (by have : (1 : Int) < (a0.size : Int) := dd_; omega)
        have hx9 : ∀ h : 1 < a0.size, ((a0[1]'h).toNat : Int) = bt a0 1 := Qbv a0 1; clear p9; have qi9 : (1 < (a0.size : Int)) = True := eq_true (dd_); replace q9 := eq_true q9
        have p11 : 0 ≤ (1 : Int) := (by omega)
        have q11 : 1 < a0.size := (by have : (1 : Int) < (a0.size : Int) := dd_; omega)
        have hx11 : ∀ h : 1 < a0.size, ((a0[1]'h).toNat : Int) = bt a0 1 := Qbv a0 1; clear p11; have qi11 : (1 < (a0.size : Int)) = True := eq_true (dd_); replace q11 := eq_true q11; go_wp2
        go_meet
        case rel => exact ⟨_, (decide ((bt a0 1) > 57)), (by first | rfl | (simp; done) | (simp [*]; done)), H', ⟨by first | omega | exact Nat.le_refl _⟩, by repeat (first | exact Drawn0.refl _ | apply Drawn0.step)⟩
      ·rw [if_neg c8] at H; exact absurd H (by simp)
     ·rw [if_neg c7] at H; have c7b0 : ((bt a0 0) == 100) = false := beq_eq_false_iff_ne.mpr c7; have c7b1 : ((bt a0 0) != 100) = true := bne_iff_ne.mpr c7; have H' := Qaa.mk H; clear H
      have p6 : 0 ≤ (0 : Int) := (by omega)
      have q6 : 0 < a0.size := (by have : (0 : Int) < (a0.size : Int) := dd_; omega)
      have hx6 : ∀ h : 0 < a0.size, ((a0[0]'h).toNat : Int) = bt a0 0 := Qbv a0 0; clear p6; have qi6 : (0 < (a0.size : Int)) = True := eq_true (dd_); replace q6 := eq_true q6; go_wp2
      go_meet
      case rel => exact ⟨_, (true), (by first | rfl | (simp; done) | (simp [*]; done)), H', ⟨by first | omega | exact Nat.le_refl _⟩, by repeat (first | exact Drawn0.refl _ | apply Drawn0.step)⟩
    ·rw [if_neg c5] at H; exact absurd H (by simp)
 case rest =>
  clear HC2; (try clear c1); (try clear p1); (try clear q1); (try clear hx1); (try clear qi1); (try clear p2); (try clear c3); (try clear c3b0); (try clear c3b1); (try clear c4); (try clear c4b0); (try clear c4b1); (try clear c5); (try clear c5b0); (try clear c5b1); (try clear c6); (try clear p6); (try clear q6); (try clear hx6); (try clear qi6); (try clear c7); (try clear c7b0); (try clear c7b1); (try clear c8); (try clear c8b0); (try clear c8b1); (try clear p9); (try clear q9); (try clear hx9); (try clear qi9); (try clear c10); (try clear c10b0); (try clear p11); (try clear q11); (try clear hx11); (try clear qi11); (try clear p11); (try clear p6); (try clear p9); (try clear q11); (try clear q6); (try clear q9); obtain ⟨kq, x26_1, rfl, HA, HJ1, ⟨mc1, rfl⟩⟩ := hcut
  cases kq with
  | zero => exact absurd HA.out (by simp [Qaj.j0])
  | succ kj1 =>
   have H := HA.out; clear HA; simp only [Qaj.j0] at H
   by_cases c12 : x26_1 = true
   ·subst c12
    have H1 : (some 0) = some r := by rw [if_pos rfl] at H; exact H
    clear H; have H := H1; clear H1; obtain rfl := Option.some.inj H; go_wp2; go_ret; exact ⟨by first | rfl | (simp; done) | (simp [*]; done), by repeat (first | exact Drawn0.refl _ | apply Drawn0.step)⟩
   ·replace c12 := Bool.eq_false_iff.mpr c12; subst c12
    have H1 : (if 1 < (a0.size : Int) then (if (a0.size : Int) = 3 then (if 2 < (a0.size : Int) then (if (bt a0 2) < 48 then (Qaj.j1 kj1 a0 (((bt a0 1) - 48) % 256) true) else (Qaj.j1 kj1 a0 (((bt a0 1) - 48) % 256) (decide ((bt a0 2) > 57)))) else (none)) else (if (((bt a0 1) - 48) % 256) > 16 then (some 0) else (some (((bt a0 1) - 48) % 256)))) else (none)) = some r := by rw [if_neg (show ¬ (false = true) by decide)] at H; exact H
    clear H; have H := H1; clear H1
    by_cases c13 : 1 < (a0.size : Int)
    ·rw [if_pos c13] at H; have c13b0 : decide (1 < (a0.size : Int)) = true := decide_eq_true c13; have c13b1 : decide (1 < a0.size) = true := decide_eq_true (by omega); clear c13
     by_cases c15 : (a0.size : Int) = 3
     ·rw [if_pos c15] at H; have c15b0 : ((a0.size : Int) == 3) = true := beq_iff_eq.mpr c15; have c15b1 : ((a0.size : Int) != 3) = false := bne_eq_false_iff_eq.mpr c15; clear c15; have HC16 := Qaa.mk H; clear H
      have p14 : 0 ≤ (1 : Int) := (by omega)
      have q14 : 1 < a0.size := (by have : (1 : Int) < (a0.size : Int) := dd_; omega)
      have hx14 : ∀ h : 1 < a0.size, ((a0[1]'h).toNat : Int) = bt a0 1 := Qbv a0 1; clear p14; have qi14 : (1 < (a0.size : Int)) = True := eq_true (dd_); replace q14 := eq_true q14
      go_upto_region 5 with (fail)
      go_cut [41] (fun v41 wc => ∃ (kq : Nat) (x41_15 : Bool), v41 = .bool x41_15 ∧ Qaa (Qaj.j1 kq a0 (((bt a0 1) - 48) % 256) x41_15 = some r) ∧ Qaa (kq ≤ kj1) ∧ Drawn0 w wc)
      case first =>
       have H := HC16.out; clear HC16
       by_cases c17 : 2 < (a0.size : Int)
       ·rw [if_pos c17] at H; have c17b0 : decide (2 < (a0.size : Int)) = true := decide_eq_true c17; have c17b1 : decide (2 < a0.size) = true := decide_eq_true (by omega); clear c17
        (first | rw [c17b0] | (simp only [Qbe, Qbh]; rw [c17b0]) | skip)
        by_cases c19 : (bt a0 2) < 48
        ·rw [if_pos c19] at H; have c19b0 : decide ((bt a0 2) < 48) = true := decide_eq_true c19; clear c19; have H' := Qaa.mk H; clear H
         have p18 : 0 ≤ (2 : Int) := (by omega)
         have q18 : 2 < a0.size := (by have : (2 : Int) < (a0.size : Int) := dd_; omega)
         have hx18 : ∀ h : 2 < a0.size, ((a0[2]'h).toNat : Int) = bt a0 2 := Qbv a0 2; clear p18; have qi18 : (2 < (a0.size : Int)) = True := eq_true (dd_); replace q18 := eq_true q18; go_wp2
         go_meet
         case rel => exact ⟨_, (true), (by first | rfl | (simp; done) | (simp [*]; done)), H', ⟨by have := HJ1.out; first | omega | exact Nat.le_refl _⟩, by repeat (first | exact Drawn0.refl _ | apply Drawn0.step)⟩
        ·rw [if_neg c19] at H; have c19b0 : decide ((bt a0 2) < 48) = false := decide_eq_false c19; clear c19; have H' := Qaa.mk H; clear H
         have p18 : 0 ≤ (2 : Int) := (by omega)
         have q18 : 2 < a0.size := (by have : (2 : Int) < (a0.size : Int) := dd_; omega)
         have hx18 : ∀ h : 2 < a0.size, ((a0[2]'h).toNat : Int) = bt a0 2 := Qbv a0 2; clear p18; have qi18 : (2 < (a0.size : Int)) = True := eq_true (dd_); replace q18 := eq_true q18
         have p20 : 0 ≤ (2 : Int) := (by omega)
         have q20 : 2 < a0.size := (by have : (2 : Int) < (a0.size : Int) := dd_; omega)
         have hx20 : ∀ h : 2 < a0.size, ((a0[2]'h).toNat : Int) = bt a0 2 := Qbv a0 2; clear p20; have qi20 : (2 < (a0.size : Int)) = True := eq_true (dd_); replace q20 := eq_true q20; go_wp2
         go_meet
         case rel => exact ⟨_, (decide ((bt a0 2) > 57)), (by first | rfl | (simp; done) | (simp [*]; done)), H', ⟨by have := HJ1.out; first | omega | exact Nat.le_refl _⟩, by repeat (first | exact Drawn0.refl _ | apply Drawn0.step)⟩
       ·rw [if_neg c17] at H; exact absurd H (by simp)
      case rest =>
       clear HC16; (try clear c1); (try clear p1); (try clear q1); (try clear hx1); (try clear qi1); (try clear p2); (try clear q2); (try clear hx2); (try clear qi2); (try clear c3); (try clear c3b0); (try clear c3b1); (try clear c4); (try clear c4b0); (try clear c4b1); (try clear c5); (try clear c5b0); (try clear c5b1); (try clear c6); (try clear p6); (try clear q6); (try clear hx6); (try clear qi6); (try clear c7); (try clear c7b0); (try clear c7b1); (try clear c8); (try clear c8b0); (try clear c8b1); (try clear p9); (try clear q9); (try clear hx9); (try clear qi9); (try clear c10); (try clear c10b0); (try clear p11); (try clear q11); (try clear hx11); (try clear qi11); (try clear c12); (try clear c13); (try clear c13b0); (try clear c13b1); (try clear p14); (try clear q14); (try clear hx14); (try clear qi14); (try clear c15); (try clear c15b0); (try clear c15b1); (try clear c17); (try clear c17b0); (try clear c17b1); (try clear p18); (try clear q18); (try clear hx18); (try clear qi18); (try clear c19); (try clear c19b0); (try clear p20); (try clear q20); (try clear hx20); (try clear qi20); (try clear p1); (try clear p11); (try clear p14); (try clear p18); (try clear p2); (try clear p20); (try clear p6); (try clear p9); (try clear q1); (try clear q11); (try clear q14); (try clear q18); (try clear q20); (try clear q6); (try clear q9); obtain ⟨kq, x41_15, rfl, HA, HJ15, ⟨mc15, rfl⟩⟩ := hcut
       cases kq with
       | zero => exact absurd HA.out (by simp [Qaj.j1])
       | succ kj15 =>
        have H := HA.out; clear HA; simp only [Qaj.j1] at H
        by_cases c21 : x41_15 = true
        ·subst c21
         have H1 : (some 0) = some r := by rw [if_pos rfl] at H; exact H
         clear H; have H := H1; clear H1; obtain rfl := Option.some.inj H; go_wp2; go_ret; exact ⟨by first | rfl | (simp; done) | (simp [*]; done), by repeat (first | exact Drawn0.refl _ | apply Drawn0.step)⟩
        ·replace c21 := Bool.eq_false_iff.mpr c21; subst c21
         have H1 : (if 2 < (a0.size : Int) then (if (((10 * (((bt a0 1) - 48) % 256)) + (((bt a0 2) - 48) % 256))) > 16 then (some 0) else (some (((10 * (((bt a0 1) - 48) % 256)) + (((bt a0 2) - 48) % 256))))) else (none)) = some r := by rw [if_neg (show ¬ (false = true) by decide)] at H; exact H
         clear H; have H := H1; clear H1
         by_cases c22 : 2 < (a0.size : Int)
         ·rw [if_pos c22] at H; have c22b0 : decide (2 < (a0.size : Int)) = true := decide_eq_true c22; have c22b1 : decide (2 < a0.size) = true := decide_eq_true (by omega); clear c22
          by_cases c24 : (((10 * (((bt a0 1) - 48) % 256)) + (((bt a0 2) - 48) % 256))) > 16
          ·rw [if_pos c24] at H; have c24b0 : decide (16 < (((10 * (((bt a0 1) - 48) % 256)) + (((bt a0 2) - 48) % 256)))) = true := decide_eq_true c24; clear c24; obtain rfl := Option.some.inj H
           have p23 : 0 ≤ (2 : Int) := (by omega)
           have q23 : 2 < a0.size := (by have : (2 : Int) < (a0.size : Int) := dd_; omega)
           have hx23 : ∀ h : 2 < a0.size, ((a0[2]'h).toNat : Int) = bt a0 2 := Qbv a0 2; clear p23; have qi23 : (2 < (a0.size : Int)) = True := eq_true (dd_); replace q23 := eq_true q23; go_wp2; go_ret; exact ⟨by first | rfl | (simp; done) | (simp [*]; done), by repeat (first | exact Drawn0.refl _ | apply Drawn0.step)⟩
          ·rw [if_neg c24] at H; have c24b0 : decide (16 < (((10 * (((bt a0 1) - 48) % 256)) + (((bt a0 2) - 48) % 256)))) = false := decide_eq_false c24; clear c24; obtain rfl := Option.some.inj H
           have p23 : 0 ≤ (2 : Int) := (by omega)
           have q23 : 2 < a0.size := (by have : (2 : Int) < (a0.size : Int) := dd_; omega)
           have hx23 : ∀ h : 2 < a0.size, ((a0[2]'h).toNat : Int) = bt a0 2 := Qbv a0 2; clear p23; have qi23 : (2 < (a0.size : Int)) = True := eq_true (dd_); replace q23 := eq_true q23; go_wp2; go_ret; exact ⟨by first | rfl | (simp; done) | (simp [*]; done), by repeat (first | exact Drawn0.refl _ | apply Drawn0.step)⟩
         ·rw [if_neg c22] at H; exact absurd H (by simp)
     ·rw [if_neg c15] at H; have c15b0 : ((a0.size : Int) == 3) = false := beq_eq_false_iff_ne.mpr c15; have c15b1 : ((a0.size : Int) != 3) = true := bne_iff_ne.mpr c15
      by_cases c25 : (((bt a0 1) - 48) % 256) > 16
      ·rw [if_pos c25] at H; have c25b0 : decide (16 < (((bt a0 1) - 48) % 256)) = true := decide_eq_true c25; clear c25; obtain rfl := Option.some.inj H
       have p14 : 0 ≤ (1 : Int) := (by omega)
       have q14 : 1 < a0.size := (by have : (1 : Int) < (a0.size : Int) := dd_; omega)
       have hx14 : ∀ h : 1 < a0.size, ((a0[1]'h).toNat : Int) = bt a0 1 := Qbv a0 1; clear p14; have qi14 : (1 < (a0.size : Int)) = True := eq_true (dd_); replace q14 := eq_true q14; go_wp2; go_ret; exact ⟨by first | rfl | (simp; done) | (simp [*]; done), by repeat (first | exact Drawn0.refl _ | apply Drawn0.step)⟩
      ·rw [if_neg c25] at H; have c25b0 : decide (16 < (((bt a0 1) - 48) % 256)) = false := decide_eq_false c25; clear c25; obtain rfl := Option.some.inj H
       have p14 : 0 ≤ (1 : Int) := (by omega)
       have q14 : 1 < a0.size := (by have : (1 : Int) < (a0.size : Int) := dd_; omega)
       have hx14 : ∀ h : 1 < a0.size, ((a0[1]'h).toNat : Int) = bt a0 1 := Qbv a0 1; clear p14; have qi14 : (1 < (a0.size : Int)) = True := eq_true (dd_); replace q14 := eq_true q14; go_wp2; go_ret; exact ⟨by first | rfl | (simp; done) | (simp [*]; done), by repeat (first | exact Drawn0.refl _ | apply Drawn0.step)⟩
    ·rw [if_neg c13] at H; exact absurd H (by simp)

def QaV.f (k : Nat) (a0_0 : ByteArray) (a0_1 : ByteArray) : Option (Bool) := (Qas.f k a0_1).bind fun t102 => (if t102 = true then ((Qaj.f k a0_0).bind fun t103 => (some (t103 != 0))) else (some false))
set_option maxHeartbeats 8000000 in
set_option maxRecDepth 100000 in
theorem QaV.calls (k : Nat) (a0_0 : ByteArray) (a0_1 : ByteArray) (r : Bool) (w : World) (h : QaV.f k a0_0 a0_1 = some r) :
  Calls Tryz.prog 44 #[.agg #[.string a0_0, .string a0_1]] w fun e w' => e = .returned (.bool r) ∧ Below w.heap.size w w' := by
 have hu33 := Tryz.underlying33; have HB := Qaa.mk (Below.refl w.heap.size w); have H : ((Qas.f k a0_1).bind fun t102 => (if t102 = true then ((Qaj.f k a0_0).bind fun t103 => (some (t103 != 0))) else (some false))) = some r := h; clear h; replace H := Option.bind_eq_some_iff.mp H; obtain ⟨t102, A20, H⟩ := H; replace H : (if t102 = true then ((Qaj.f k a0_0).bind fun t103 => (some (t103 != 0))) else (some false)) = some r := H; have A2 := Qaa.mk A20; clear A20
 by_cases c3 : t102 = true
 ·subst c3
  have H1 : ((Qaj.f k a0_0).bind fun t103 => (some (t103 != 0))) = some r := by rw [if_pos rfl] at H; exact H
  clear H; have H := H1; clear H1; replace H := Option.bind_eq_some_iff.mp H; obtain ⟨t103, A40, H⟩ := H; replace H : (some (t103 != 0)) = some r := H; have A4 := Qaa.mk A40; clear A40; obtain rfl := Option.some.inj H; go_enter Tryz.func44, Tryz.ntmps44
  go_wp2_with (first | ((with_reducible refine QaA (N := 1) rfl ?_); refine Qax ?hg (N := 1) ?hd (cs := #[.string a0_0, .string a0_1]) (t := 33) ?hr ?_; (case hd => rfl); (case hg => rfl); (case hr => first | (go_simp; done) | (go_simp; rfl)); intro gb101 hg w5 hbox hb; have BK101 := Qaa.mk (hbox); have GW101 := (gz_ hg : Qaa (w.heap.size ≤ gb101)); have GE101 := (gz_ hg : Qaa (w.heap.size ≤ gb101)); replace HB := Qaa.mk (Qac bw_ hb); clear hb hbox hg; obtain ⟨c6_0, c6_1⟩ := cz_ss BK101.out; obtain ⟨f6_0, f6_1⟩ := fz_2 BK101.out) | ((with_reducible refine QaT (f := 43) rfl ?_); refine gL 6 Tryz.func43 #[.string a0_1] ?_; (with_reducible refine (Qas.calls k a0_1 true _ A2.out).mono ?_); rintro e w' ⟨rfl, ⟨nd, rfl⟩⟩; refine ⟨_, rfl, ?_⟩) | (go_at_call 60; (with_reducible refine (Qaj.calls k a0_0 t103 _ A4.out).mono ?_); rintro e w' ⟨rfl, ⟨nd, rfl⟩⟩))
  go_ret; exact ⟨by first | rfl | (simp [Qap, Qao] <;> rfl) | (simp [*, Qap, Qao] <;> rfl), bw_⟩
 ·replace c3 := Bool.eq_false_iff.mpr c3; subst c3
  have H1 : (some false) = some r := by rw [if_neg (show ¬ (false = true) by decide)] at H; exact H
  clear H; have H := H1; clear H1; obtain rfl := Option.some.inj H; go_enter Tryz.func44, Tryz.ntmps44
  go_wp2_with (first | ((with_reducible refine QaA (N := 1) rfl ?_); refine Qax ?hg (N := 1) ?hd (cs := #[.string a0_0, .string a0_1]) (t := 33) ?hr ?_; (case hd => rfl); (case hg => rfl); (case hr => first | (go_simp; done) | (go_simp; rfl)); intro gb101 hg w7 hbox hb; have BK101 := Qaa.mk (hbox); have GW101 := (gz_ hg : Qaa (w.heap.size ≤ gb101)); have GE101 := (gz_ hg : Qaa (w.heap.size ≤ gb101)); replace HB := Qaa.mk (Qac bw_ hb); clear hb hbox hg; obtain ⟨c8_0, c8_1⟩ := cz_ss BK101.out; obtain ⟨f8_0, f8_1⟩ := fz_2 BK101.out) | ((with_reducible refine QaT (f := 43) rfl ?_); refine gL 6 Tryz.func43 #[.string a0_1] ?_; (with_reducible refine (Qas.calls k a0_1 false _ A2.out).mono ?_); rintro e w' ⟨rfl, ⟨nd, rfl⟩⟩; refine ⟨_, rfl, ?_⟩))
  go_ret; exact ⟨by first | rfl | (simp [Qap, Qao] <;> rfl) | (simp [*, Qap, Qao] <;> rfl), bw_⟩

def QaZ.f (k : Nat) (a0_0 : ByteArray) (a0_1 : ByteArray) : Option (Bool) := (Qas.f k a0_1).bind fun t102 => (if t102 = true then (some (a0_0.toList == ([] : List UInt8))) else (some false))
set_option maxHeartbeats 8000000 in
set_option maxRecDepth 100000 in
theorem QaZ.calls (k : Nat) (a0_0 : ByteArray) (a0_1 : ByteArray) (r : Bool) (w : World) (h : QaZ.f k a0_0 a0_1 = some r) :
  Calls Tryz.prog 45 #[.agg #[.string a0_0, .string a0_1]] w fun e w' => e = .returned (.bool r) ∧ Below w.heap.size w w' := by
 have hu33 := Tryz.underlying33; have HB := Qaa.mk (Below.refl w.heap.size w); have H : ((Qas.f k a0_1).bind fun t102 => (if t102 = true then (some (a0_0.toList == ([] : List UInt8))) else (some false))) = some r := h; clear h; replace H := Option.bind_eq_some_iff.mp H; obtain ⟨t102, A20, H⟩ := H; replace H : (if t102 = true then (some (a0_0.toList == ([] : List UInt8))) else (some false)) = some r := H; have A2 := Qaa.mk A20; clear A20
 by_cases c3 : t102 = true
 ·subst c3
  have H1 : (some (a0_0.toList == ([] : List UInt8))) = some r := by rw [if_pos rfl] at H; exact H
  clear H; have H := H1; clear H1; obtain rfl := Option.some.inj H; go_enter Tryz.func45, Tryz.ntmps45
  go_wp2_with (first | ((with_reducible refine QaA (N := 1) rfl ?_); refine Qax ?hg (N := 1) ?hd (cs := #[.string a0_0, .string a0_1]) (t := 33) ?hr ?_; (case hd => rfl); (case hg => rfl); (case hr => first | (go_simp; done) | (go_simp; rfl)); intro gb101 hg w4 hbox hb; have BK101 := Qaa.mk (hbox); have GW101 := (gz_ hg : Qaa (w.heap.size ≤ gb101)); have GE101 := (gz_ hg : Qaa (w.heap.size ≤ gb101)); replace HB := Qaa.mk (Qac bw_ hb); clear hb hbox hg; obtain ⟨c5_0, c5_1⟩ := cz_ss BK101.out; obtain ⟨f5_0, f5_1⟩ := fz_2 BK101.out) | ((with_reducible refine QaT (f := 43) rfl ?_); refine gL 6 Tryz.func43 #[.string a0_1] ?_; (with_reducible refine (Qas.calls k a0_1 true _ A2.out).mono ?_); rintro e w' ⟨rfl, ⟨nd, rfl⟩⟩; refine ⟨_, rfl, ?_⟩))
  go_ret; exact ⟨by first | rfl | (simp [Qap, Qao] <;> rfl) | (simp [*, Qap, Qao] <;> rfl), bw_⟩
 ·replace c3 := Bool.eq_false_iff.mpr c3; subst c3
  have H1 : (some false) = some r := by rw [if_neg (show ¬ (false = true) by decide)] at H; exact H
  clear H; have H := H1; clear H1; obtain rfl := Option.some.inj H; go_enter Tryz.func45, Tryz.ntmps45
  go_wp2_with (first | ((with_reducible refine QaA (N := 1) rfl ?_); refine Qax ?hg (N := 1) ?hd (cs := #[.string a0_0, .string a0_1]) (t := 33) ?hr ?_; (case hd => rfl); (case hg => rfl); (case hr => first | (go_simp; done) | (go_simp; rfl)); intro gb101 hg w6 hbox hb; have BK101 := Qaa.mk (hbox); have GW101 := (gz_ hg : Qaa (w.heap.size ≤ gb101)); have GE101 := (gz_ hg : Qaa (w.heap.size ≤ gb101)); replace HB := Qaa.mk (Qac bw_ hb); clear hb hbox hg; obtain ⟨c7_0, c7_1⟩ := cz_ss BK101.out; obtain ⟨f7_0, f7_1⟩ := fz_2 BK101.out) | ((with_reducible refine QaT (f := 43) rfl ?_); refine gL 6 Tryz.func43 #[.string a0_1] ?_; (with_reducible refine (Qas.calls k a0_1 false _ A2.out).mono ?_); rintro e w' ⟨rfl, ⟨nd, rfl⟩⟩; refine ⟨_, rfl, ?_⟩))
  go_ret; exact ⟨by first | rfl | (simp [Qap, Qao] <;> rfl) | (simp [*, Qap, Qao] <;> rfl), bw_⟩
end
section
attribute [local go_sem] QaE QaC QaS QaR Qaw Qav QaD QaB
attribute [local go_sem high] eqA33
def Qaq.j0 : Nat → Bool → Bool → Bool → Bool → Int → Int → ByteArray → Int → ByteArray → ByteArray → ByteArray → ByteArray → ByteArray → Option (Bool)
 | 0, _, _, _, _, _, _, _, _, _, _, _, _, _ => none
 | k + 1, x4, x5, x6, x47, x102000, x102001, x102002, x102003, x102004, x102005, x102006, x102007, x102008 => if x47 = true then (some false) else (if x102003 = 1 then (if x4 = true then (if (x102005.toList == ([] : List UInt8) && (x102006.toList == ([] : List UInt8))) = true then (some (x102007.toList == ([] : List UInt8) && (x102008.toList == ([] : List UInt8)))) else (some false)) else (some false)) else (if x102004.toList = ([] : List UInt8) then (if x102003 = 2 then (if x5 = true then (some (x102007.toList == ([] : List UInt8) && (x102008.toList == ([] : List UInt8)))) else (some false)) else (if x102003 = 3 then ((QaZ.f k x102005 x102006).bind fun t107 => ((QaZ.f k x102007 x102008).bind fun t108 => (if t107 = true then (some t108) else (some false)))) else (if x102003 = 4 then (if x5 = true then (some x6) else (some false)) else (some false)))) else (some false)))
def Qaq.f (k : Nat) (a0_0 : Int) (a0_1 : Int) (a0_2 : ByteArray) (a0_3 : Int) (a0_4 : ByteArray) (a0_5 : ByteArray) (a0_6 : ByteArray) (a0_7 : ByteArray) (a0_8 : ByteArray) : Option (Bool) := (Qas.f k a0_2).bind fun t102 => ((Qas.f k a0_4).bind fun t103 => ((QaV.f k a0_5 a0_6).bind fun t104 => ((QaV.f k a0_7 a0_8).bind fun t105 => (if a0_0 < 1 then (Qaq.j0 k t103 t104 t105 true a0_0 a0_1 a0_2 a0_3 a0_4 a0_5 a0_6 a0_7 a0_8) else (if a0_0 > 16 then (Qaq.j0 k t103 t104 t105 true a0_0 a0_1 a0_2 a0_3 a0_4 a0_5 a0_6 a0_7 a0_8) else (if a0_1 < 1 then (Qaq.j0 k t103 t104 t105 true a0_0 a0_1 a0_2 a0_3 a0_4 a0_5 a0_6 a0_7 a0_8) else (if a0_1 > 4000 then (Qaq.j0 k t103 t104 t105 true a0_0 a0_1 a0_2 a0_3 a0_4 a0_5 a0_6 a0_7 a0_8) else (Qaq.j0 k t103 t104 t105 (!t102) a0_0 a0_1 a0_2 a0_3 a0_4 a0_5 a0_6 a0_7 a0_8))))))))
set_option maxHeartbeats 8000000 in
set_option maxRecDepth 100000 in
theorem Qaq.calls (k : Nat) (a0_0 : Int) (a0_1 : Int) (a0_2 : ByteArray) (a0_3 : Int) (a0_4 : ByteArray) (a0_5 : ByteArray) (a0_6 : ByteArray) (a0_7 : ByteArray) (a0_8 : ByteArray) (r : Bool) (w : World) (h : Qaq.f k a0_0 a0_1 a0_2 a0_3 a0_4 a0_5 a0_6 a0_7 a0_8 = some r) :
  Calls Tryz.prog 22 #[.agg #[.int .i64 a0_0, .int .i64 a0_1, .string a0_2, .int .i64 a0_3, .string a0_4, .string a0_5, .string a0_6, .string a0_7, .string a0_8]] w fun e w' => e = .returned (.bool r) ∧ Below w.heap.size w w' := by
 have hu35 := Tryz.underlying35; have hu33 := Tryz.underlying33; have HB := Qaa.mk (Below.refl w.heap.size w); have H : ((Qas.f k a0_2).bind fun t102 => ((Qas.f k a0_4).bind fun t103 => ((QaV.f k a0_5 a0_6).bind fun t104 => ((QaV.f k a0_7 a0_8).bind fun t105 => (if a0_0 < 1 then (Qaq.j0 k t103 t104 t105 true a0_0 a0_1 a0_2 a0_3 a0_4 a0_5 a0_6 a0_7 a0_8) else (if a0_0 > 16 then (Qaq.j0 k t103 t104 t105 true a0_0 a0_1 a0_2 a0_3 a0_4 a0_5 a0_6 a0_7 a0_8) else (if a0_1 < 1 then (Qaq.j0 k t103 t104 t105 true a0_0 a0_1 a0_2 a0_3 a0_4 a0_5 a0_6 a0_7 a0_8) else (if a0_1 > 4000 then (Qaq.j0 k t103 t104 t105 true a0_0 a0_1 a0_2 a0_3 a0_4 a0_5 a0_6 a0_7 a0_8) else (Qaq.j0 k t103 t104 t105 (!t102) a0_0 a0_1 a0_2 a0_3 a0_4 a0_5 a0_6 a0_7 a0_8))))))))) = some r := h; clear h; replace H := Option.bind_eq_some_iff.mp H; obtain ⟨t102, A20, H⟩ := H; replace H : ((Qas.f k a0_4).bind fun t103 => ((QaV.f k a0_5 a0_6).bind fun t104 => ((QaV.f k a0_7 a0_8).bind fun t105 => (if a0_0 < 1 then (Qaq.j0 k t103 t104 t105 true a0_0 a0_1 a0_2 a0_3 a0_4 a0_5 a0_6 a0_7 a0_8) else (if a0_0 > 16 then (Qaq.j0 k t103 t104 t105 true a0_0 a0_1 a0_2 a0_3 a0_4 a0_5 a0_6 a0_7 a0_8) else (if a0_1 < 1 then (Qaq.j0 k t103 t104 t105 true a0_0 a0_1 a0_2 a0_3 a0_4 a0_5 a0_6 a0_7 a0_8) else (if a0_1 > 4000 then (Qaq.j0 k t103 t104 t105 true a0_0 a0_1 a0_2 a0_3 a0_4 a0_5 a0_6 a0_7 a0_8) else (Qaq.j0 k t103 t104 t105 (!t102) a0_0 a0_1 a0_2 a0_3 a0_4 a0_5 a0_6 a0_7 a0_8)))))))) = some r := H
 have A2 := Qaa.mk A20; clear A20; replace H := Option.bind_eq_some_iff.mp H; obtain ⟨t103, A30, H⟩ := H; replace H : ((QaV.f k a0_5 a0_6).bind fun t104 => ((QaV.f k a0_7 a0_8).bind fun t105 => (if a0_0 < 1 then (Qaq.j0 k t103 t104 t105 true a0_0 a0_1 a0_2 a0_3 a0_4 a0_5 a0_6 a0_7 a0_8) else (if a0_0 > 16 then (Qaq.j0 k t103 t104 t105 true a0_0 a0_1 a0_2 a0_3 a0_4 a0_5 a0_6 a0_7 a0_8) else (if a0_1 < 1 then (Qaq.j0 k t103 t104 t105 true a0_0 a0_1 a0_2 a0_3 a0_4 a0_5 a0_6 a0_7 a0_8) else (if a0_1 > 4000 then (Qaq.j0 k t103 t104 t105 true a0_0 a0_1 a0_2 a0_3 a0_4 a0_5 a0_6 a0_7 a0_8) else (Qaq.j0 k t103 t104 t105 (!t102) a0_0 a0_1 a0_2 a0_3 a0_4 a0_5 a0_6 a0_7 a0_8))))))) = some r := H; have A3 := Qaa.mk A30; clear A30; replace H := Option.bind_eq_some_iff.mp H; obtain ⟨t104, A40, H⟩ := H; replace H : ((QaV.f k a0_7 a0_8).bind fun t105 => (if a0_0 < 1 then (Qaq.j0 k t103 t104 t105 true a0_0 a0_1 a0_2 a0_3 a0_4 a0_5 a0_6 a0_7 a0_8) else (if a0_0 > 16 then (Qaq.j0 k t103 t104 t105 true a0_0 a0_1 a0_2 a0_3 a0_4 a0_5 a0_6 a0_7 a0_8) else (if a0_1 < 1 then (Qaq.j0 k t103 t104 t105 true a0_0 a0_1 a0_2 a0_3 a0_4 a0_5 a0_6 a0_7 a0_8) else (if a0_1 > 4000 then (Qaq.j0 k t103 t104 t105 true a0_0 a0_1 a0_2 a0_3 a0_4 a0_5 a0_6 a0_7 a0_8) else (Qaq.j0 k t103 t104 t105 (!t102) a0_0 a0_1 a0_2 a0_3 a0_4 a0_5 a0_6 a0_7 a0_8)))))) = some r := H
 have A4 := Qaa.mk A40; clear A40; replace H := Option.bind_eq_some_iff.mp H; obtain ⟨t105, A50, H⟩ := H; replace H : (if a0_0 < 1 then (Qaq.j0 k t103 t104 t105 true a0_0 a0_1 a0_2 a0_3 a0_4 a0_5 a0_6 a0_7 a0_8) else (if a0_0 > 16 then (Qaq.j0 k t103 t104 t105 true a0_0 a0_1 a0_2 a0_3 a0_4 a0_5 a0_6 a0_7 a0_8) else (if a0_1 < 1 then (Qaq.j0 k t103 t104 t105 true a0_0 a0_1 a0_2 a0_3 a0_4 a0_5 a0_6 a0_7 a0_8) else (if a0_1 > 4000 then (Qaq.j0 k t103 t104 t105 true a0_0 a0_1 a0_2 a0_3 a0_4 a0_5 a0_6 a0_7 a0_8) else (Qaq.j0 k t103 t104 t105 (!t102) a0_0 a0_1 a0_2 a0_3 a0_4 a0_5 a0_6 a0_7 a0_8))))) = some r := H; have A5 := Qaa.mk A50; clear A50; have HC6 := Qaa.mk H; clear H; go_enter Tryz.func22, Tryz.ntmps22
 go_upto_region 5 with (first | ((with_reducible refine QaA (N := 1) rfl ?_); refine Qax ?hg (N := 1) ?hd (cs := #[.int .i64 a0_0, .int .i64 a0_1, .string a0_2, .int .i64 a0_3, .string a0_4, .string a0_5, .string a0_6, .string a0_7, .string a0_8]) (t := 35) ?hr ?_; (case hd => rfl); (case hg => rfl); (case hr => first | (go_simp; done) | (go_simp; rfl)); intro gb101 hg w7 hbox hb; have BK101 := Qaa.mk (hbox); have GW101 := (gz_ hg : Qaa (w.heap.size ≤ gb101)); have GE101 := (gz_ hg : Qaa (w.heap.size ≤ gb101)); replace HB := Qaa.mk (Qac bw_ hb); clear hb hbox hg; obtain ⟨c8_0, c8_1, c8_2, c8_3, c8_4, c8_5, c8_6, c8_7, c8_8⟩ := QaM BK101.out; obtain ⟨f8_0, f8_1, f8_2, f8_3, f8_4, f8_5, f8_6, f8_7, f8_8⟩ := fz_9 BK101.out) | ((with_reducible refine QaT (f := 43) rfl ?_); refine gL 12 Tryz.func43 #[.string a0_2] ?_; (with_reducible refine (Qas.calls k a0_2 t102 _ A2.out).mono ?_); rintro e w' ⟨rfl, ⟨nd, rfl⟩⟩; refine ⟨_, rfl, ?_⟩) | ((with_reducible refine QaT (f := 43) rfl ?_); refine gL 15 Tryz.func43 #[.string a0_4] ?_; (with_reducible refine (Qas.calls k a0_4 t103 _ A3.out).mono ?_); rintro e w' ⟨rfl, ⟨nd, rfl⟩⟩; refine ⟨_, rfl, ?_⟩) | ((with_reducible refine QaT (f := 44) rfl ?_); refine gL 18 Tryz.func44 #[.agg #[.string a0_5, .string a0_6]] ?_; (with_reducible refine (QaV.calls k a0_5 a0_6 t104 _ A4.out).mono ?_); rintro e w9 ⟨rfl, hb⟩; refine ⟨_, rfl, ?_⟩; replace BK101 := Qaa.mk (Qad (g := gb101) bk_ hb); replace HB := Qaa.mk (Qac bw_ hb); (try clear hb); (try clear hb2); (try clear hk); (try clear hi); obtain ⟨c10_0, c10_1, c10_2, c10_3, c10_4, c10_5, c10_6, c10_7, c10_8⟩ := QaM BK101.out; obtain ⟨f10_0, f10_1, f10_2, f10_3, f10_4, f10_5, f10_6, f10_7, f10_8⟩ := fz_9 BK101.out) | ((with_reducible refine QaT (f := 44) rfl ?_); refine gL 21 Tryz.func44 #[.agg #[.string a0_7, .string a0_8]] ?_; (with_reducible refine (QaV.calls k a0_7 a0_8 t105 _ A5.out).mono ?_); rintro e w11 ⟨rfl, hb⟩; refine ⟨_, rfl, ?_⟩; replace BK101 := Qaa.mk (Qad (g := gb101) bk_ hb); replace HB := Qaa.mk (Qac bw_ hb); (try clear hb); (try clear hb2); (try clear hk); (try clear hi)))
 (try simp only [Act.put, put_])
 go_cut [47] (fun v47 wc => ∃ (kq : Nat) (x47_5 : Bool), v47 = .bool x47_5 ∧ Qaa (Qaq.j0 kq t103 t104 t105 x47_5 a0_0 a0_1 a0_2 a0_3 a0_4 a0_5 a0_6 a0_7 a0_8 = some r) ∧ Qaa (kq ≤ k) ∧ Qaa (wc.heap[gb101]? = some (.cells #[.int .i64 a0_0, .int .i64 a0_1, .string a0_2, .int .i64 a0_3, .string a0_4, .string a0_5, .string a0_6, .string a0_7, .string a0_8] 35 (0, 0))) ∧ Qaa (Below w.heap.size w wc))
 case first =>
  have H := HC6.out; clear HC6
  by_cases c12 : a0_0 < 1
  ·rw [if_pos c12] at H; have c12b0 : decide (a0_0 < 1) = true := decide_eq_true c12; clear c12
   (first | rw [c12b0] | (simp only [Qbe, Qbh]; rw [c12b0]) | skip)
   have H' := Qaa.mk H; clear H; obtain ⟨c13_0, c13_1, c13_2, c13_3, c13_4, c13_5, c13_6, c13_7, c13_8⟩ := QaM BK101.out; obtain ⟨f13_0, f13_1, f13_2, f13_3, f13_4, f13_5, f13_6, f13_7, f13_8⟩ := fz_9 BK101.out; go_wp2
   go_meet
   case rel => exact ⟨_, (true), (by first | rfl | (simp; done) | (simp [*]; done)), H', ⟨by first | omega | exact Nat.le_refl _⟩, ⟨by (with_reducible repeat (first | refine Qat ?_ _ | refine Qan ?_ | refine Qam ?_ _)); exact BK101.out⟩, ⟨bw_⟩⟩
  ·rw [if_neg c12] at H; have c12b0 : decide (a0_0 < 1) = false := decide_eq_false c12; clear c12
   (first | rw [c12b0] | (simp only [Qbe, Qbh]; rw [c12b0]) | skip)
   by_cases c14 : a0_0 > 16
   ·rw [if_pos c14] at H; have c14b0 : decide (16 < a0_0) = true := decide_eq_true c14; clear c14; have H' := Qaa.mk H; clear H; obtain ⟨c15_0, c15_1, c15_2, c15_3, c15_4, c15_5, c15_6, c15_7, c15_8⟩ := QaM BK101.out; obtain ⟨f15_0, f15_1, f15_2, f15_3, f15_4, f15_5, f15_6, f15_7, f15_8⟩ := fz_9 BK101.out; go_wp2
    go_meet
    case rel => exact ⟨_, (true), (by first | rfl | (simp; done) | (simp [*]; done)), H', ⟨by first | omega | exact Nat.le_refl _⟩, ⟨by (with_reducible repeat (first | refine Qat ?_ _ | refine Qan ?_ | refine Qam ?_ _)); exact BK101.out⟩, ⟨bw_⟩⟩
   ·rw [if_neg c14] at H; have c14b0 : decide (16 < a0_0) = false := decide_eq_false c14; clear c14
    by_cases c16 : a0_1 < 1
    ·rw [if_pos c16] at H; have c16b0 : decide (a0_1 < 1) = true := decide_eq_true c16; clear c16; have H' := Qaa.mk H; clear H; obtain ⟨c17_0, c17_1, c17_2, c17_3, c17_4, c17_5, c17_6, c17_7, c17_8⟩ := QaM BK101.out; obtain ⟨f17_0, f17_1, f17_2, f17_3, f17_4, f17_5, f17_6, f17_7, f17_8⟩ := fz_9 BK101.out; go_wp2
     go_meet
     case rel => exact ⟨_, (true), (by first | rfl | (simp; done) | (simp [*]; done)), H', ⟨by first | omega | exact Nat.le_refl _⟩, ⟨by (with_reducible repeat (first | refine Qat ?_ _ | refine Qan ?_ | refine Qam ?_ _)); exact BK101.out⟩, ⟨bw_⟩⟩
    ·rw [if_neg c16] at H; have c16b0 : decide (a0_1 < 1) = false := decide_eq_false c16; clear c16
     by_cases c18 : a0_1 > 4000
     ·rw [if_pos c18] at H; have c18b0 : decide (4000 < a0_1) = true := decide_eq_true c18; clear c18; have H' := Qaa.mk H; clear H; obtain ⟨c19_0, c19_1, c19_2, c19_3, c19_4, c19_5, c19_6, c19_7, c19_8⟩ := QaM BK101.out; obtain ⟨f19_0, f19_1, f19_2, f19_3, f19_4, f19_5, f19_6, f19_7, f19_8⟩ := fz_9 BK101.out; go_wp2
      go_meet
      case rel => exact ⟨_, (true), (by first | rfl | (simp; done) | (simp [*]; done)), H', ⟨by first | omega | exact Nat.le_refl _⟩, ⟨by (with_reducible repeat (first | refine Qat ?_ _ | refine Qan ?_ | refine Qam ?_ _)); exact BK101.out⟩, ⟨bw_⟩⟩
     ·rw [if_neg c18] at H; have c18b0 : decide (4000 < a0_1) = false := decide_eq_false c18; clear c18; have H' := Qaa.mk H; clear H; obtain ⟨c20_0, c20_1, c20_2, c20_3, c20_4, c20_5, c20_6, c20_7, c20_8⟩ := QaM BK101.out; obtain ⟨f20_0, f20_1, f20_2, f20_3, f20_4, f20_5, f20_6, f20_7, f20_8⟩ := fz_9 BK101.out; go_wp2
      go_meet
      case rel => exact ⟨_, (!t102), (by first | rfl | (simp; done) | (simp [*]; done)), H', ⟨by first | omega | exact Nat.le_refl _⟩, ⟨by (with_reducible repeat (first | refine Qat ?_ _ | refine Qan ?_ | refine Qam ?_ _)); exact BK101.out⟩, ⟨bw_⟩⟩
 case rest =>
  clear HC6; (try clear c1); (try clear c2); (try clear p2); (try clear c4); (try clear c12); (try clear c12b0); (try clear c14); (try clear c14b0); (try clear c16); (try clear c16b0); (try clear c18); (try clear c18b0); (try clear c10_0 c10_1 c10_2 c10_3 c10_4 c10_5 c10_6 c10_7 c10_8); (try clear c13_0 c13_1 c13_2 c13_3 c13_4 c13_5 c13_6 c13_7 c13_8); (try clear c15_0 c15_1 c15_2 c15_3 c15_4 c15_5 c15_6 c15_7 c15_8); (try clear c17_0 c17_1 c17_2 c17_3 c17_4 c17_5 c17_6 c17_7 c17_8); (try clear c19_0 c19_1 c19_2 c19_3 c19_4 c19_5 c19_6 c19_7 c19_8); (try clear c20_0 c20_1 c20_2 c20_3 c20_4 c20_5 c20_6 c20_7 c20_8); (try clear c8_0 c8_1 c8_2 c8_3 c8_4 c8_5 c8_6 c8_7)
  (try clear c8_8); (try clear f10_0 f10_1 f10_2 f10_3 f10_4 f10_5 f10_6 f10_7 f10_8); (try clear f13_0 f13_1 f13_2 f13_3 f13_4 f13_5 f13_6 f13_7 f13_8); (try clear f15_0 f15_1 f15_2 f15_3 f15_4 f15_5 f15_6 f15_7 f15_8); (try clear f17_0 f17_1 f17_2 f17_3 f17_4 f17_5 f17_6 f17_7 f17_8); (try clear f19_0 f19_1 f19_2 f19_3 f19_4 f19_5 f19_6 f19_7 f19_8); (try clear f20_0 f20_1 f20_2 f20_3 f20_4 f20_5 f20_6 f20_7 f20_8); (try clear f8_0 f8_1 f8_2 f8_3 f8_4 f8_5 f8_6 f8_7 f8_8); obtain ⟨kq, x47_5, rfl, HA, HJ5, BK101, HB⟩ := hcut
  cases kq with
  | zero => exact absurd HA.out (by simp [Qaq.j0])
  | succ kj5 =>
   have H := HA.out; clear HA; simp only [Qaq.j0] at H
   by_cases c21 : x47_5 = true
   ·subst c21
    have H1 : (some false) = some r := by rw [if_pos rfl] at H; exact H
    clear H; have H := H1; clear H1; obtain rfl := Option.some.inj H; go_wp2
    all_goals go_ret
    all_goals exact ⟨by first | rfl | (simp [Qap, Qao] <;> rfl) | (simp [*, Qap, Qao] <;> rfl) | (simp_all; done), bw_⟩
   ·replace c21 := Bool.eq_false_iff.mpr c21; subst c21
    have H1 : (if a0_3 = 1 then (if t103 = true then (if (a0_5.toList == ([] : List UInt8) && (a0_6.toList == ([] : List UInt8))) = true then (some (a0_7.toList == ([] : List UInt8) && (a0_8.toList == ([] : List UInt8)))) else (some false)) else (some false)) else (if a0_4.toList = ([] : List UInt8) then (if a0_3 = 2 then (if t104 = true then (some (a0_7.toList == ([] : List UInt8) && (a0_8.toList == ([] : List UInt8)))) else (some false)) else (if a0_3 = 3 then ((QaZ.f kj5 a0_5 a0_6).bind fun t107 => ((QaZ.f kj5 a0_7 a0_8).bind fun t108 => (if t107 = true then (some t108) else (some false)))) else (if a0_3 = 4 then (if t104 = true then (some t105) else (some false)) else (some false)))) else (some false))) = some r := by rw [if_neg (show ¬ (false = true) by decide)] at H; exact H
    clear H; have H := H1; clear H1
    by_cases c22 : a0_3 = 1
    ·rw [if_pos c22] at H; have c22b0 : (a0_3 == 1) = true := beq_iff_eq.mpr c22; have c22b1 : (a0_3 != 1) = false := bne_eq_false_iff_eq.mpr c22; clear c22
     by_cases c23 : t103 = true
     ·subst c23
      have H1 : (if (a0_5.toList == ([] : List UInt8) && (a0_6.toList == ([] : List UInt8))) = true then (some (a0_7.toList == ([] : List UInt8) && (a0_8.toList == ([] : List UInt8)))) else (some false)) = some r := by rw [if_pos rfl] at H; exact H
      clear H; have H := H1; clear H1
      by_cases c24 : (a0_5.toList == ([] : List UInt8) && (a0_6.toList == ([] : List UInt8))) = true
      ·rw [if_pos c24] at H; have c24b0 : (a0_5.toList == ([] : List UInt8) && (a0_6.toList == ([] : List UInt8))) = true := c24
       (try (have c24b1 : decide (a0_5.toList = ([] : List UInt8) && (a0_6.toList == ([] : List UInt8))) = true := by simpa using c24))
       (try (have c24b2 : (a0_5.toList == ([] : List UInt8) && (a0_6.toList == ([] : List UInt8))) = true := by simpa using c24))
       clear c24; obtain rfl := Option.some.inj H
       go_wp2_with (first | ((with_reducible refine QaA (N := 7) rfl ?_); refine Qax ?hg (N := 7) ?hd (cs := #[.string (⟨#[]⟩ : ByteArray), .string (⟨#[]⟩ : ByteArray)]) (t := 33) ?hr ?_; (case hd => rfl); (case hg => rfl); (case hr => first | (go_simp; done) | (go_simp; rfl)); intro gb106 hg w25 hbox hb; have BK106 := Qaa.mk (hbox); have GW106 := (gz_ hg : Qaa (w.heap.size ≤ gb106)); have GE106 := (gz_ hg : Qaa (w.heap.size ≤ gb106)); have NB101_106 := (nl_ hg : Qaa (gb101 ≠ gb106)); have NB106_101 := (ng_ hg : Qaa (gb106 ≠ gb101)); replace BK101 := Qaa.mk (Qad (g := gb101) bk_ hb); replace HB := Qaa.mk (Qac bw_ hb); clear hb hbox hg; have hnb26 := NB106_101.out; have hnc26 := NB101_106.out; obtain ⟨c27_0, c27_1⟩ := cz_ss BK106.out; obtain ⟨f27_0, f27_1⟩ := fz_2 BK106.out; obtain ⟨c28_0, c28_1, c28_2, c28_3, c28_4, c28_5, c28_6, c28_7, c28_8⟩ := QaM BK101.out; obtain ⟨f28_0, f28_1, f28_2, f28_3, f28_4, f28_5, f28_6, f28_7, f28_8⟩ := fz_9 BK101.out))
       all_goals go_ret
       all_goals exact ⟨by first | rfl | (simp [Qap, Qao] <;> rfl) | (simp [*, Qap, Qao] <;> rfl) | (simp_all; done), bw_⟩
      ·rw [if_neg c24] at H
       have c24b0 : (a0_5.toList == ([] : List UInt8) && (a0_6.toList == ([] : List UInt8))) = false := by simpa using c24
       (try (have c24b1 : decide (a0_5.toList = ([] : List UInt8) && (a0_6.toList == ([] : List UInt8))) = false := by simpa using c24))
       (try (have c24b2 : (a0_5.toList == ([] : List UInt8) && (a0_6.toList == ([] : List UInt8))) = false := by simpa using c24))
       (try (have c24b3 : ¬ (a0_5.toList = ([] : List UInt8) && (a0_6.toList == ([] : List UInt8))) := by simpa using c24))
       clear c24; obtain rfl := Option.some.inj H
       go_wp2_with (first | ((with_reducible refine QaA (N := 7) rfl ?_); refine Qax ?hg (N := 7) ?hd (cs := #[.string (⟨#[]⟩ : ByteArray), .string (⟨#[]⟩ : ByteArray)]) (t := 33) ?hr ?_; (case hd => rfl); (case hg => rfl); (case hr => first | (go_simp; done) | (go_simp; rfl)); intro gb106 hg w29 hbox hb; have BK106 := Qaa.mk (hbox); have GW106 := (gz_ hg : Qaa (w.heap.size ≤ gb106)); have GE106 := (gz_ hg : Qaa (w.heap.size ≤ gb106)); have NB101_106 := (nl_ hg : Qaa (gb101 ≠ gb106)); have NB106_101 := (ng_ hg : Qaa (gb106 ≠ gb101)); replace BK101 := Qaa.mk (Qad (g := gb101) bk_ hb); replace HB := Qaa.mk (Qac bw_ hb); clear hb hbox hg; have hnb30 := NB106_101.out; have hnc30 := NB101_106.out; obtain ⟨c31_0, c31_1⟩ := cz_ss BK106.out; obtain ⟨f31_0, f31_1⟩ := fz_2 BK106.out; obtain ⟨c32_0, c32_1, c32_2, c32_3, c32_4, c32_5, c32_6, c32_7, c32_8⟩ := QaM BK101.out; obtain ⟨f32_0, f32_1, f32_2, f32_3, f32_4, f32_5, f32_6, f32_7, f32_8⟩ := fz_9 BK101.out))
       all_goals go_ret
       all_goals exact ⟨by first | rfl | (simp [Qap, Qao] <;> rfl) | (simp [*, Qap, Qao] <;> rfl) | (simp_all; done), bw_⟩
     ·replace c23 := Bool.eq_false_iff.mpr c23; subst c23
      have H1 : (some false) = some r := by rw [if_neg (show ¬ (false = true) by decide)] at H; exact H
      clear H; have H := H1; clear H1; obtain rfl := Option.some.inj H
      go_wp2_with (first | ((with_reducible refine QaA (N := 7) rfl ?_); refine Qax ?hg (N := 7) ?hd (cs := #[.string (⟨#[]⟩ : ByteArray), .string (⟨#[]⟩ : ByteArray)]) (t := 33) ?hr ?_; (case hd => rfl); (case hg => rfl); (case hr => first | (go_simp; done) | (go_simp; rfl)); intro gb106 hg w33 hbox hb; have BK106 := Qaa.mk (hbox); have GW106 := (gz_ hg : Qaa (w.heap.size ≤ gb106)); have GE106 := (gz_ hg : Qaa (w.heap.size ≤ gb106)); have NB101_106 := (nl_ hg : Qaa (gb101 ≠ gb106)); have NB106_101 := (ng_ hg : Qaa (gb106 ≠ gb101)); replace BK101 := Qaa.mk (Qad (g := gb101) bk_ hb); replace HB := Qaa.mk (Qac bw_ hb); clear hb hbox hg; have hnb34 := NB106_101.out; have hnc34 := NB101_106.out; obtain ⟨c35_0, c35_1⟩ := cz_ss BK106.out; obtain ⟨f35_0, f35_1⟩ := fz_2 BK106.out; obtain ⟨c36_0, c36_1, c36_2, c36_3, c36_4, c36_5, c36_6, c36_7, c36_8⟩ := QaM BK101.out; obtain ⟨f36_0, f36_1, f36_2, f36_3, f36_4, f36_5, f36_6, f36_7, f36_8⟩ := fz_9 BK101.out))
      all_goals go_ret
      all_goals exact ⟨by first | rfl | (simp [Qap, Qao] <;> rfl) | (simp [*, Qap, Qao] <;> rfl) | (simp_all; done), bw_⟩
    ·rw [if_neg c22] at H; have c22b0 : (a0_3 == 1) = false := beq_eq_false_iff_ne.mpr c22; have c22b1 : (a0_3 != 1) = true := bne_iff_ne.mpr c22
     by_cases c37 : a0_4.toList = ([] : List UInt8)
     ·rw [if_pos c37] at H; have c37b0 : (a0_4.toList == ([] : List UInt8)) = true := beq_iff_eq.mpr c37; have c37b1 : (a0_4.toList != ([] : List UInt8)) = false := bne_eq_false_iff_eq.mpr c37; clear c37
      by_cases c38 : a0_3 = 2
      ·rw [if_pos c38] at H; have c38b0 : (a0_3 == 2) = true := beq_iff_eq.mpr c38; have c38b1 : (a0_3 != 2) = false := bne_eq_false_iff_eq.mpr c38; clear c38
       by_cases c39 : t104 = true
       ·subst c39
        have H1 : (some (a0_7.toList == ([] : List UInt8) && (a0_8.toList == ([] : List UInt8)))) = some r := by rw [if_pos rfl] at H; exact H
        clear H; have H := H1; clear H1; obtain rfl := Option.some.inj H
        go_wp2_with (first | ((with_reducible refine QaA (N := 7) rfl ?_); refine Qax ?hg (N := 7) ?hd (cs := #[.string (⟨#[]⟩ : ByteArray), .string (⟨#[]⟩ : ByteArray)]) (t := 33) ?hr ?_; (case hd => rfl); (case hg => rfl); (case hr => first | (go_simp; done) | (go_simp; rfl)); intro gb106 hg w40 hbox hb; have BK106 := Qaa.mk (hbox); have GW106 := (gz_ hg : Qaa (w.heap.size ≤ gb106)); have GE106 := (gz_ hg : Qaa (w.heap.size ≤ gb106)); have NB101_106 := (nl_ hg : Qaa (gb101 ≠ gb106)); have NB106_101 := (ng_ hg : Qaa (gb106 ≠ gb101)); replace BK101 := Qaa.mk (Qad (g := gb101) bk_ hb); replace HB := Qaa.mk (Qac bw_ hb); clear hb hbox hg; have hnb41 := NB106_101.out; have hnc41 := NB101_106.out; obtain ⟨c42_0, c42_1⟩ := cz_ss BK106.out; obtain ⟨f42_0, f42_1⟩ := fz_2 BK106.out; obtain ⟨c43_0, c43_1, c43_2, c43_3, c43_4, c43_5, c43_6, c43_7, c43_8⟩ := QaM BK101.out; obtain ⟨f43_0, f43_1, f43_2, f43_3, f43_4, f43_5, f43_6, f43_7, f43_8⟩ := fz_9 BK101.out))
        all_goals go_ret
        all_goals exact ⟨by first | rfl | (simp [Qap, Qao] <;> rfl) | (simp [*, Qap, Qao] <;> rfl) | (simp_all; done), bw_⟩
       ·replace c39 := Bool.eq_false_iff.mpr c39; subst c39
        have H1 : (some false) = some r := by rw [if_neg (show ¬ (false = true) by decide)] at H; exact H
        clear H; have H := H1; clear H1; obtain rfl := Option.some.inj H
        go_wp2_with (first | ((with_reducible refine QaA (N := 7) rfl ?_); refine Qax ?hg (N := 7) ?hd (cs := #[.string (⟨#[]⟩ : ByteArray), .string (⟨#[]⟩ : ByteArray)]) (t := 33) ?hr ?_; (case hd => rfl); (case hg => rfl); (case hr => first | (go_simp; done) | (go_simp; rfl)); intro gb106 hg w44 hbox hb; have BK106 := Qaa.mk (hbox); have GW106 := (gz_ hg : Qaa (w.heap.size ≤ gb106)); have GE106 := (gz_ hg : Qaa (w.heap.size ≤ gb106)); have NB101_106 := (nl_ hg : Qaa (gb101 ≠ gb106)); have NB106_101 := (ng_ hg : Qaa (gb106 ≠ gb101)); replace BK101 := Qaa.mk (Qad (g := gb101) bk_ hb); replace HB := Qaa.mk (Qac bw_ hb); clear hb hbox hg; have hnb45 := NB106_101.out; have hnc45 := NB101_106.out; obtain ⟨c46_0, c46_1⟩ := cz_ss BK106.out; obtain ⟨f46_0, f46_1⟩ := fz_2 BK106.out; obtain ⟨c47_0, c47_1, c47_2, c47_3, c47_4, c47_5, c47_6, c47_7, c47_8⟩ := QaM BK101.out; obtain ⟨f47_0, f47_1, f47_2, f47_3, f47_4, f47_5, f47_6, f47_7, f47_8⟩ := fz_9 BK101.out))
        all_goals go_ret
        all_goals exact ⟨by first | rfl | (simp [Qap, Qao] <;> rfl) | (simp [*, Qap, Qao] <;> rfl) | (simp_all; done), bw_⟩
      ·rw [if_neg c38] at H; have c38b0 : (a0_3 == 2) = false := beq_eq_false_iff_ne.mpr c38; have c38b1 : (a0_3 != 2) = true := bne_iff_ne.mpr c38
       by_cases c48 : a0_3 = 3
       ·rw [if_pos c48] at H; have c48b0 : (a0_3 == 3) = true := beq_iff_eq.mpr c48; have c48b1 : (a0_3 != 3) = false := bne_eq_false_iff_eq.mpr c48; clear c48; replace H := Option.bind_eq_some_iff.mp H; obtain ⟨t107, A490, H⟩ := H; replace H : ((QaZ.f kj5 a0_7 a0_8).bind fun t108 => (if t107 = true then (some t108) else (some false))) = some r := H; have A49 := Qaa.mk A490; clear A490; replace H := Option.bind_eq_some_iff.mp H; obtain ⟨t108, A500, H⟩ := H; replace H : (if t107 = true then (some t108) else (some false)) = some r := H; have A50 := Qaa.mk A500; clear A500
        by_cases c51 : t107 = true
        ·subst c51
         have H1 : (some t108) = some r := by rw [if_pos rfl] at H; exact H
         clear H; have H := H1; clear H1; obtain rfl := Option.some.inj H
         go_wp2_with (first | ((with_reducible refine QaA (N := 7) rfl ?_); refine Qax ?hg (N := 7) ?hd (cs := #[.string (⟨#[]⟩ : ByteArray), .string (⟨#[]⟩ : ByteArray)]) (t := 33) ?hr ?_; (case hd => rfl); (case hg => rfl); (case hr => first | (go_simp; done) | (go_simp; rfl)); intro gb106 hg w52 hbox hb; have BK106 := Qaa.mk (hbox); have GW106 := (gz_ hg : Qaa (w.heap.size ≤ gb106)); have GE106 := (gz_ hg : Qaa (w.heap.size ≤ gb106)); have NB101_106 := (nl_ hg : Qaa (gb101 ≠ gb106)); have NB106_101 := (ng_ hg : Qaa (gb106 ≠ gb101)); replace BK101 := Qaa.mk (Qad (g := gb101) bk_ hb); replace HB := Qaa.mk (Qac bw_ hb); clear hb hbox hg; have hnb53 := NB106_101.out; have hnc53 := NB101_106.out; obtain ⟨c54_0, c54_1⟩ := cz_ss BK106.out; obtain ⟨f54_0, f54_1⟩ := fz_2 BK106.out; obtain ⟨c55_0, c55_1, c55_2, c55_3, c55_4, c55_5, c55_6, c55_7, c55_8⟩ := QaM BK101.out; obtain ⟨f55_0, f55_1, f55_2, f55_3, f55_4, f55_5, f55_6, f55_7, f55_8⟩ := fz_9 BK101.out) | ((with_reducible refine QaT (f := 45) rfl ?_); refine gL 83 Tryz.func45 #[.agg #[.string a0_5, .string a0_6]] ?_; (with_reducible refine (QaZ.calls kj5 a0_5 a0_6 true _ A49.out).mono ?_); rintro e w56 ⟨rfl, hb⟩; refine ⟨_, rfl, ?_⟩; replace BK101 := Qaa.mk (Qad (g := gb101) (o := ob_iisisssss a0_0 a0_1 a0_2 a0_3 a0_4 a0_5 a0_6 a0_7 a0_8 35) bf_ hb); replace BK106 := Qaa.mk (Qad (g := gb106) (o := ob_ss (⟨#[]⟩ : ByteArray) (⟨#[]⟩ : ByteArray) 33) (by (with_reducible repeat (first | refine Qat ?_ _ | refine Qan ?_ | refine Qam ?_ _)); refine Qbl (cs := #[.string (⟨#[]⟩ : ByteArray), .string (⟨#[]⟩ : ByteArray)]) ?_ 1 _ rfl; (with_reducible repeat (first | refine Qat ?_ _ | refine Qan ?_ | refine Qam ?_ _)); refine Qbl (cs := #[.string (⟨#[]⟩ : ByteArray), .string (⟨#[]⟩ : ByteArray)]) ?_ 0 _ rfl; (with_reducible repeat (first | refine Qat ?_ _ | refine Qan ?_ | refine Qam ?_ _)); exact BK106.out) hb); replace HB := Qaa.mk (Qac bw_ hb); (try clear hb); (try clear hb2); (try clear hk); (try clear hi); obtain ⟨c57_0, c57_1, c57_2, c57_3, c57_4, c57_5, c57_6, c57_7, c57_8⟩ := QaM BK101.out; obtain ⟨f57_0, f57_1, f57_2, f57_3, f57_4, f57_5, f57_6, f57_7, f57_8⟩ := fz_9 BK101.out) | ((with_reducible refine QaT (f := 45) rfl ?_); refine gL 86 Tryz.func45 #[.agg #[.string a0_7, .string a0_8]] ?_; (with_reducible refine (QaZ.calls kj5 a0_7 a0_8 t108 _ A50.out).mono ?_); rintro e w58 ⟨rfl, hb⟩; refine ⟨_, rfl, ?_⟩; replace BK101 := Qaa.mk (Qad (g := gb101) bk_ hb); replace BK106 := Qaa.mk (Qad (g := gb106) bk_ hb); replace HB := Qaa.mk (Qac bw_ hb); (try clear hb); (try clear hb2); (try clear hk); (try clear hi)))
         all_goals go_ret
         all_goals exact ⟨by first | rfl | (simp [Qap, Qao] <;> rfl) | (simp [*, Qap, Qao] <;> rfl) | (simp_all; done), bw_⟩
        ·replace c51 := Bool.eq_false_iff.mpr c51; subst c51
         have H1 : (some false) = some r := by rw [if_neg (show ¬ (false = true) by decide)] at H; exact H
         clear H; have H := H1; clear H1; obtain rfl := Option.some.inj H
         go_wp2_with (first | ((with_reducible refine QaA (N := 7) rfl ?_); refine Qax ?hg (N := 7) ?hd (cs := #[.string (⟨#[]⟩ : ByteArray), .string (⟨#[]⟩ : ByteArray)]) (t := 33) ?hr ?_; (case hd => rfl); (case hg => rfl); (case hr => first | (go_simp; done) | (go_simp; rfl)); intro gb106 hg w59 hbox hb; have BK106 := Qaa.mk (hbox); have GW106 := (gz_ hg : Qaa (w.heap.size ≤ gb106)); have GE106 := (gz_ hg : Qaa (w.heap.size ≤ gb106)); have NB101_106 := (nl_ hg : Qaa (gb101 ≠ gb106)); have NB106_101 := (ng_ hg : Qaa (gb106 ≠ gb101)); replace BK101 := Qaa.mk (Qad (g := gb101) bk_ hb); replace HB := Qaa.mk (Qac bw_ hb); clear hb hbox hg; have hnb60 := NB106_101.out; have hnc60 := NB101_106.out; obtain ⟨c61_0, c61_1⟩ := cz_ss BK106.out; obtain ⟨f61_0, f61_1⟩ := fz_2 BK106.out; obtain ⟨c62_0, c62_1, c62_2, c62_3, c62_4, c62_5, c62_6, c62_7, c62_8⟩ := QaM BK101.out; obtain ⟨f62_0, f62_1, f62_2, f62_3, f62_4, f62_5, f62_6, f62_7, f62_8⟩ := fz_9 BK101.out) | ((with_reducible refine QaT (f := 45) rfl ?_); refine gL 83 Tryz.func45 #[.agg #[.string a0_5, .string a0_6]] ?_; (with_reducible refine (QaZ.calls kj5 a0_5 a0_6 false _ A49.out).mono ?_); rintro e w63 ⟨rfl, hb⟩; refine ⟨_, rfl, ?_⟩; replace BK101 := Qaa.mk (Qad (g := gb101) (o := ob_iisisssss a0_0 a0_1 a0_2 a0_3 a0_4 a0_5 a0_6 a0_7 a0_8 35) bf_ hb); replace BK106 := Qaa.mk (Qad (g := gb106) (o := ob_ss (⟨#[]⟩ : ByteArray) (⟨#[]⟩ : ByteArray) 33) (by (with_reducible repeat (first | refine Qat ?_ _ | refine Qan ?_ | refine Qam ?_ _)); refine Qbl (cs := #[.string (⟨#[]⟩ : ByteArray), .string (⟨#[]⟩ : ByteArray)]) ?_ 1 _ rfl; (with_reducible repeat (first | refine Qat ?_ _ | refine Qan ?_ | refine Qam ?_ _)); refine Qbl (cs := #[.string (⟨#[]⟩ : ByteArray), .string (⟨#[]⟩ : ByteArray)]) ?_ 0 _ rfl; (with_reducible repeat (first | refine Qat ?_ _ | refine Qan ?_ | refine Qam ?_ _)); exact BK106.out) hb); replace HB := Qaa.mk (Qac bw_ hb); (try clear hb); (try clear hb2); (try clear hk); (try clear hi); obtain ⟨c64_0, c64_1, c64_2, c64_3, c64_4, c64_5, c64_6, c64_7, c64_8⟩ := QaM BK101.out; obtain ⟨f64_0, f64_1, f64_2, f64_3, f64_4, f64_5, f64_6, f64_7, f64_8⟩ := fz_9 BK101.out) | ((with_reducible refine QaT (f := 45) rfl ?_); refine gL 86 Tryz.func45 #[.agg #[.string a0_7, .string a0_8]] ?_; (with_reducible refine (QaZ.calls kj5 a0_7 a0_8 t108 _ A50.out).mono ?_); rintro e w65 ⟨rfl, hb⟩; refine ⟨_, rfl, ?_⟩; replace BK101 := Qaa.mk (Qad (g := gb101) bk_ hb); replace BK106 := Qaa.mk (Qad (g := gb106) bk_ hb); replace HB := Qaa.mk (Qac bw_ hb); (try clear hb); (try clear hb2); (try clear hk); (try clear hi)))
         all_goals go_ret
         all_goals exact ⟨by first | rfl | (simp [Qap, Qao] <;> rfl) | (simp [*, Qap, Qao] <;> rfl) | (simp_all; done), bw_⟩
       ·rw [if_neg c48] at H; have c48b0 : (a0_3 == 3) = false := beq_eq_false_iff_ne.mpr c48; have c48b1 : (a0_3 != 3) = true := bne_iff_ne.mpr c48
        by_cases c66 : a0_3 = 4
        ·rw [if_pos c66] at H; have c66b0 : (a0_3 == 4) = true := beq_iff_eq.mpr c66; have c66b1 : (a0_3 != 4) = false := bne_eq_false_iff_eq.mpr c66; clear c66
         by_cases c67 : t104 = true
         ·subst c67
          have H1 : (some t105) = some r := by rw [if_pos rfl] at H; exact H
          clear H; have H := H1; clear H1; obtain rfl := Option.some.inj H
          go_wp2_with (first | ((with_reducible refine QaA (N := 7) rfl ?_); refine Qax ?hg (N := 7) ?hd (cs := #[.string (⟨#[]⟩ : ByteArray), .string (⟨#[]⟩ : ByteArray)]) (t := 33) ?hr ?_; (case hd => rfl); (case hg => rfl); (case hr => first | (go_simp; done) | (go_simp; rfl)); intro gb106 hg w68 hbox hb; have BK106 := Qaa.mk (hbox); have GW106 := (gz_ hg : Qaa (w.heap.size ≤ gb106)); have GE106 := (gz_ hg : Qaa (w.heap.size ≤ gb106)); have NB101_106 := (nl_ hg : Qaa (gb101 ≠ gb106)); have NB106_101 := (ng_ hg : Qaa (gb106 ≠ gb101)); replace BK101 := Qaa.mk (Qad (g := gb101) bk_ hb); replace HB := Qaa.mk (Qac bw_ hb); clear hb hbox hg; have hnb69 := NB106_101.out; have hnc69 := NB101_106.out; obtain ⟨c70_0, c70_1⟩ := cz_ss BK106.out; obtain ⟨f70_0, f70_1⟩ := fz_2 BK106.out; obtain ⟨c71_0, c71_1, c71_2, c71_3, c71_4, c71_5, c71_6, c71_7, c71_8⟩ := QaM BK101.out; obtain ⟨f71_0, f71_1, f71_2, f71_3, f71_4, f71_5, f71_6, f71_7, f71_8⟩ := fz_9 BK101.out))
          all_goals go_ret
          all_goals exact ⟨by first | rfl | (simp [Qap, Qao] <;> rfl) | (simp [*, Qap, Qao] <;> rfl) | (simp_all; done), bw_⟩
         ·replace c67 := Bool.eq_false_iff.mpr c67; subst c67
          have H1 : (some false) = some r := by rw [if_neg (show ¬ (false = true) by decide)] at H; exact H
          clear H; have H := H1; clear H1; obtain rfl := Option.some.inj H
          go_wp2_with (first | ((with_reducible refine QaA (N := 7) rfl ?_); refine Qax ?hg (N := 7) ?hd (cs := #[.string (⟨#[]⟩ : ByteArray), .string (⟨#[]⟩ : ByteArray)]) (t := 33) ?hr ?_; (case hd => rfl); (case hg => rfl); (case hr => first | (go_simp; done) | (go_simp; rfl)); intro gb106 hg w72 hbox hb; have BK106 := Qaa.mk (hbox); have GW106 := (gz_ hg : Qaa (w.heap.size ≤ gb106)); have GE106 := (gz_ hg : Qaa (w.heap.size ≤ gb106)); have NB101_106 := (nl_ hg : Qaa (gb101 ≠ gb106)); have NB106_101 := (ng_ hg : Qaa (gb106 ≠ gb101)); replace BK101 := Qaa.mk (Qad (g := gb101) bk_ hb); replace HB := Qaa.mk (Qac bw_ hb); clear hb hbox hg; have hnb73 := NB106_101.out; have hnc73 := NB101_106.out; obtain ⟨c74_0, c74_1⟩ := cz_ss BK106.out; obtain ⟨f74_0, f74_1⟩ := fz_2 BK106.out; obtain ⟨c75_0, c75_1, c75_2, c75_3, c75_4, c75_5, c75_6, c75_7, c75_8⟩ := QaM BK101.out; obtain ⟨f75_0, f75_1, f75_2, f75_3, f75_4, f75_5, f75_6, f75_7, f75_8⟩ := fz_9 BK101.out))
          all_goals go_ret
          all_goals exact ⟨by first | rfl | (simp [Qap, Qao] <;> rfl) | (simp [*, Qap, Qao] <;> rfl) | (simp_all; done), bw_⟩
        ·rw [if_neg c66] at H; have c66b0 : (a0_3 == 4) = false := beq_eq_false_iff_ne.mpr c66; have c66b1 : (a0_3 != 4) = true := bne_iff_ne.mpr c66; obtain rfl := Option.some.inj H
         go_wp2_with (first | ((with_reducible refine QaA (N := 7) rfl ?_); refine Qax ?hg (N := 7) ?hd (cs := #[.string (⟨#[]⟩ : ByteArray), .string (⟨#[]⟩ : ByteArray)]) (t := 33) ?hr ?_; (case hd => rfl); (case hg => rfl); (case hr => first | (go_simp; done) | (go_simp; rfl)); intro gb106 hg w76 hbox hb; have BK106 := Qaa.mk (hbox); have GW106 := (gz_ hg : Qaa (w.heap.size ≤ gb106)); have GE106 := (gz_ hg : Qaa (w.heap.size ≤ gb106)); have NB101_106 := (nl_ hg : Qaa (gb101 ≠ gb106)); have NB106_101 := (ng_ hg : Qaa (gb106 ≠ gb101)); replace BK101 := Qaa.mk (Qad (g := gb101) bk_ hb); replace HB := Qaa.mk (Qac bw_ hb); clear hb hbox hg; have hnb77 := NB106_101.out; have hnc77 := NB101_106.out; obtain ⟨c78_0, c78_1⟩ := cz_ss BK106.out; obtain ⟨f78_0, f78_1⟩ := fz_2 BK106.out; obtain ⟨c79_0, c79_1, c79_2, c79_3, c79_4, c79_5, c79_6, c79_7, c79_8⟩ := QaM BK101.out; obtain ⟨f79_0, f79_1, f79_2, f79_3, f79_4, f79_5, f79_6, f79_7, f79_8⟩ := fz_9 BK101.out))
         all_goals go_ret
         all_goals exact ⟨by first | rfl | (simp [Qap, Qao] <;> rfl) | (simp [*, Qap, Qao] <;> rfl) | (simp_all; done), bw_⟩
     ·rw [if_neg c37] at H; have c37b0 : (a0_4.toList == ([] : List UInt8)) = false := beq_eq_false_iff_ne.mpr c37; have c37b1 : (a0_4.toList != ([] : List UInt8)) = true := bne_iff_ne.mpr c37; obtain rfl := Option.some.inj H
      go_wp2_with (first | ((with_reducible refine QaA (N := 7) rfl ?_); refine Qax ?hg (N := 7) ?hd (cs := #[.string (⟨#[]⟩ : ByteArray), .string (⟨#[]⟩ : ByteArray)]) (t := 33) ?hr ?_; (case hd => rfl); (case hg => rfl); (case hr => first | (go_simp; done) | (go_simp; rfl)); intro gb106 hg w80 hbox hb; have BK106 := Qaa.mk (hbox); have GW106 := (gz_ hg : Qaa (w.heap.size ≤ gb106)); have GE106 := (gz_ hg : Qaa (w.heap.size ≤ gb106)); have NB101_106 := (nl_ hg : Qaa (gb101 ≠ gb106)); have NB106_101 := (ng_ hg : Qaa (gb106 ≠ gb101)); replace BK101 := Qaa.mk (Qad (g := gb101) bk_ hb); replace HB := Qaa.mk (Qac bw_ hb); clear hb hbox hg; have hnb81 := NB106_101.out; have hnc81 := NB101_106.out; obtain ⟨c82_0, c82_1⟩ := cz_ss BK106.out; obtain ⟨f82_0, f82_1⟩ := fz_2 BK106.out; obtain ⟨c83_0, c83_1, c83_2, c83_3, c83_4, c83_5, c83_6, c83_7, c83_8⟩ := QaM BK101.out; obtain ⟨f83_0, f83_1, f83_2, f83_3, f83_4, f83_5, f83_6, f83_7, f83_8⟩ := fz_9 BK101.out))
      all_goals go_ret
      all_goals exact ⟨by first | rfl | (simp [Qap, Qao] <;> rfl) | (simp [*, Qap, Qao] <;> rfl) | (simp_all; done), bw_⟩
end
section
attribute [local go_sem] QaE QaC QaS QaR Qaw Qav QaD QaB
def Qba.f (a0_0 : Int) (a0_1 : Int) (a1_0 : Int) (a1_1 : Int) : Option (Bool) := if a0_0 = a1_0 then (some (decide (a0_1 < a1_1))) else (some (decide (a0_0 < a1_0)))
set_option maxHeartbeats 8000000 in
set_option maxRecDepth 100000 in
theorem Qba.calls (a0_0 : Int) (a0_1 : Int) (a1_0 : Int) (a1_1 : Int) (r : Bool) (w : World) (h : Qba.f a0_0 a0_1 a1_0 a1_1 = some r) :
  Calls Tryz.prog 61 #[.agg #[.int .i64 a0_0, .int .i64 a0_1], .agg #[.int .i64 a1_0, .int .i64 a1_1]] w fun e w' => e = .returned (.bool r) ∧ Below w.heap.size w w' := by
 have hu31 := Tryz.underlying31; have HB := Qaa.mk (Below.refl w.heap.size w); have H : (if a0_0 = a1_0 then (some (decide (a0_1 < a1_1))) else (some (decide (a0_0 < a1_0)))) = some r := h; clear h
 by_cases c3 : a0_0 = a1_0
 ·rw [if_pos c3] at H; have c3b0 : (a0_0 == a1_0) = true := beq_iff_eq.mpr c3; have c3b1 : (a0_0 != a1_0) = false := bne_eq_false_iff_eq.mpr c3; clear c3; obtain rfl := Option.some.inj H; go_enter Tryz.func61, Tryz.ntmps61
  go_wp2_with (first | ((with_reducible refine QaA (N := 2) rfl ?_); refine Qax ?hg (N := 2) ?hd (cs := #[.int .i64 a0_0, .int .i64 a0_1]) (t := 31) ?hr ?_; (case hd => rfl); (case hg => rfl); (case hr => first | (go_simp; done) | (go_simp; rfl)); intro gb101 hg w4 hbox hb; have BK101 := Qaa.mk (hbox); have GW101 := (gz_ hg : Qaa (w.heap.size ≤ gb101)); have GE101 := (gz_ hg : Qaa (w.heap.size ≤ gb101)); replace HB := Qaa.mk (Qac bw_ hb); clear hb hbox hg) | ((with_reducible refine QaA (N := 3) rfl ?_); refine Qax ?hg (N := 3) ?hd (cs := #[.int .i64 a1_0, .int .i64 a1_1]) (t := 31) ?hr ?_; (case hd => rfl); (case hg => rfl); (case hr => first | (go_simp; done) | (go_simp; rfl)); intro gb102 hg w5 hbox hb; have BK102 := Qaa.mk (hbox); have GW102 := (gz_ hg : Qaa (w.heap.size ≤ gb102)); have GE102 := (gz_ hg : Qaa (w.heap.size ≤ gb102)); have NB101_102 := (nl_ hg : Qaa (gb101 ≠ gb102)); have NB102_101 := (ng_ hg : Qaa (gb102 ≠ gb101)); replace BK101 := Qaa.mk (Qad (g := gb101) bk_ hb); replace HB := Qaa.mk (Qac bw_ hb); clear hb hbox hg; have hnb6 := NB101_102.out; have hnc6 := NB102_101.out; obtain ⟨c7_0, c7_1⟩ := cz_ii BK101.out; obtain ⟨f7_0, f7_1⟩ := fz_2 BK101.out; obtain ⟨c8_0, c8_1⟩ := cz_ii BK102.out; obtain ⟨f8_0, f8_1⟩ := fz_2 BK102.out))
  go_ret; exact ⟨by first | rfl | (simp [Qap, Qao] <;> rfl) | (simp [*, Qap, Qao] <;> rfl), bw_⟩
 ·rw [if_neg c3] at H; have c3b0 : (a0_0 == a1_0) = false := beq_eq_false_iff_ne.mpr c3; have c3b1 : (a0_0 != a1_0) = true := bne_iff_ne.mpr c3; obtain rfl := Option.some.inj H; go_enter Tryz.func61, Tryz.ntmps61
  go_wp2_with (first | ((with_reducible refine QaA (N := 2) rfl ?_); refine Qax ?hg (N := 2) ?hd (cs := #[.int .i64 a0_0, .int .i64 a0_1]) (t := 31) ?hr ?_; (case hd => rfl); (case hg => rfl); (case hr => first | (go_simp; done) | (go_simp; rfl)); intro gb101 hg w9 hbox hb; have BK101 := Qaa.mk (hbox); have GW101 := (gz_ hg : Qaa (w.heap.size ≤ gb101)); have GE101 := (gz_ hg : Qaa (w.heap.size ≤ gb101)); replace HB := Qaa.mk (Qac bw_ hb); clear hb hbox hg) | ((with_reducible refine QaA (N := 3) rfl ?_); refine Qax ?hg (N := 3) ?hd (cs := #[.int .i64 a1_0, .int .i64 a1_1]) (t := 31) ?hr ?_; (case hd => rfl); (case hg => rfl); (case hr => first | (go_simp; done) | (go_simp; rfl)); intro gb102 hg w10 hbox hb; have BK102 := Qaa.mk (hbox); have GW102 := (gz_ hg : Qaa (w.heap.size ≤ gb102)); have GE102 := (gz_ hg : Qaa (w.heap.size ≤ gb102)); have NB101_102 := (nl_ hg : Qaa (gb101 ≠ gb102)); have NB102_101 := (ng_ hg : Qaa (gb102 ≠ gb101)); replace BK101 := Qaa.mk (Qad (g := gb101) bk_ hb); replace HB := Qaa.mk (Qac bw_ hb); clear hb hbox hg; have hnb11 := NB101_102.out; have hnc11 := NB102_101.out; obtain ⟨c12_0, c12_1⟩ := cz_ii BK101.out; obtain ⟨f12_0, f12_1⟩ := fz_2 BK101.out; obtain ⟨c13_0, c13_1⟩ := cz_ii BK102.out; obtain ⟨f13_0, f13_1⟩ := fz_2 BK102.out))
  go_ret; exact ⟨by first | rfl | (simp [Qap, Qao] <;> rfl) | (simp [*, Qap, Qao] <;> rfl), bw_⟩

mutual
def Qag.l0 : Nat → List (S35) → List (S35) → Option ((List (S35)))
 | 0, _, _ => none
 | k + 1, x0, x3 => if (x0.length : Int) > 0 then (Qag.l1 k x0 x3 0 1) else (some x3)
def Qag.l1 : Nat → List (S35) → List (S35) → Int → Int → Option ((List (S35)))
 | 0, _, _, _, _ => none
 | k + 1, x0, x3, x4, x5 => if x5 < (x0.length : Int) then (if 0 ≤ x5 then (if 0 ≤ x4 then (if x4 < (x0.length : Int) then ((Qba.f ((Qae x0 x5).f0.f0) ((Qae x0 x5).f0.f1) ((Qae x0 x4).f0.f0) ((Qae x0 x4).f0.f1)).bind fun t103 => (if t103 = true then (Qag.l1 k x0 x3 x5 (wrap64 (x5 + 1))) else (Qag.l1 k x0 x3 x4 (wrap64 (x5 + 1))))) else (none)) else (none)) else (none)) else (if 0 ≤ x4 then (if x4 < (x0.length : Int) then (if x3.length < 1172812402961 then (if x4 ≤ (x0.length : Int) then ((some (x0.take (x4 : Int).toNat : List (S35))).bind fun y108 => (if ([] : List (S35)).length + y108.length < 1172812402961 then ((some (([] : List (S35)) ++ y108 : List (S35))).bind fun y113 => (if 0 ≤ (wrap64 (x4 + 1)) then (if (wrap64 (x4 + 1)) ≤ (x0.length : Int) then ((some (x0.drop ((wrap64 (x4 + 1)) : Int).toNat : List (S35))).bind fun y116 => (if y113.length + y116.length < 1172812402961 then (Qag.l0 k (y113 ++ y116) (x3 ++ [(⟨(⟨(Qae x0 x4).f0.f0, (Qae x0 x4).f0.f1⟩ : S31), (Qae x0 x4).f1, (Qae x0 x4).f2, (Qae x0 x4).f3, (⟨(Qae x0 x4).f4.f0, (Qae x0 x4).f4.f1⟩ : S33), (⟨(Qae x0 x4).f5.f0, (Qae x0 x4).f5.f1⟩ : S33)⟩ : S35)])) else (none))) else (none)) else (none))) else (none))) else (none)) else (none)) else (none)) else (none))
end
def Qag.f (k : Nat) (l0 : List (S35)) : Option ((List (S35))) := Qag.l0 k l0 ([] : List (S35))
def Qag.T7 : Bool × List (List Nat × List Nat) := (true, [([], []), ([], []), ([0, 1], [0, 1]), ([2], [2]), ([3], [3]), ([], []), ([], []), ([5, 6], [5, 6]), ([7], [7]), ([8], [8]), ([4, 9], [4, 9])])
def Qag.B7 : List Nat := [0, 0, 3, 7, 15, 0, 0, 96, 224, 480, 1023]
theorem Qag.tab7 : rtab .any (opsOf Tryz.f47 7) = Qag.T7 := by kernel_rfl
theorem Qag.bits7 : waitsOk Qag.T7.2 Qag.B7 = true := by kernel_rfl
set_option maxHeartbeats 8000000 in
set_option maxRecDepth 100000 in
theorem Qag.calls (k : Nat) (P0_ : Nat → Prop) (A0 : Option Addr) (c0 : Nat) (l0 : List (S35)) (r : List (S35)) (w : World) (hs0 : Kd.V k35 35 w w.heap.size (fun k_ => P0_ k_) (.slice A0 l0.length c0) l0) (h : Qag.f k l0 = some r) :
  Calls Tryz.prog 47 #[.slice A0 l0.length c0] w fun e w' => ∃ v0_ : Value, e = .returned (v0_) ∧ Kd.R k35 35 w' w.heap.size (fun k_ => (w.heap.size ≤ k_)) v0_ r ∧ Below w.heap.size w w' := by
 have hu31 := Tryz.underlying31; have hu35 := Tryz.underlying35; have HO0 := Qaa.mk (show Kd.V k35 35 w w.heap.size (fun k_ => (P0_ k_ ∨ w.heap.size ≤ k_)) (.slice A0 l0.length c0) l0 from Kd.V_mono hs0 (fun k_ hk => .inl hk)); have HB := Qaa.mk (Below.refl w.heap.size w); have H : (Qag.l0 k l0 ([] : List (S35))) = some r := h; clear h; have H' := Qaa.mk H; clear H; go_enter Tryz.func47, Tryz.ntmps47; go_wp2
 go_loopg [0, 3] k (fun kq v0 v3 w' => ∃ (x0_1 : List (S35)) (x3_1 : List (S35)), Qaa (Qag.l0 kq x0_1 x3_1 = some r) ∧ Qaa (kq ≤ k) ∧ Qaa (Kd.V k35 35 w' w.heap.size (fun k_ => (P0_ k_ ∨ w.heap.size ≤ k_) ∧ some k_ ≠ (v3 : Value).ownBlock) v0 x0_1) ∧ Qaa (Kd.R k35 35 w' w.heap.size (fun k_ => (w.heap.size ≤ k_)) v3 x3_1) ∧ Qaa (Below w.heap.size w w'))
 case atStart => exact ⟨(l0), (([] : List (S35))), H', ⟨Nat.le_refl _⟩, ⟨by (with_reducible repeat (first | apply Kd.V_alloc | apply Kd.V_drewN | apply Kd.V_drew)); exact Kd.V_mono HO0.out (fun _ hk => ⟨hk, (by simp [Value.ownBlock])⟩)⟩, ⟨by first | exact Kd.R_nil _ _ _ _ _ | exact Kd.N_nil _ _ _ _ _ | exact Kd.V_nil _ _ _ _ _ | exact Kd.Q_nil _ _ _ _ _ | exact Kd.S_nil _ _ _ _ _⟩, ⟨bw_⟩⟩
 case round =>
  clear H'; obtain ⟨x0_1, x3_1, HA, HK1, HO_0, HO_3, HB⟩ := hrel
  cases gk with
  | zero => exact absurd HA.out (by simp [Qag.l0])
  | succ k1 =>
   have H := HA.out; clear HA; simp only [Qag.l0] at H
   by_cases c2 : (x0_1.length : Int) > 0
   ·rw [if_pos c2] at H; have c2b0 : decide (0 < (x0_1.length : Int)) = true := decide_eq_true c2; have c2b1 : decide (0 < x0_1.length) = true := decide_eq_true (by omega); clear c2; have H' := Qaa.mk H; clear H; obtain ⟨Ao3, co3, eo3⟩ := Kd.V_slice HO_0.out; subst eo3; go_wp2
    go_loopg [4, 5] k1 (fun kq v4 v5 w' => ∃ (x4_2 : Int) (x5_2 : Int), v4 = .int .i64 x4_2 ∧ v5 = .int .i64 x5_2 ∧ Qaa (Qag.l1 kq x0_1 x3_1 x4_2 x5_2 = some r) ∧ Qaa (kq ≤ k1) ∧ Qaa (Kd.V k35 35 w' w.heap.size (fun k_ => (P0_ k_ ∨ w.heap.size ≤ k_) ∧ some k_ ≠ (u3 : Value).ownBlock) (.slice Ao3 x0_1.length co3) x0_1) ∧ Qaa (Kd.R k35 35 w' w.heap.size (fun k_ => (w.heap.size ≤ k_)) u3 x3_1) ∧ Qaa (Below w.heap.size w w'))
    case atStart => exact ⟨(0), (1), (by first | rfl | (simp; done) | (simp [*]; done)), (by first | rfl | (simp; done) | (simp [*]; done)), H', ⟨Nat.le_refl _⟩, ⟨by (with_reducible repeat (first | apply Kd.V_alloc | apply Kd.V_drewN | apply Kd.V_drew)); exact HO_0.out⟩, ⟨by (with_reducible repeat (first | apply Kd.QaN | apply Kd.QaQ | apply Kd.QaO)); exact HO_3.out⟩, ⟨bw_⟩⟩
    case round =>
     clear H'; (try clear c2); (try clear c2b0); (try clear c2b1); (try clear p2); obtain ⟨x4_2, x5_2, rfl, rfl, HA, HK2, HO_0, HO_3, HB⟩ := hrel
     cases gk with
     | zero => exact absurd HA.out (by simp [Qag.l1])
     | succ k2 =>
      have H := HA.out; clear HA; simp only [Qag.l1] at H
      by_cases c4 : x5_2 < (x0_1.length : Int)
      ·rw [if_pos c4] at H; have c4b0 : decide (x5_2 < (x0_1.length : Int)) = true := decide_eq_true c4; clear c4
       by_cases c5 : 0 ≤ x5_2
       ·rw [if_pos c5] at H; have c5b0 : decide (0 ≤ x5_2) = true := decide_eq_true c5; clear c5
        by_cases c6 : 0 ≤ x4_2
        ·rw [if_pos c6] at H; have c6b0 : decide (0 ≤ x4_2) = true := decide_eq_true c6; clear c6
         by_cases c7 : x4_2 < (x0_1.length : Int)
         ·rw [if_pos c7] at H; have c7b0 : decide (x4_2 < (x0_1.length : Int)) = true := decide_eq_true c7; clear c7; replace H := Option.bind_eq_some_iff.mp H; obtain ⟨t103, A80, H⟩ := H; replace H : (if t103 = true then (Qag.l1 k2 x0_1 x3_1 x5_2 (wrap64 (x5_2 + 1))) else (Qag.l1 k2 x0_1 x3_1 x4_2 (wrap64 (x5_2 + 1)))) = some r := H; have A8 := Qaa.mk A80; clear A80
          by_cases c9 : t103 = true
          ·subst c9
           have H1 : (Qag.l1 k2 x0_1 x3_1 x5_2 (wrap64 (x5_2 + 1))) = some r := by rw [if_pos rfl] at H; exact H
           clear H; have H := H1; clear H1; have H' := Qaa.mk H; clear H
           try go_wp2
           replace HO_0 := Qaa.mk (Kd.V_drew HO_0.out); replace HO_3 := Qaa.mk (Kd.QaO HO_3.out); replace HB := Qaa.mk (Qau HB.out); have p101 : 0 ≤ (x5_2 : Int) := dd_; have q101 : x5_2 < (x0_1.length : Int) := dd_; obtain ⟨ad101, e101, hx101_0, hx101_1, hx101_2, hx101_3, hx101_4, hx101_5, hx101_6, hx101_7, hx101_8⟩ := at_T35 (Kd.V_reads' HO_0.out).2.2 x5_2 p101 q101; cases e101; replace p101 := eq_true p101; replace q101 := eq_true q101; have p102 : 0 ≤ (x4_2 : Int) := dd_; have q102 : x4_2 < (x0_1.length : Int) := dd_; obtain ⟨ad102, e102, hx102_0, hx102_1, hx102_2, hx102_3, hx102_4, hx102_5, hx102_6, hx102_7, hx102_8⟩ := at_T35 (Kd.V_reads' HO_0.out).2.2 x4_2 p102 q102
           obtain rfl : ad101 = ad102 := (by injection e102)
           replace p102 := eq_true p102; replace q102 := eq_true q102; refine Qbo (n := 11) (S := fun w' => cr_iisisssss w' (ad101.add ((x5_2).toNat * 9)) ((Qae x0_1 x5_2).f0.f0) ((Qae x0_1 x5_2).f0.f1) ((Qae x0_1 x5_2).f1) ((Qae x0_1 x5_2).f2) ((Qae x0_1 x5_2).f3) ((Qae x0_1 x5_2).f4.f0) ((Qae x0_1 x5_2).f4.f1) ((Qae x0_1 x5_2).f5.f0) ((Qae x0_1 x5_2).f5.f1) (crl_iisisssss w' (ad101.add ((x4_2).toNat * 9)) ((Qae x0_1 x4_2).f0.f0) ((Qae x0_1 x4_2).f0.f1) ((Qae x0_1 x4_2).f1) ((Qae x0_1 x4_2).f2) ((Qae x0_1 x4_2).f3) ((Qae x0_1 x4_2).f4.f0) ((Qae x0_1 x4_2).f4.f1) ((Qae x0_1 x4_2).f5.f0) ((Qae x0_1 x4_2).f5.f1))) (ds := []) #[ff,ff,ff,ff,ff,ff,ff,ff,ff,ff,ff] (by kernel_rfl) rfl rfl ⟨hx101_0, hx101_1, hx101_2, hx101_3, hx101_4, hx101_5, hx101_6, hx101_7, hx101_8, hx102_0, hx102_1, hx102_2, hx102_3, hx102_4, hx102_5, hx102_6, hx102_7, hx102_8⟩ (fun hHeld => ?_); refine Qa9 Qag.tab7 Qag.bits7 (fun HT_ HW_ => ?_)
           generalize wr.drew = w10 at HO_0 HO_3 HB hx101_0 hx101_1 hx101_2 hx101_3 hx101_4 hx101_5 hx101_6 hx101_7 hx101_8 hx102_0 hx102_1 hx102_2 hx102_3 hx102_4 hx102_5 hx102_6 hx102_7 hx102_8 hHeld ⊢
           refine pz 0 16 ?_; refine pz 1 17 ?_; refine pz 2 18 ?_; refine pz 3 19 ?_; refine pz 5 21 ?_; refine pz 6 22 ?_; refine pz 7 23 ?_; refine pz 8 24 ?_; refine tk18 4 20 ?_; refine tk18 9 25 ?_; refine one_ (i := 10) (N := some 26) #[tt,tt,tt,tt,tt,tt,tt,tt,tt,tt,tt] rfl rfl (QbK HT_.out (by kernel_rfl)) (by decide) (fun K hK => ?_); refine goes_ Tryz.func61 (by kernel_rfl) rfl #[.agg #[.int .i64 ((Qae x0_1 x5_2).f0.f0), .int .i64 ((Qae x0_1 x5_2).f0.f1)], .agg #[.int .i64 ((Qae x0_1 x4_2).f0.f0), .int .i64 ((Qae x0_1 x4_2).f0.f1)]] (by rfl) rfl rfl (by (try simp only [List.map_toArray, List.map_cons, List.map_nil]); first | done | rfl | (simp only [List.length_drop, List.length_take]; rfl)) ?_
           with_reducible refine (Qba.calls ((Qae x0_1 x5_2).f0.f0) ((Qae x0_1 x5_2).f0.f1) ((Qae x0_1 x4_2).f0.f0) ((Qae x0_1 x4_2).f0.f1) true _ A8.out).mono ?_
           rintro e w11 ⟨rfl, hb⟩; have HS0_ := cc_ hb hHeld.1; have HS1_ := cc_ hb hHeld.2.1; have HS2_ := cc_ hb hHeld.2.2.1; have HS3_ := cc_ hb hHeld.2.2.2.1; have HS4_ := cc_ hb hHeld.2.2.2.2.1; have HS5_ := cc_ hb hHeld.2.2.2.2.2.1; have HS6_ := cc_ hb hHeld.2.2.2.2.2.2.1; have HS7_ := cc_ hb hHeld.2.2.2.2.2.2.2.1; have HS8_ := cc_ hb hHeld.2.2.2.2.2.2.2.2.1; have HS9_ := cc_ hb hHeld.2.2.2.2.2.2.2.2.2.1; have HS10_ := cc_ hb hHeld.2.2.2.2.2.2.2.2.2.2.1; have HS11_ := cc_ hb hHeld.2.2.2.2.2.2.2.2.2.2.2.1; have HS12_ := cc_ hb hHeld.2.2.2.2.2.2.2.2.2.2.2.2.1; have HS13_ := cc_ hb hHeld.2.2.2.2.2.2.2.2.2.2.2.2.2.1
           have HS14_ := cc_ hb hHeld.2.2.2.2.2.2.2.2.2.2.2.2.2.2.1; have HS15_ := cc_ hb hHeld.2.2.2.2.2.2.2.2.2.2.2.2.2.2.2.1; have HS16_ := cc_ hb hHeld.2.2.2.2.2.2.2.2.2.2.2.2.2.2.2.2.1; have HS17_ := cc_ hb hHeld.2.2.2.2.2.2.2.2.2.2.2.2.2.2.2.2.2; refine ⟨_, rfl, ?_⟩; replace HO_0 := Qaa.mk (Kd.V_below (by (with_reducible repeat (first | apply Kd.V_alloc | apply Kd.V_drewN | apply Kd.V_drew)); exact HO_0.out) hb); replace HO_3 := Qaa.mk (Kd.Qa3 (ro_ HO_3) hb); replace HB := Qaa.mk (Qac bw_ hb)
           (try clear hb)
           (try clear hb2)
           (try clear hk)
           (try clear hi)
           refine hK.out _ _ ⟨HS0_, HS1_, HS2_, HS3_, HS4_, HS5_, HS6_, HS7_, HS8_, HS9_, HS10_, HS11_, HS12_, HS13_, HS14_, HS15_, HS16_, HS17_⟩ (fun hHeld => ?_); clear hK K; refine norm_ (a' := ?_) ?_ ?_; rotate_left
           ·show Act.put _ (some 26) _ = _
            simp only [Act.put, put_, Qbe, Qbh]; rfl
           refine QbS (Qbz HT_.out (by kernel_rfl)) ?_
           try go_wp2
           go_roundg k2
           case measure => have := HK1.out; have := HK2.out; omega
           case rel => exact ⟨(x5_2), (wrap64 (x5_2 + 1)), (by first | rfl | (simp; done) | (simp [*]; done)), (by first | rfl | (simp; done) | (simp [*]; done)), H', ⟨by have := HK1.out; have := HK2.out; omega⟩, ⟨by (with_reducible repeat (first | apply Kd.V_alloc | apply Kd.V_drewN | apply Kd.V_drew)); exact HO_0.out⟩, ⟨by (with_reducible repeat (first | apply Kd.QaN | apply Kd.QaQ | apply Kd.QaO)); exact HO_3.out⟩, ⟨bw_⟩⟩
          ·replace c9 := Bool.eq_false_iff.mpr c9; subst c9
           have H1 : (Qag.l1 k2 x0_1 x3_1 x4_2 (wrap64 (x5_2 + 1))) = some r := by rw [if_neg (show ¬ (false = true) by decide)] at H; exact H
           clear H; have H := H1; clear H1; have H' := Qaa.mk H; clear H
           try go_wp2
           replace HO_0 := Qaa.mk (Kd.V_drew HO_0.out); replace HO_3 := Qaa.mk (Kd.QaO HO_3.out); replace HB := Qaa.mk (Qau HB.out); have p101 : 0 ≤ (x5_2 : Int) := dd_; have q101 : x5_2 < (x0_1.length : Int) := dd_; obtain ⟨ad101, e101, hx101_0, hx101_1, hx101_2, hx101_3, hx101_4, hx101_5, hx101_6, hx101_7, hx101_8⟩ := at_T35 (Kd.V_reads' HO_0.out).2.2 x5_2 p101 q101; cases e101; replace p101 := eq_true p101; replace q101 := eq_true q101; have p102 : 0 ≤ (x4_2 : Int) := dd_; have q102 : x4_2 < (x0_1.length : Int) := dd_; obtain ⟨ad102, e102, hx102_0, hx102_1, hx102_2, hx102_3, hx102_4, hx102_5, hx102_6, hx102_7, hx102_8⟩ := at_T35 (Kd.V_reads' HO_0.out).2.2 x4_2 p102 q102
           obtain rfl : ad101 = ad102 := (by injection e102)
           replace p102 := eq_true p102; replace q102 := eq_true q102; refine Qbo (n := 11) (S := fun w' => cr_iisisssss w' (ad101.add ((x5_2).toNat * 9)) ((Qae x0_1 x5_2).f0.f0) ((Qae x0_1 x5_2).f0.f1) ((Qae x0_1 x5_2).f1) ((Qae x0_1 x5_2).f2) ((Qae x0_1 x5_2).f3) ((Qae x0_1 x5_2).f4.f0) ((Qae x0_1 x5_2).f4.f1) ((Qae x0_1 x5_2).f5.f0) ((Qae x0_1 x5_2).f5.f1) (crl_iisisssss w' (ad101.add ((x4_2).toNat * 9)) ((Qae x0_1 x4_2).f0.f0) ((Qae x0_1 x4_2).f0.f1) ((Qae x0_1 x4_2).f1) ((Qae x0_1 x4_2).f2) ((Qae x0_1 x4_2).f3) ((Qae x0_1 x4_2).f4.f0) ((Qae x0_1 x4_2).f4.f1) ((Qae x0_1 x4_2).f5.f0) ((Qae x0_1 x4_2).f5.f1))) (ds := []) #[ff,ff,ff,ff,ff,ff,ff,ff,ff,ff,ff] (by kernel_rfl) rfl rfl ⟨hx101_0, hx101_1, hx101_2, hx101_3, hx101_4, hx101_5, hx101_6, hx101_7, hx101_8, hx102_0, hx102_1, hx102_2, hx102_3, hx102_4, hx102_5, hx102_6, hx102_7, hx102_8⟩ (fun hHeld => ?_); refine Qa9 Qag.tab7 Qag.bits7 (fun HT_ HW_ => ?_)
           generalize wr.drew = w12 at HO_0 HO_3 HB hx101_0 hx101_1 hx101_2 hx101_3 hx101_4 hx101_5 hx101_6 hx101_7 hx101_8 hx102_0 hx102_1 hx102_2 hx102_3 hx102_4 hx102_5 hx102_6 hx102_7 hx102_8 hHeld ⊢
           refine pz 0 16 ?_; refine pz 1 17 ?_; refine pz 2 18 ?_; refine pz 3 19 ?_; refine pz 5 21 ?_; refine pz 6 22 ?_; refine pz 7 23 ?_; refine pz 8 24 ?_; refine tk18 4 20 ?_; refine tk18 9 25 ?_; refine one_ (i := 10) (N := some 26) #[tt,tt,tt,tt,tt,tt,tt,tt,tt,tt,tt] rfl rfl (QbK HT_.out (by kernel_rfl)) (by decide) (fun K hK => ?_); refine goes_ Tryz.func61 (by kernel_rfl) rfl #[.agg #[.int .i64 ((Qae x0_1 x5_2).f0.f0), .int .i64 ((Qae x0_1 x5_2).f0.f1)], .agg #[.int .i64 ((Qae x0_1 x4_2).f0.f0), .int .i64 ((Qae x0_1 x4_2).f0.f1)]] (by rfl) rfl rfl (by (try simp only [List.map_toArray, List.map_cons, List.map_nil]); first | done | rfl | (simp only [List.length_drop, List.length_take]; rfl)) ?_
           with_reducible refine (Qba.calls ((Qae x0_1 x5_2).f0.f0) ((Qae x0_1 x5_2).f0.f1) ((Qae x0_1 x4_2).f0.f0) ((Qae x0_1 x4_2).f0.f1) false _ A8.out).mono ?_
           rintro e w13 ⟨rfl, hb⟩; have HS0_ := cc_ hb hHeld.1; have HS1_ := cc_ hb hHeld.2.1; have HS2_ := cc_ hb hHeld.2.2.1; have HS3_ := cc_ hb hHeld.2.2.2.1; have HS4_ := cc_ hb hHeld.2.2.2.2.1; have HS5_ := cc_ hb hHeld.2.2.2.2.2.1; have HS6_ := cc_ hb hHeld.2.2.2.2.2.2.1; have HS7_ := cc_ hb hHeld.2.2.2.2.2.2.2.1; have HS8_ := cc_ hb hHeld.2.2.2.2.2.2.2.2.1; have HS9_ := cc_ hb hHeld.2.2.2.2.2.2.2.2.2.1; have HS10_ := cc_ hb hHeld.2.2.2.2.2.2.2.2.2.2.1; have HS11_ := cc_ hb hHeld.2.2.2.2.2.2.2.2.2.2.2.1; have HS12_ := cc_ hb hHeld.2.2.2.2.2.2.2.2.2.2.2.2.1; have HS13_ := cc_ hb hHeld.2.2.2.2.2.2.2.2.2.2.2.2.2.1
           have HS14_ := cc_ hb hHeld.2.2.2.2.2.2.2.2.2.2.2.2.2.2.1; have HS15_ := cc_ hb hHeld.2.2.2.2.2.2.2.2.2.2.2.2.2.2.2.1; have HS16_ := cc_ hb hHeld.2.2.2.2.2.2.2.2.2.2.2.2.2.2.2.2.1; have HS17_ := cc_ hb hHeld.2.2.2.2.2.2.2.2.2.2.2.2.2.2.2.2.2; refine ⟨_, rfl, ?_⟩; replace HO_0 := Qaa.mk (Kd.V_below (by (with_reducible repeat (first | apply Kd.V_alloc | apply Kd.V_drewN | apply Kd.V_drew)); exact HO_0.out) hb); replace HO_3 := Qaa.mk (Kd.Qa3 (ro_ HO_3) hb); replace HB := Qaa.mk (Qac bw_ hb)
           (try clear hb)
           (try clear hb2)
           (try clear hk)
           (try clear hi)
           refine hK.out _ _ ⟨HS0_, HS1_, HS2_, HS3_, HS4_, HS5_, HS6_, HS7_, HS8_, HS9_, HS10_, HS11_, HS12_, HS13_, HS14_, HS15_, HS16_, HS17_⟩ (fun hHeld => ?_); clear hK K; refine norm_ (a' := ?_) ?_ ?_; rotate_left
           ·show Act.put _ (some 26) _ = _
            simp only [Act.put, put_, Qbe, Qbh]; rfl
           refine QbS (Qbz HT_.out (by kernel_rfl)) ?_
           try go_wp2
           go_roundg k2
           case measure => have := HK1.out; have := HK2.out; omega
           case rel => exact ⟨(x4_2), (wrap64 (x5_2 + 1)), (by first | rfl | (simp; done) | (simp [*]; done)), (by first | rfl | (simp; done) | (simp [*]; done)), H', ⟨by have := HK1.out; have := HK2.out; omega⟩, ⟨by (with_reducible repeat (first | apply Kd.V_alloc | apply Kd.V_drewN | apply Kd.V_drew)); exact HO_0.out⟩, ⟨by (with_reducible repeat (first | apply Kd.QaN | apply Kd.QaQ | apply Kd.QaO)); exact HO_3.out⟩, ⟨bw_⟩⟩
         ·rw [if_neg c7] at H; exact absurd H (by simp)
        ·rw [if_neg c6] at H; exact absurd H (by simp)
       ·rw [if_neg c5] at H; exact absurd H (by simp)
      ·rw [if_neg c4] at H; have c4b0 : decide (x5_2 < (x0_1.length : Int)) = false := decide_eq_false c4; clear c4
       by_cases c14 : 0 ≤ x4_2
       ·rw [if_pos c14] at H; have c14b0 : decide (0 ≤ x4_2) = true := decide_eq_true c14; clear c14
        by_cases c15 : x4_2 < (x0_1.length : Int)
        ·rw [if_pos c15] at H; have c15b0 : decide (x4_2 < (x0_1.length : Int)) = true := decide_eq_true c15; clear c15
         by_cases c16 : x3_1.length < 1172812402961
         ·rw [if_pos c16] at H; have LMc16 := Qaa.mk c16; clear c16
          obtain ⟨y105, hy105⟩ : ∃ y_ : List (S35), y_ = (x3_1 ++ [(⟨(⟨(Qae x0_1 x4_2).f0.f0, (Qae x0_1 x4_2).f0.f1⟩ : S31), (Qae x0_1 x4_2).f1, (Qae x0_1 x4_2).f2, (Qae x0_1 x4_2).f3, (⟨(Qae x0_1 x4_2).f4.f0, (Qae x0_1 x4_2).f4.f1⟩ : S33), (⟨(Qae x0_1 x4_2).f5.f0, (Qae x0_1 x4_2).f5.f1⟩ : S33)⟩ : S35)]) := ⟨_, rfl⟩
          replace H : (if x4_2 ≤ (x0_1.length : Int) then ((some (x0_1.take (x4_2 : Int).toNat : List (S35))).bind fun y108 => (if ([] : List (S35)).length + y108.length < 1172812402961 then ((some (([] : List (S35)) ++ y108 : List (S35))).bind fun y113 => (if 0 ≤ (wrap64 (x4_2 + 1)) then (if (wrap64 (x4_2 + 1)) ≤ (x0_1.length : Int) then ((some (x0_1.drop ((wrap64 (x4_2 + 1)) : Int).toNat : List (S35))).bind fun y116 => (if y113.length + y116.length < 1172812402961 then (Qag.l0 k2 (y113 ++ y116) y105) else (none))) else (none)) else (none))) else (none))) else (none)) = some r := by first | (rw [hy105]; with_reducible exact H) | (have H2_ := (Option.bind_some _ _).symm.trans H; rw [hy105]; with_reducible exact H2_) | (have H2_ := (Option.bind_some _ _).symm.trans H; with_reducible exact H2_) | with_reducible exact H | (rw [hy105]; exact H) | exact H
          have Ny105 := Qaa.mk hy105; clear hy105; have c17b0 := eq_true (dd_ : 0 ≤ x4_2)
          by_cases c18 : x4_2 ≤ (x0_1.length : Int)
          ·rw [if_pos c18] at H; have c18b0 := eq_true c18; have c18b1 : decide (x4_2 ≤ (x0_1.length : Int)) = true := decide_eq_true c18; clear c18
           obtain ⟨y108, hy108⟩ : ∃ y_ : List (S35), y_ = (x0_1.take (x4_2 : Int).toNat) := ⟨_, rfl⟩
           replace H : (if ([] : List (S35)).length + y108.length < 1172812402961 then ((some (([] : List (S35)) ++ y108 : List (S35))).bind fun y113 => (if 0 ≤ (wrap64 (x4_2 + 1)) then (if (wrap64 (x4_2 + 1)) ≤ (x0_1.length : Int) then ((some (x0_1.drop ((wrap64 (x4_2 + 1)) : Int).toNat : List (S35))).bind fun y116 => (if y113.length + y116.length < 1172812402961 then (Qag.l0 k2 (y113 ++ y116) y105) else (none))) else (none)) else (none))) else (none)) = some r := by first | (rw [hy108]; with_reducible exact H) | (have H2_ := (Option.bind_some _ _).symm.trans H; rw [hy108]; with_reducible exact H2_) | (have H2_ := (Option.bind_some _ _).symm.trans H; with_reducible exact H2_) | with_reducible exact H | (rw [hy108]; exact H) | exact H
           have Ny108 := Qaa.mk hy108; clear hy108
           by_cases c19 : ([] : List (S35)).length + y108.length < 1172812402961
           ·rw [if_pos c19] at H; have LMc19 := Qaa.mk c19; clear c19
            obtain ⟨y113, hy113⟩ : ∃ y_ : List (S35), y_ = (([] : List (S35)) ++ y108) := ⟨_, rfl⟩
            replace H : (if 0 ≤ (wrap64 (x4_2 + 1)) then (if (wrap64 (x4_2 + 1)) ≤ (x0_1.length : Int) then ((some (x0_1.drop ((wrap64 (x4_2 + 1)) : Int).toNat : List (S35))).bind fun y116 => (if y113.length + y116.length < 1172812402961 then (Qag.l0 k2 (y113 ++ y116) y105) else (none))) else (none)) else (none)) = some r := by first | (rw [hy113]; with_reducible exact H) | (have H2_ := (Option.bind_some _ _).symm.trans H; rw [hy113]; with_reducible exact H2_) | (have H2_ := (Option.bind_some _ _).symm.trans H; with_reducible exact H2_) | with_reducible exact H | (rw [hy113]; exact H) | exact H
            have Ny113 := Qaa.mk hy113; clear hy113
            obtain ⟨ji20, hji20⟩ : ∃ j_ : Int, (wrap64 (x4_2 + 1)) = j_ := ⟨_, rfl⟩
            replace H : (if 0 ≤ (ji20) then (if (ji20) ≤ (x0_1.length : Int) then ((some (x0_1.drop ((ji20) : Int).toNat : List (S35))).bind fun y116 => (if y113.length + y116.length < 1172812402961 then (Qag.l0 k2 (y113 ++ y116) y105) else (none))) else (none)) else (none)) = some r := by first | (rw [hji20] at H; exact H) | (simp only [hji20] at H ⊢; exact H)
            have hji20w : (IntKind.i64.wrap (x4_2 + 1)) = ji20 := (Qbe _).trans hji20
            by_cases c21 : 0 ≤ (ji20)
            ·rw [if_pos c21] at H; have c21b0 := eq_true c21; have c21b1 : decide (0 ≤ (ji20)) = true := decide_eq_true c21; clear c21
             by_cases c22 : (ji20) ≤ (x0_1.length : Int)
             ·rw [if_pos c22] at H; have c22b0 := eq_true c22; have c22b1 : decide ((ji20) ≤ (x0_1.length : Int)) = true := decide_eq_true c22; clear c22
              obtain ⟨y116, hy116⟩ : ∃ y_ : List (S35), y_ = (x0_1.drop ((ji20) : Int).toNat) := ⟨_, rfl⟩
              replace H : (if y113.length + y116.length < 1172812402961 then (Qag.l0 k2 (y113 ++ y116) y105) else (none)) = some r := by first | (rw [hy116]; with_reducible exact H) | (have H2_ := (Option.bind_some _ _).symm.trans H; rw [hy116]; with_reducible exact H2_) | (have H2_ := (Option.bind_some _ _).symm.trans H; with_reducible exact H2_) | with_reducible exact H | (rw [hy116]; exact H) | exact H
              have Ny116 := Qaa.mk hy116; clear hy116
              by_cases c23 : y113.length + y116.length < 1172812402961
              ·rw [if_pos c23] at H; have LMc23 := Qaa.mk c23; clear c23
               obtain ⟨y121, hy121⟩ : ∃ y_ : List (S35), y_ = (y113 ++ y116) := ⟨_, rfl⟩
               replace H : (Qag.l0 k2 y121 y105) = some r := by first | (rw [hy121]; with_reducible exact H) | (have H2_ := (Option.bind_some _ _).symm.trans H; rw [hy121]; with_reducible exact H2_) | (have H2_ := (Option.bind_some _ _).symm.trans H; with_reducible exact H2_) | with_reducible exact H | (rw [hy121]; exact H) | exact H
               have Ny121 := Qaa.mk hy121; clear hy121; have H' := Qaa.mk H; clear H; have p104 : 0 ≤ (x4_2 : Int) := dd_; have q104 : x4_2 < (x0_1.length : Int) := dd_; obtain ⟨ad104, e104, hx104_0, hx104_1, hx104_2, hx104_3, hx104_4, hx104_5, hx104_6, hx104_7, hx104_8⟩ := at_T35 (Kd.V_reads' HO_0.out).2.2 x4_2 p104 q104; cases e104; replace p104 := eq_true p104; replace q104 := eq_true q104
               go_wp2_with (first | ((with_reducible refine QaY (b := .append) (xs := #[.tmp 28, .tmp 33]) rfl ?_); at_builtin; refine Kd.QbG k35 (w0 := w) w.heap.size rfl (.tmp 28) (.tmp 33) 29 35 (.agg #[(.int .i64 0), (.int .i64 0), (.string ⟨#[]⟩), (.int .i64 0), (.string ⟨#[]⟩), (.string ⟨#[]⟩), (.string ⟨#[]⟩), (.string ⟨#[]⟩), (.string ⟨#[]⟩)]) 120 rfl Tryz.underlying29 info35 rfl (by decide) (by omega) u3 x3_1 (⟨(⟨(Qae x0_1 x4_2).f0.f0, (Qae x0_1 x4_2).f0.f1⟩ : S31), (Qae x0_1 x4_2).f1, (Qae x0_1 x4_2).f2, (Qae x0_1 x4_2).f3, (⟨(Qae x0_1 x4_2).f4.f0, (Qae x0_1 x4_2).f4.f1⟩ : S33), (⟨(Qae x0_1 x4_2).f5.f0, (Qae x0_1 x4_2).f5.f1⟩ : S33)⟩ : S35) [.int .i64 ((Qae x0_1 x4_2).f0.f0), .int .i64 ((Qae x0_1 x4_2).f0.f1), .string ((Qae x0_1 x4_2).f1), .int .i64 ((Qae x0_1 x4_2).f2), .string ((Qae x0_1 x4_2).f3), .string ((Qae x0_1 x4_2).f4.f0), .string ((Qae x0_1 x4_2).f4.f1), .string ((Qae x0_1 x4_2).f5.f0), .string ((Qae x0_1 x4_2).f5.f1)] (fun k_ => (w.heap.size ≤ k_)) (fun _ => False) rfl rfl ?aP (fun _ hk => hk.elim) ?aF ?aO ?aB ?aS ?aL ?_; (case aP => exact k35_mkM _ _ _ (⟨(⟨(Qae x0_1 x4_2).f0.f0, (Qae x0_1 x4_2).f0.f1⟩ : S31), (Qae x0_1 x4_2).f1, (Qae x0_1 x4_2).f2, (Qae x0_1 x4_2).f3, (⟨(Qae x0_1 x4_2).f4.f0, (Qae x0_1 x4_2).f4.f1⟩ : S33), (⟨(Qae x0_1 x4_2).f5.f0, (Qae x0_1 x4_2).f5.f1⟩ : S33)⟩ : S35)); (case aB => exact bw_); (case aF => exact (fun k_ hk => (Nat.le_trans (QaI bw_) hk))); (case aO => exact (ro_ HO_3)); (case aS => exact (QaI bw_)); (case aL => have := LMc16.out; omega); intro v106 w24 ho hb hg hat; rw [← Ny105.out] at ho; have n0_ := Qaa.mk (Kd.V_afterv (ok := (fun k_ => (P0_ k_ ∨ w.heap.size ≤ k_))) (by (with_reducible repeat (first | apply Kd.V_alloc | apply Kd.V_drewN | apply Kd.V_drew)); exact HO_0.out) hg hat); have n1_ := Qaa.mk (hb); have n2_ := Qaa.mk (ho); clear HO_0; clear HB; clear HO_3; have HO_0 := n0_; have HB := n1_; have HO107 := n2_; clear n0_ n1_ n2_; clear ho hb hg hat; have q25 : (x4_2 : Int) ≤ ((x0_1.length : Int) : Int) := dd_; obtain ⟨i025, hi025, _, hsz25, _⟩ := info_parts info35; have hroom25 : x0_1.length ≤ co3 := (Kd.V_reads' HO_0.out).2.1; have hC25 : Kd.F k35 _ _ (some ad104) x0_1.length x0_1 := (Kd.V_at (base := w.heap.size) HO_0.out).2.2; have hcut25 := cut_to (P := Tryz.prog) 29 35 .i64 Tryz.underlying29 hi025 (some ad104) x0_1.length co3 x4_2 (dd_) q25 hroom25; have hr25 := Kd.F_take (m := (x4_2 : Int).toNat) hC25 (by omega); have hy25 : y108.length = (x4_2 : Int).toNat := (by rw [Ny108.out, List.length_take]; omega); rw [← Ny108.out] at hr25; rw [← hy25] at hcut25; have HO112 := Qaa.mk (show Kd.V k35 35 _ w.heap.size _ (.slice (some ad104) y108.length co3) y108 from Kd.V_mk (by omega) hr25); have HC112 := Qaa.mk (show y108.length ≤ co3 from by omega); clear hr25 hC25 hroom25 hi025 hsz25; have KY25 := Qaa.mk hy25; clear hy25; replace q25 := eq_true q25) | ((with_reducible refine QaY (b := .append) (xs := #[.tmp 35, .tmp 38]) rfl ?_); at_builtin; refine Kd.QbN k35 (w0 := w) w.heap.size rfl (.tmp 35) (.tmp 38) 29 35 (.agg #[(.int .i64 0), (.int .i64 0), (.string ⟨#[]⟩), (.int .i64 0), (.string ⟨#[]⟩), (.string ⟨#[]⟩), (.string ⟨#[]⟩), (.string ⟨#[]⟩), (.string ⟨#[]⟩)]) 120 rfl Tryz.underlying29 info35 rfl (by decide) (by omega) (.slice none 0 0) ([] : List (S35)) y108 _ _ _ (fun k_ => (w.heap.size ≤ k_) ∧ some k_ ≠ (v106 : Value).ownBlock) (fun _ => False) rfl rfl ?aO ?aR (fun _ _ h => h) (fun _ h => h.elim) ?aF ?aB ?aS ?aL ?_; (case aR => exact kd_ ((Kd.V_reads' HO112.out).2.2)); (case aB => exact bw_); (case aF => exact (fun k_ hk => ⟨(Nat.le_trans (QaI bw_) hk), Kd.fresh' (Kd.R_lt (ro_ HO107)) k_ hk⟩)); (case aO => exact ((Kd.R_nil _ _ _ _ (fun k_ => (w.heap.size ≤ k_) ∧ some k_ ≠ (v106 : Value).ownBlock)))); (case aS => exact (QaI bw_)); (case aL => have := LMc19.out; omega); intro v114 w26 ho hb hg hat; rw [← Ny113.out] at ho; have HO115 := Qaa.mk (ho); replace HO_0 := Qaa.mk (Kd.V_afterv (Kd.V_apart_nil (by (with_reducible repeat (first | apply Kd.V_alloc | apply Kd.V_drewN | apply Kd.V_drew)); exact HO_0.out)) hg hat); replace HO107 := Qaa.mk (Kd.R_after (Kd.R_apart_nil (ro_ HO107)) hg hat); replace HO112 := Qaa.mk (Kd.V_afterv (Kd.V_apart_nil (by (with_reducible repeat (first | apply Kd.V_alloc | apply Kd.V_drewN | apply Kd.V_drew)); exact HO112.out)) hg hat); replace HB := Qaa.mk (hb); clear ho hb hg hat; have q27 : ((ji20) : Int) ≤ ((x0_1.length : Int) : Int) := dd_; obtain ⟨i027, hi027, _, hsz27, _⟩ := info_parts info35; have hroom27 : x0_1.length ≤ co3 := (Kd.V_reads' HO_0.out).2.1; have hC27 : Kd.F k35 _ _ (some ad104) x0_1.length x0_1 := (Kd.V_at (base := w.heap.size) HO_0.out).2.2; have q027 : (0 : Int) ≤ ((ji20) : Int) := dd_; have hcut27 := cut_from (P := Tryz.prog) 29 35 .i64 Tryz.underlying29 hi027 9 hsz27 (some ad104) x0_1.length co3 (ji20) q027 q27; have hr27 := Kd.F_cut (m := ((ji20) : Int).toNat) (c := co3) hC27 (by omega) hroom27; obtain ⟨A27, hA27⟩ : ∃ A1, A1 = (if co3 = ((ji20) : Int).toNat then (some ad104) else ((some ad104) : Option Addr).map (·.add (((ji20) : Int).toNat * 9))) := ⟨_, rfl⟩; obtain ⟨c27, hc27⟩ : ∃ c1, c1 = co3 - ((ji20) : Int).toNat := ⟨_, rfl⟩; have hy27 : y116.length = x0_1.length - ((ji20) : Int).toNat := (by rw [Ny116.out, List.length_drop] <;> omega); rw [show (x0_1).drop ((ji20) : Int).toNat = y116 from Ny116.out.symm] at hr27; replace hr27 : Kd.F k35 _ _ A27 y116.length y116 := (by rw [hA27]; exact hr27); rw [← hy27, ← hA27, ← hc27] at hcut27; have HO120 := Qaa.mk (show Kd.V k35 35 _ w.heap.size _ (.slice A27 y116.length c27) y116 from Kd.V_mk (by rw [hy27, hc27]; exact Nat.sub_le_sub_right hroom27 _) hr27); have HC120 := Qaa.mk (show y116.length ≤ c27 from by rw [hy27, hc27]; exact Nat.sub_le_sub_right hroom27 _); clear hr27 hC27 hroom27 hi027 hsz27 hc27; have KY27 := Qaa.mk hy27; have KA27 := Qaa.mk hA27; clear hy27 hA27; replace q27 := eq_true q27) | ((with_reducible refine QaY (b := .append) (xs := #[.tmp 40, .tmp 44]) rfl ?_); at_builtin; refine Kd.QbN k35 (w0 := w) w.heap.size rfl (.tmp 40) (.tmp 44) 29 35 (.agg #[(.int .i64 0), (.int .i64 0), (.string ⟨#[]⟩), (.int .i64 0), (.string ⟨#[]⟩), (.string ⟨#[]⟩), (.string ⟨#[]⟩), (.string ⟨#[]⟩), (.string ⟨#[]⟩)]) 120 rfl Tryz.underlying29 info35 rfl (by decide) (by omega) v114 y113 y116 _ _ _ (fun k_ => (w.heap.size ≤ k_) ∧ some k_ ≠ (v106 : Value).ownBlock) (fun _ => False) rfl rfl ?aO ?aR (fun _ _ h => h) (fun _ h => h.elim) ?aF ?aB ?aS ?aL ?_; (case aR => exact kd_ ((Kd.V_reads' HO120.out).2.2)); (case aB => exact bw_); (case aF => exact (fun k_ hk => ⟨(Nat.le_trans (QaI bw_) hk), Kd.fresh' (Kd.R_lt (ro_ HO107)) k_ hk⟩)); (case aO => exact (ro_ HO115)); (case aS => exact (QaI bw_)); (case aL => have := LMc23.out; omega); intro v122 w28 ho hb hg hat; rw [← Ny121.out] at ho; have n0_ := Qaa.mk (Kd.V_afterv (ok := (fun k_ => (P0_ k_ ∨ w.heap.size ≤ k_) ∧ some k_ ≠ (v106 : Value).ownBlock)) (by (with_reducible repeat (first | apply Kd.V_alloc | apply Kd.V_drewN | apply Kd.V_drew)); exact HO_0.out) hg hat); have n1_ := Qaa.mk (Kd.R_after (ok := (fun k_ => (w.heap.size ≤ k_))) (ro_ HO107) hg hat); have n2_ := Qaa.mk (Kd.V_afterv (ok := (fun k_ => (P0_ k_ ∨ w.heap.size ≤ k_) ∧ some k_ ≠ (v106 : Value).ownBlock)) (by (with_reducible repeat (first | apply Kd.V_alloc | apply Kd.V_drewN | apply Kd.V_drew)); exact HO112.out) hg hat); have n3_ := Qaa.mk (Kd.V_afterv (ok := (fun k_ => (P0_ k_ ∨ w.heap.size ≤ k_) ∧ some k_ ≠ (v106 : Value).ownBlock)) (by (with_reducible repeat (first | apply Kd.V_alloc | apply Kd.V_drewN | apply Kd.V_drew)); exact HO120.out) hg hat); have n4_ := Qaa.mk (hb); have n5_ := Qaa.mk (ho); clear HO_0; clear HO107; clear HO112; clear HO120; clear HB; clear HO115; have HO_0 := n0_; have HO107 := n1_; have HO112 := n2_; have HO120 := n3_; have HB := n4_; have HO123 := n5_; clear n0_ n1_ n2_ n3_ n4_ n5_; clear ho hb hg hat))
               go_roundg k2
               case measure => have := HK1.out; have := HK2.out; omega
               case rel => exact ⟨(y121), (y105), H', ⟨by have := HK1.out; have := HK2.out; omega⟩, ⟨Kd.V_mono (Kd.R_V (ro_ HO123)) (fun k_ hk => by first | exact ⟨(.inr (hk.1)), hk.2⟩ | exact (.inr (hk)))⟩, ⟨by (with_reducible repeat (first | apply Kd.QaN | apply Kd.QaQ | apply Kd.QaO)); exact Kd.Qbf HO107.out (fun _ hk => hk.1)⟩, ⟨bw_⟩⟩
              ·rw [if_neg c23] at H; exact absurd H (by simp)
             ·rw [if_neg c22] at H; exact absurd H (by simp)
            ·rw [if_neg c21] at H; exact absurd H (by simp)
           ·rw [if_neg c19] at H; exact absurd H (by simp)
          ·rw [if_neg c18] at H; exact absurd H (by simp)
         ·rw [if_neg c16] at H; exact absurd H (by simp)
        ·rw [if_neg c15] at H; exact absurd H (by simp)
       ·rw [if_neg c14] at H; exact absurd H (by simp)
   ·rw [if_neg c2] at H; have c2b0 : decide (0 < (x0_1.length : Int)) = false := decide_eq_false c2; have c2b1 : decide (0 < x0_1.length) = false := decide_eq_false (by omega); clear c2; obtain rfl := Option.some.inj H; obtain ⟨Ao29, co29, eo29⟩ := Kd.V_slice HO_0.out; subst eo29; go_wp2; go_ret; exact ⟨_, by first | rfl | (simp [Qap, Qao] <;> rfl) | (simp [*, Qap, Qao] <;> rfl), by (with_reducible repeat (first | apply Kd.QaN | apply Kd.QaQ | apply Kd.QaO)); exact HO_3.out, bw_⟩
end
section
attribute [local go_sem] QaE QaC QaS QaR Qaw Qav QaD QaB
attribute [local go_sem high] eqA31
mutual
def Qal.l0 : Nat → List (S35) → List (S35) → Int → Option ((List (S35)))
 | 0, _, _, _ => none
 | k + 1, x0, x3, x4 => if x4 < (x0.length : Int) then (if 0 ≤ x4 then ((Qaq.f k ((Qae x0 x4).f0.f0) ((Qae x0 x4).f0.f1) ((Qae x0 x4).f1) ((Qae x0 x4).f2) ((Qae x0 x4).f3) ((Qae x0 x4).f4.f0) ((Qae x0 x4).f4.f1) ((Qae x0 x4).f5.f0) ((Qae x0 x4).f5.f1)).bind fun t105 => (Qal.l1 k x0 x3 x4 t105 false 0)) else (none)) else ((Qag.f k x3).bind fun t101 => (some t101))
def Qal.l1 : Nat → List (S35) → List (S35) → Int → Bool → Bool → Int → Option ((List (S35)))
 | 0, _, _, _, _, _, _ => none
 | k + 1, x0, x3, x4, x5, x6, x7 => if x7 < (x3.length : Int) then (if x6 = true then (Qal.l1 k x0 x3 x4 x5 true (wrap64 (x7 + 1))) else (if 0 ≤ x7 then (if 0 ≤ x4 then (if x4 < (x0.length : Int) then (Qal.l1 k x0 x3 x4 x5 (((Qae x3 x7).f0.f0) == ((Qae x0 x4).f0.f0) && (((Qae x3 x7).f0.f1) == ((Qae x0 x4).f0.f1))) (wrap64 (x7 + 1))) else (none)) else (none)) else (none))) else (if x5 = true then (if x6 = true then (Qal.l0 k x0 x3 (wrap64 (x4 + 1))) else (if 0 ≤ x4 then (if x4 < (x0.length : Int) then (if x3.length < 1172812402961 then (Qal.l0 k x0 (x3 ++ [(⟨(⟨(Qae x0 x4).f0.f0, (Qae x0 x4).f0.f1⟩ : S31), (Qae x0 x4).f1, (Qae x0 x4).f2, (Qae x0 x4).f3, (⟨(Qae x0 x4).f4.f0, (Qae x0 x4).f4.f1⟩ : S33), (⟨(Qae x0 x4).f5.f0, (Qae x0 x4).f5.f1⟩ : S33)⟩ : S35)]) (wrap64 (x4 + 1))) else (none)) else (none)) else (none))) else (Qal.l0 k x0 x3 (wrap64 (x4 + 1))))
end
def Qal.f (k : Nat) (l0 : List (S35)) : Option ((List (S35))) := Qal.l0 k l0 ([] : List (S35)) 0
set_option maxHeartbeats 8000000 in
set_option maxRecDepth 100000 in
theorem Qal.calls (k : Nat) (A0 : Option Addr) (c0 : Nat) (l0 : List (S35)) (r : List (S35)) (w : World) (hr0 : Kd.C k35 w A0 l0.length l0) (hc0 : l0.length ≤ c0) (h : Qal.f k l0 = some r) :
  Calls Tryz.prog 30 #[.slice A0 l0.length c0] w fun e w' => ∃ v0_ : Value, e = .returned (v0_) ∧ Kd.R k35 35 w' w.heap.size (fun _ => True) v0_ r ∧ Below w.heap.size w w' := by
 have hu35 := Tryz.underlying35; have hu31 := Tryz.underlying31; have HR0 := Qaa.mk hr0; have HC0 := Qaa.mk hc0; clear hr0 hc0; have HB := Qaa.mk (Below.refl w.heap.size w); have H : (Qal.l0 k l0 ([] : List (S35)) 0) = some r := h; clear h; have H' := Qaa.mk H; clear H; go_enter Tryz.func30, Tryz.ntmps30; go_wp2
 repeat (go_quiet (fail); try go_wp2)
 go_loopg [3, 4] k (fun kq v3 v4 w' => ∃ (x3_1 : List (S35)) (x4_1 : Int), v4 = .int .i64 x4_1 ∧ Qaa (Qal.l0 kq l0 x3_1 x4_1 = some r) ∧ Qaa (kq ≤ k) ∧ Qaa (Kd.R k35 35 w' w.heap.size (fun _ => True) v3 x3_1) ∧ Qaa (Below w.heap.size w w'))
 case atStart => exact ⟨(([] : List (S35))), (0), (by first | rfl | (simp; done) | (simp [*]; done)), H', ⟨Nat.le_refl _⟩, ⟨by first | exact Kd.R_nil _ _ _ _ _ | exact Kd.N_nil _ _ _ _ _ | exact Kd.V_nil _ _ _ _ _ | exact Kd.Q_nil _ _ _ _ _ | exact Kd.S_nil _ _ _ _ _⟩, ⟨bw_⟩⟩
 case round =>
  clear H'; obtain ⟨x3_1, x4_1, rfl, HA, HK1, HO_3, HB⟩ := hrel
  cases gk with
  | zero => exact absurd HA.out (by simp [Qal.l0])
  | succ k1 =>
   have H := HA.out; clear HA; simp only [Qal.l0] at H
   by_cases c2 : x4_1 < (l0.length : Int)
   ·rw [if_pos c2] at H; have c2b0 : decide (x4_1 < (l0.length : Int)) = true := decide_eq_true c2; clear c2
    by_cases c3 : 0 ≤ x4_1
    ·rw [if_pos c3] at H; have c3b0 : decide (0 ≤ x4_1) = true := decide_eq_true c3; clear c3; replace H := Option.bind_eq_some_iff.mp H; obtain ⟨t105, A40, H⟩ := H; replace H : (Qal.l1 k1 l0 x3_1 x4_1 t105 false 0) = some r := H; have A4 := Qaa.mk A40; clear A40; have H' := Qaa.mk H; clear H; have p104 : 0 ≤ (x4_1 : Int) := dd_; have q104 : x4_1 < (l0.length : Int) := dd_; obtain ⟨ad104, e104, hx104_0, hx104_1, hx104_2, hx104_3, hx104_4, hx104_5, hx104_6, hx104_7, hx104_8⟩ := at_T35 HR0.out x4_1 p104 q104; cases e104; replace hx104_0 := cb_ HB hx104_0; replace hx104_1 := cb_ HB hx104_1; replace hx104_2 := cb_ HB hx104_2; replace hx104_3 := cb_ HB hx104_3; replace hx104_4 := cb_ HB hx104_4; replace hx104_5 := cb_ HB hx104_5; replace hx104_6 := cb_ HB hx104_6; replace hx104_7 := cb_ HB hx104_7; replace hx104_8 := cb_ HB hx104_8; replace p104 := eq_true p104; replace q104 := eq_true q104
     go_wp2_with (first | (go_at_call 22; (with_reducible refine (Qaq.calls k1 ((Qae l0 x4_1).f0.f0) ((Qae l0 x4_1).f0.f1) ((Qae l0 x4_1).f1) ((Qae l0 x4_1).f2) ((Qae l0 x4_1).f3) ((Qae l0 x4_1).f4.f0) ((Qae l0 x4_1).f4.f1) ((Qae l0 x4_1).f5.f0) ((Qae l0 x4_1).f5.f1) t105 _ A4.out).mono ?_); rintro e w5 ⟨rfl, hb⟩; replace HO_3 := Qaa.mk (Kd.Qa3 (ro_ HO_3) hb); replace HB := Qaa.mk (Qac bw_ hb); (try clear hb); (try clear hb2); (try clear hk); (try clear hi)))
     repeat (go_quiet (first | (go_at_call 22; (with_reducible refine (Qaq.calls k1 ((Qae l0 x4_1).f0.f0) ((Qae l0 x4_1).f0.f1) ((Qae l0 x4_1).f1) ((Qae l0 x4_1).f2) ((Qae l0 x4_1).f3) ((Qae l0 x4_1).f4.f0) ((Qae l0 x4_1).f4.f1) ((Qae l0 x4_1).f5.f0) ((Qae l0 x4_1).f5.f1) t105 _ A4.out).mono ?_); rintro e w5 ⟨rfl, hb⟩; replace HO_3 := Qaa.mk (Kd.Qa3 (ro_ HO_3) hb); replace HB := Qaa.mk (Qac bw_ hb); (try clear hb); (try clear hb2); (try clear hk); (try clear hi))); try go_wp2_with (first | (go_at_call 22; (with_reducible refine (Qaq.calls k1 ((Qae l0 x4_1).f0.f0) ((Qae l0 x4_1).f0.f1) ((Qae l0 x4_1).f1) ((Qae l0 x4_1).f2) ((Qae l0 x4_1).f3) ((Qae l0 x4_1).f4.f0) ((Qae l0 x4_1).f4.f1) ((Qae l0 x4_1).f5.f0) ((Qae l0 x4_1).f5.f1) t105 _ A4.out).mono ?_); rintro e w5 ⟨rfl, hb⟩; replace HO_3 := Qaa.mk (Kd.Qa3 (ro_ HO_3) hb); replace HB := Qaa.mk (Qac bw_ hb); (try clear hb); (try clear hb2); (try clear hk); (try clear hi))))
     go_loopg [6, 7] k1 (fun kq v6 v7 w' => ∃ (x6_2 : Bool) (x7_2 : Int), v6 = .bool x6_2 ∧ v7 = .int .i64 x7_2 ∧ Qaa (Qal.l1 kq l0 x3_1 x4_1 t105 x6_2 x7_2 = some r) ∧ Qaa (kq ≤ k1) ∧ Qaa (Kd.R k35 35 w' w.heap.size (fun _ => True) u3 x3_1) ∧ Qaa (Below w.heap.size w w'))
     case atStart => exact ⟨(false), (0), (by first | rfl | (simp; done) | (simp [*]; done)), (by first | rfl | (simp; done) | (simp [*]; done)), H', ⟨Nat.le_refl _⟩, ⟨by (with_reducible repeat (first | apply Kd.QaN | apply Kd.QaQ | apply Kd.QaO)); exact HO_3.out⟩, ⟨bw_⟩⟩
     case round =>
      clear H'; (try clear p1); (try clear q1); (try clear hx1); (try clear c2); (try clear c2b0); (try clear p2); (try clear c3); (try clear c3b0); (try clear hx104_0); (try clear hx104_1); (try clear hx104_2); (try clear hx104_3); (try clear hx104_4); (try clear hx104_5); (try clear hx104_6); (try clear hx104_7); (try clear hx104_8); (try clear p104); (try clear q104); obtain ⟨x6_2, x7_2, rfl, rfl, HA, HK2, HO_3, HB⟩ := hrel
      cases gk with
      | zero => exact absurd HA.out (by simp [Qal.l1])
      | succ k2 =>
       have H := HA.out; clear HA; simp only [Qal.l1] at H
       by_cases c6 : x7_2 < (x3_1.length : Int)
       ·rw [if_pos c6] at H; have c6b0 : decide (x7_2 < (x3_1.length : Int)) = true := decide_eq_true c6; clear c6
        by_cases c7 : x6_2 = true
        ·subst c7
         have H1 : (Qal.l1 k2 l0 x3_1 x4_1 t105 true (wrap64 (x7_2 + 1))) = some r := by rw [if_pos rfl] at H; exact H
         clear H; have H := H1; clear H1; have H' := Qaa.mk H; clear H; obtain ⟨Ao8, co8, eo8⟩ := Kd.Qbd HO_3.out; subst eo8; go_wp2
         repeat (go_quiet (fail); try go_wp2)
         go_roundg k2
         case measure => have := HK1.out; have := HK2.out; omega
         case rel => exact ⟨(true), (wrap64 (x7_2 + 1)), (by first | rfl | (simp; done) | (simp [*]; done)), (by first | rfl | (simp; done) | (simp [*]; done)), H', ⟨by have := HK1.out; have := HK2.out; omega⟩, ⟨by (with_reducible repeat (first | apply Kd.QaN | apply Kd.QaQ | apply Kd.QaO)); exact HO_3.out⟩, ⟨bw_⟩⟩
        ·replace c7 := Bool.eq_false_iff.mpr c7; subst c7
         have H1 : (if 0 ≤ x7_2 then (if 0 ≤ x4_1 then (if x4_1 < (l0.length : Int) then (Qal.l1 k2 l0 x3_1 x4_1 t105 (((Qae x3_1 x7_2).f0.f0) == ((Qae l0 x4_1).f0.f0) && (((Qae x3_1 x7_2).f0.f1) == ((Qae l0 x4_1).f0.f1))) (wrap64 (x7_2 + 1))) else (none)) else (none)) else (none)) = some r := by rw [if_neg (show ¬ (false = true) by decide)] at H; exact H
         clear H; have H := H1; clear H1
         by_cases c9 : 0 ≤ x7_2
         ·rw [if_pos c9] at H; have c9b0 : decide (0 ≤ x7_2) = true := decide_eq_true c9; clear c9
          by_cases c10 : 0 ≤ x4_1
          ·rw [if_pos c10] at H; have c10b0 : decide (0 ≤ x4_1) = true := decide_eq_true c10; clear c10
           by_cases c11 : x4_1 < (l0.length : Int)
           ·rw [if_pos c11] at H; have c11b0 : decide (x4_1 < (l0.length : Int)) = true := decide_eq_true c11; clear c11; have H' := Qaa.mk H; clear H; obtain ⟨Ao12, co12, eo12⟩ := Kd.Qbd HO_3.out; subst eo12; have p106 : 0 ≤ (x7_2 : Int) := dd_; have q106 : x7_2 < (x3_1.length : Int) := dd_; obtain ⟨ad106, e106, hx106_0, hx106_1, hx106_2, hx106_3, hx106_4, hx106_5, hx106_6, hx106_7, hx106_8⟩ := at_T35 (Kd.QaW HO_3.out).2.2 x7_2 p106 q106; cases e106; replace p106 := eq_true p106; replace q106 := eq_true q106; have p107 : 0 ≤ (x4_1 : Int) := dd_; have q107 : x4_1 < (l0.length : Int) := dd_; obtain ⟨ad107, e107, hx107_0, hx107_1, hx107_2, hx107_3, hx107_4, hx107_5, hx107_6, hx107_7, hx107_8⟩ := at_T35 HR0.out x4_1 p107 q107
            obtain rfl : ad104 = ad107 := (by injection e107)
            replace hx107_0 := cb_ HB hx107_0; replace hx107_1 := cb_ HB hx107_1; replace hx107_2 := cb_ HB hx107_2; replace hx107_3 := cb_ HB hx107_3; replace hx107_4 := cb_ HB hx107_4; replace hx107_5 := cb_ HB hx107_5; replace hx107_6 := cb_ HB hx107_6; replace hx107_7 := cb_ HB hx107_7; replace hx107_8 := cb_ HB hx107_8; replace p107 := eq_true p107; replace q107 := eq_true q107; go_wp2
            repeat (go_quiet (fail); try go_wp2)
            go_roundg k2
            case measure => have := HK1.out; have := HK2.out; omega
            case rel => exact ⟨((((Qae x3_1 x7_2).f0.f0) == ((Qae l0 x4_1).f0.f0) && (((Qae x3_1 x7_2).f0.f1) == ((Qae l0 x4_1).f0.f1)))), (wrap64 (x7_2 + 1)), (by first | rfl | (simp; done) | (simp [*]; done)), (by first | rfl | (simp; done) | (simp [*]; done)), H', ⟨by have := HK1.out; have := HK2.out; omega⟩, ⟨by (with_reducible repeat (first | apply Kd.QaN | apply Kd.QaQ | apply Kd.QaO)); exact HO_3.out⟩, ⟨bw_⟩⟩
           ·rw [if_neg c11] at H; exact absurd H (by simp)
          ·rw [if_neg c10] at H; exact absurd H (by simp)
         ·rw [if_neg c9] at H; exact absurd H (by simp)
       ·rw [if_neg c6] at H; have c6b0 : decide (x7_2 < (x3_1.length : Int)) = false := decide_eq_false c6; clear c6
        by_cases c13 : t105 = true
        ·subst c13
         have H1 : (if x6_2 = true then (Qal.l0 k2 l0 x3_1 (wrap64 (x4_1 + 1))) else (if 0 ≤ x4_1 then (if x4_1 < (l0.length : Int) then (if x3_1.length < 1172812402961 then (Qal.l0 k2 l0 (x3_1 ++ [(⟨(⟨(Qae l0 x4_1).f0.f0, (Qae l0 x4_1).f0.f1⟩ : S31), (Qae l0 x4_1).f1, (Qae l0 x4_1).f2, (Qae l0 x4_1).f3, (⟨(Qae l0 x4_1).f4.f0, (Qae l0 x4_1).f4.f1⟩ : S33), (⟨(Qae l0 x4_1).f5.f0, (Qae l0 x4_1).f5.f1⟩ : S33)⟩ : S35)]) (wrap64 (x4_1 + 1))) else (none)) else (none)) else (none))) = some r := by rw [if_pos rfl] at H; exact H
         clear H; have H := H1; clear H1
         by_cases c14 : x6_2 = true
         ·subst c14
          have H1 : (Qal.l0 k2 l0 x3_1 (wrap64 (x4_1 + 1))) = some r := by rw [if_pos rfl] at H; exact H
          clear H; have H := H1; clear H1; have H' := Qaa.mk H; clear H; obtain ⟨Ao15, co15, eo15⟩ := Kd.Qbd HO_3.out; subst eo15; go_wp2
          repeat (go_quiet (fail); try go_wp2)
          go_roundg k2
          case measure => have := HK1.out; have := HK2.out; omega
          case rel => exact ⟨(x3_1), (wrap64 (x4_1 + 1)), (by first | rfl | (simp; done) | (simp [*]; done)), H', ⟨by have := HK1.out; have := HK2.out; omega⟩, ⟨by (with_reducible repeat (first | apply Kd.QaN | apply Kd.QaQ | apply Kd.QaO)); exact HO_3.out⟩, ⟨bw_⟩⟩
         ·replace c14 := Bool.eq_false_iff.mpr c14; subst c14
          have H1 : (if 0 ≤ x4_1 then (if x4_1 < (l0.length : Int) then (if x3_1.length < 1172812402961 then (Qal.l0 k2 l0 (x3_1 ++ [(⟨(⟨(Qae l0 x4_1).f0.f0, (Qae l0 x4_1).f0.f1⟩ : S31), (Qae l0 x4_1).f1, (Qae l0 x4_1).f2, (Qae l0 x4_1).f3, (⟨(Qae l0 x4_1).f4.f0, (Qae l0 x4_1).f4.f1⟩ : S33), (⟨(Qae l0 x4_1).f5.f0, (Qae l0 x4_1).f5.f1⟩ : S33)⟩ : S35)]) (wrap64 (x4_1 + 1))) else (none)) else (none)) else (none)) = some r := by rw [if_neg (show ¬ (false = true) by decide)] at H; exact H
          clear H; have H := H1; clear H1
          by_cases c16 : 0 ≤ x4_1
          ·rw [if_pos c16] at H; have c16b0 : decide (0 ≤ x4_1) = true := decide_eq_true c16; clear c16
           by_cases c17 : x4_1 < (l0.length : Int)
           ·rw [if_pos c17] at H; have c17b0 : decide (x4_1 < (l0.length : Int)) = true := decide_eq_true c17; clear c17
            by_cases c18 : x3_1.length < 1172812402961
            ·rw [if_pos c18] at H; have LMc18 := Qaa.mk c18; clear c18
             obtain ⟨y109, hy109⟩ : ∃ y_ : List (S35), y_ = (x3_1 ++ [(⟨(⟨(Qae l0 x4_1).f0.f0, (Qae l0 x4_1).f0.f1⟩ : S31), (Qae l0 x4_1).f1, (Qae l0 x4_1).f2, (Qae l0 x4_1).f3, (⟨(Qae l0 x4_1).f4.f0, (Qae l0 x4_1).f4.f1⟩ : S33), (⟨(Qae l0 x4_1).f5.f0, (Qae l0 x4_1).f5.f1⟩ : S33)⟩ : S35)]) := ⟨_, rfl⟩
             replace H : (Qal.l0 k2 l0 y109 (wrap64 (x4_1 + 1))) = some r := by first | (rw [hy109]; with_reducible exact H) | (have H2_ := (Option.bind_some _ _).symm.trans H; rw [hy109]; with_reducible exact H2_) | (have H2_ := (Option.bind_some _ _).symm.trans H; with_reducible exact H2_) | with_reducible exact H | (rw [hy109]; exact H) | exact H
             have Ny109 := Qaa.mk hy109; clear hy109; have H' := Qaa.mk H; clear H; obtain ⟨Ao19, co19, eo19⟩ := Kd.Qbd HO_3.out; subst eo19; have p108 : 0 ≤ (x4_1 : Int) := dd_; have q108 : x4_1 < (l0.length : Int) := dd_; obtain ⟨ad108, e108, hx108_0, hx108_1, hx108_2, hx108_3, hx108_4, hx108_5, hx108_6, hx108_7, hx108_8⟩ := at_T35 HR0.out x4_1 p108 q108
             obtain rfl : ad104 = ad108 := (by injection e108)
             replace hx108_0 := cb_ HB hx108_0; replace hx108_1 := cb_ HB hx108_1; replace hx108_2 := cb_ HB hx108_2; replace hx108_3 := cb_ HB hx108_3; replace hx108_4 := cb_ HB hx108_4; replace hx108_5 := cb_ HB hx108_5; replace hx108_6 := cb_ HB hx108_6; replace hx108_7 := cb_ HB hx108_7; replace hx108_8 := cb_ HB hx108_8; replace p108 := eq_true p108; replace q108 := eq_true q108
             go_wp2_with (first | ((with_reducible refine QaY (b := .append) (xs := #[.tmp 44, .tmp 49]) rfl ?_); at_builtin; refine Kd.QbG k35 (w0 := w) w.heap.size rfl (.tmp 44) (.tmp 49) 29 35 (.agg #[(.int .i64 0), (.int .i64 0), (.string ⟨#[]⟩), (.int .i64 0), (.string ⟨#[]⟩), (.string ⟨#[]⟩), (.string ⟨#[]⟩), (.string ⟨#[]⟩), (.string ⟨#[]⟩)]) 120 rfl Tryz.underlying29 info35 rfl (by decide) (by omega) (.slice Ao19 x3_1.length co19) x3_1 (⟨(⟨(Qae l0 x4_1).f0.f0, (Qae l0 x4_1).f0.f1⟩ : S31), (Qae l0 x4_1).f1, (Qae l0 x4_1).f2, (Qae l0 x4_1).f3, (⟨(Qae l0 x4_1).f4.f0, (Qae l0 x4_1).f4.f1⟩ : S33), (⟨(Qae l0 x4_1).f5.f0, (Qae l0 x4_1).f5.f1⟩ : S33)⟩ : S35) [.int .i64 ((Qae l0 x4_1).f0.f0), .int .i64 ((Qae l0 x4_1).f0.f1), .string ((Qae l0 x4_1).f1), .int .i64 ((Qae l0 x4_1).f2), .string ((Qae l0 x4_1).f3), .string ((Qae l0 x4_1).f4.f0), .string ((Qae l0 x4_1).f4.f1), .string ((Qae l0 x4_1).f5.f0), .string ((Qae l0 x4_1).f5.f1)] (fun _ => True) (fun _ => False) rfl rfl ?aP (fun _ hk => hk.elim) ?aF ?aO ?aB ?aS ?aL ?_; (case aP => exact k35_mkM _ _ _ (⟨(⟨(Qae l0 x4_1).f0.f0, (Qae l0 x4_1).f0.f1⟩ : S31), (Qae l0 x4_1).f1, (Qae l0 x4_1).f2, (Qae l0 x4_1).f3, (⟨(Qae l0 x4_1).f4.f0, (Qae l0 x4_1).f4.f1⟩ : S33), (⟨(Qae l0 x4_1).f5.f0, (Qae l0 x4_1).f5.f1⟩ : S33)⟩ : S35)); (case aB => exact bw_); (case aF => exact (fun _ _ => trivial)); (case aO => exact (ro_ HO_3)); (case aS => exact (QaI bw_)); (case aL => have := LMc18.out; omega); intro v110 w20 ho hb hg hat; rw [← Ny109.out] at ho; have n0_ := Qaa.mk (hb); have n1_ := Qaa.mk (ho); clear HB; clear HO_3; have HB := n0_; have HO111 := n1_; clear n0_ n1_; clear ho hb hg hat))
             repeat (go_quiet (first | ((with_reducible refine QaY (b := .append) (xs := #[.tmp 44, .tmp 49]) rfl ?_); at_builtin; refine Kd.QbG k35 (w0 := w) w.heap.size rfl (.tmp 44) (.tmp 49) 29 35 (.agg #[(.int .i64 0), (.int .i64 0), (.string ⟨#[]⟩), (.int .i64 0), (.string ⟨#[]⟩), (.string ⟨#[]⟩), (.string ⟨#[]⟩), (.string ⟨#[]⟩), (.string ⟨#[]⟩)]) 120 rfl Tryz.underlying29 info35 rfl (by decide) (by omega) (.slice Ao19 x3_1.length co19) x3_1 (⟨(⟨(Qae l0 x4_1).f0.f0, (Qae l0 x4_1).f0.f1⟩ : S31), (Qae l0 x4_1).f1, (Qae l0 x4_1).f2, (Qae l0 x4_1).f3, (⟨(Qae l0 x4_1).f4.f0, (Qae l0 x4_1).f4.f1⟩ : S33), (⟨(Qae l0 x4_1).f5.f0, (Qae l0 x4_1).f5.f1⟩ : S33)⟩ : S35) [.int .i64 ((Qae l0 x4_1).f0.f0), .int .i64 ((Qae l0 x4_1).f0.f1), .string ((Qae l0 x4_1).f1), .int .i64 ((Qae l0 x4_1).f2), .string ((Qae l0 x4_1).f3), .string ((Qae l0 x4_1).f4.f0), .string ((Qae l0 x4_1).f4.f1), .string ((Qae l0 x4_1).f5.f0), .string ((Qae l0 x4_1).f5.f1)] (fun _ => True) (fun _ => False) rfl rfl ?aP (fun _ hk => hk.elim) ?aF ?aO ?aB ?aS ?aL ?_; (case aP => exact k35_mkM _ _ _ (⟨(⟨(Qae l0 x4_1).f0.f0, (Qae l0 x4_1).f0.f1⟩ : S31), (Qae l0 x4_1).f1, (Qae l0 x4_1).f2, (Qae l0 x4_1).f3, (⟨(Qae l0 x4_1).f4.f0, (Qae l0 x4_1).f4.f1⟩ : S33), (⟨(Qae l0 x4_1).f5.f0, (Qae l0 x4_1).f5.f1⟩ : S33)⟩ : S35)); (case aB => exact bw_); (case aF => exact (fun _ _ => trivial)); (case aO => exact (ro_ HO_3)); (case aS => exact (QaI bw_)); (case aL => have := LMc18.out; omega); intro v110 w20 ho hb hg hat; rw [← Ny109.out] at ho; have n0_ := Qaa.mk (hb); have n1_ := Qaa.mk (ho); clear HB; clear HO_3; have HB := n0_; have HO111 := n1_; clear n0_ n1_; clear ho hb hg hat)); try go_wp2_with (first | ((with_reducible refine QaY (b := .append) (xs := #[.tmp 44, .tmp 49]) rfl ?_); at_builtin; refine Kd.QbG k35 (w0 := w) w.heap.size rfl (.tmp 44) (.tmp 49) 29 35 (.agg #[(.int .i64 0), (.int .i64 0), (.string ⟨#[]⟩), (.int .i64 0), (.string ⟨#[]⟩), (.string ⟨#[]⟩), (.string ⟨#[]⟩), (.string ⟨#[]⟩), (.string ⟨#[]⟩)]) 120 rfl Tryz.underlying29 info35 rfl (by decide) (by omega) (.slice Ao19 x3_1.length co19) x3_1 (⟨(⟨(Qae l0 x4_1).f0.f0, (Qae l0 x4_1).f0.f1⟩ : S31), (Qae l0 x4_1).f1, (Qae l0 x4_1).f2, (Qae l0 x4_1).f3, (⟨(Qae l0 x4_1).f4.f0, (Qae l0 x4_1).f4.f1⟩ : S33), (⟨(Qae l0 x4_1).f5.f0, (Qae l0 x4_1).f5.f1⟩ : S33)⟩ : S35) [.int .i64 ((Qae l0 x4_1).f0.f0), .int .i64 ((Qae l0 x4_1).f0.f1), .string ((Qae l0 x4_1).f1), .int .i64 ((Qae l0 x4_1).f2), .string ((Qae l0 x4_1).f3), .string ((Qae l0 x4_1).f4.f0), .string ((Qae l0 x4_1).f4.f1), .string ((Qae l0 x4_1).f5.f0), .string ((Qae l0 x4_1).f5.f1)] (fun _ => True) (fun _ => False) rfl rfl ?aP (fun _ hk => hk.elim) ?aF ?aO ?aB ?aS ?aL ?_; (case aP => exact k35_mkM _ _ _ (⟨(⟨(Qae l0 x4_1).f0.f0, (Qae l0 x4_1).f0.f1⟩ : S31), (Qae l0 x4_1).f1, (Qae l0 x4_1).f2, (Qae l0 x4_1).f3, (⟨(Qae l0 x4_1).f4.f0, (Qae l0 x4_1).f4.f1⟩ : S33), (⟨(Qae l0 x4_1).f5.f0, (Qae l0 x4_1).f5.f1⟩ : S33)⟩ : S35)); (case aB => exact bw_); (case aF => exact (fun _ _ => trivial)); (case aO => exact (ro_ HO_3)); (case aS => exact (QaI bw_)); (case aL => have := LMc18.out; omega); intro v110 w20 ho hb hg hat; rw [← Ny109.out] at ho; have n0_ := Qaa.mk (hb); have n1_ := Qaa.mk (ho); clear HB; clear HO_3; have HB := n0_; have HO111 := n1_; clear n0_ n1_; clear ho hb hg hat)))
             go_roundg k2
             case measure => have := HK1.out; have := HK2.out; omega
             case rel => exact ⟨(y109), (wrap64 (x4_1 + 1)), (by first | rfl | (simp; done) | (simp [*]; done)), H', ⟨by have := HK1.out; have := HK2.out; omega⟩, ⟨by (with_reducible repeat (first | apply Kd.QaN | apply Kd.QaQ | apply Kd.QaO)); exact HO111.out⟩, ⟨bw_⟩⟩
            ·rw [if_neg c18] at H; exact absurd H (by simp)
           ·rw [if_neg c17] at H; exact absurd H (by simp)
          ·rw [if_neg c16] at H; exact absurd H (by simp)
        ·replace c13 := Bool.eq_false_iff.mpr c13; subst c13
         have H1 : (Qal.l0 k2 l0 x3_1 (wrap64 (x4_1 + 1))) = some r := by rw [if_neg (show ¬ (false = true) by decide)] at H; exact H
         clear H; have H := H1; clear H1; have H' := Qaa.mk H; clear H; obtain ⟨Ao21, co21, eo21⟩ := Kd.Qbd HO_3.out; subst eo21; go_wp2
         repeat (go_quiet (fail); try go_wp2)
         go_roundg k2
         case measure => have := HK1.out; have := HK2.out; omega
         case rel => exact ⟨(x3_1), (wrap64 (x4_1 + 1)), (by first | rfl | (simp; done) | (simp [*]; done)), H', ⟨by have := HK1.out; have := HK2.out; omega⟩, ⟨by (with_reducible repeat (first | apply Kd.QaN | apply Kd.QaQ | apply Kd.QaO)); exact HO_3.out⟩, ⟨bw_⟩⟩
    ·rw [if_neg c3] at H; exact absurd H (by simp)
   ·rw [if_neg c2] at H; have c2b0 : decide (x4_1 < (l0.length : Int)) = false := decide_eq_false c2; clear c2; replace H := Option.bind_eq_some_iff.mp H; obtain ⟨t101, A220, H⟩ := H; replace H : (some t101) = some r := H; have A22 := Qaa.mk A220; clear A220; obtain rfl := Option.some.inj H; obtain ⟨Ao23, co23, eo23⟩ := Kd.Qbd HO_3.out; subst eo23
    go_wp2_with (first | (go_at_call 47; (with_reducible refine (Qag.calls k1 (fun k_ => some k_ = (.slice Ao23 x3_1.length co23 : Value).ownBlock) _ _ x3_1 t101 _ ?side1 A22.out).mono ?_); (case side1 => exact Kd.R_V (Kd.R_tight rfl (HO_3.out))); rintro e w24 ⟨v102, rfl, ho0, hb⟩; have HO103 := Qaa.mk (Kd.QbW (Kd.R_new' (Kd.Qbf (ok' := fun k_ => True) ho0 (fun _ hk_ => trivial)) (Kd.R_lt (ro_ HO_3))) (QaI bw_)); replace HO_3 := Qaa.mk (Kd.R_elder' (ro_ HO_3) (Kd.R_base ho0) hb); replace HB := Qaa.mk (Qac bw_ hb); (try clear hb); (try clear hb2); (try clear hk); (try clear hi); (try clear ho0)))
    repeat (go_quiet (first | (go_at_call 47; (with_reducible refine (Qag.calls k1 (fun k_ => some k_ = (.slice Ao23 x3_1.length co23 : Value).ownBlock) _ _ x3_1 t101 _ ?side1 A22.out).mono ?_); (case side1 => exact Kd.R_V (Kd.R_tight rfl (HO_3.out))); rintro e w24 ⟨v102, rfl, ho0, hb⟩; have HO103 := Qaa.mk (Kd.QbW (Kd.R_new' (Kd.Qbf (ok' := fun k_ => True) ho0 (fun _ hk_ => trivial)) (Kd.R_lt (ro_ HO_3))) (QaI bw_)); replace HO_3 := Qaa.mk (Kd.R_elder' (ro_ HO_3) (Kd.R_base ho0) hb); replace HB := Qaa.mk (Qac bw_ hb); (try clear hb); (try clear hb2); (try clear hk); (try clear hi); (try clear ho0))); try go_wp2_with (first | (go_at_call 47; (with_reducible refine (Qag.calls k1 (fun k_ => some k_ = (.slice Ao23 x3_1.length co23 : Value).ownBlock) _ _ x3_1 t101 _ ?side1 A22.out).mono ?_); (case side1 => exact Kd.R_V (Kd.R_tight rfl (HO_3.out))); rintro e w24 ⟨v102, rfl, ho0, hb⟩; have HO103 := Qaa.mk (Kd.QbW (Kd.R_new' (Kd.Qbf (ok' := fun k_ => True) ho0 (fun _ hk_ => trivial)) (Kd.R_lt (ro_ HO_3))) (QaI bw_)); replace HO_3 := Qaa.mk (Kd.R_elder' (ro_ HO_3) (Kd.R_base ho0) hb); replace HB := Qaa.mk (Qac bw_ hb); (try clear hb); (try clear hb2); (try clear hk); (try clear hi); (try clear ho0))))
    go_ret; exact ⟨_, by first | rfl | (simp [Qap, Qao] <;> rfl) | (simp [*, Qap, Qao] <;> rfl), by (with_reducible repeat (first | apply Kd.QaN | apply Kd.QaQ | apply Kd.QaO)); exact Kd.Qbf HO103.out (fun _ hk => trivial), bw_⟩
end
section
attribute [local go_sem] QaE QaC QaS QaR Qaw Qav QaD QaB
def QaG.j0 : Nat → Int → Bool → Option (ByteArray)
 | 0, _, _ => none
 | k + 1, x0, x8 => if x8 = true then (some (⟨#[]⟩ : ByteArray)) else (if x0 < 10 then ((some (([(wrap64 (48 + x0)) % 256] : List Int) : List Int)).bind fun y101 => (if 1 + (strOfNums y101).size ≤ 9223372036854775807 then (some ((⟨#[100]⟩ : ByteArray) ++ (strOfNums y101))) else (none))) else ((some (([(wrap64 ((wrap64 (48 + x0)) - 10)) % 256] : List Int) : List Int)).bind fun y104 => (if 2 + (strOfNums y104).size ≤ 9223372036854775807 then (some ((⟨#[100, 49]⟩ : ByteArray) ++ (strOfNums y104))) else (none))))
def QaG.f (k : Nat) (a0 : Int) : Option (ByteArray) := if a0 < 1 then (QaG.j0 k a0 true) else (QaG.j0 k a0 (decide (a0 > 16)))
set_option maxHeartbeats 8000000 in
set_option maxRecDepth 100000 in
theorem QaG.calls (k : Nat) (a0 : Int) (r : ByteArray) (w : World) (h : QaG.f k a0 = some r) :
  Calls Tryz.prog 69 #[.int .i64 a0] w fun e w' => e = .returned (.string r) ∧ Below w.heap.size w w' := by
 have HB := Qaa.mk (Below.refl w.heap.size w); have H : (if a0 < 1 then (QaG.j0 k a0 true) else (QaG.j0 k a0 (decide (a0 > 16)))) = some r := h; clear h; have HC2 := Qaa.mk H; clear H; go_enter Tryz.func69, Tryz.ntmps69
 go_upto_region 1 with (fail)
 go_cut [8] (fun v8 wc => ∃ (kq : Nat) (x8_1 : Bool), v8 = .bool x8_1 ∧ Qaa (QaG.j0 kq a0 x8_1 = some r) ∧ Qaa (kq ≤ k) ∧ Qaa (Below w.heap.size w wc))
 case first =>
  have H := HC2.out; clear HC2
  by_cases c3 : a0 < 1
  ·rw [if_pos c3] at H; have c3b0 : decide (a0 < 1) = true := decide_eq_true c3; clear c3
   (first | rw [c3b0] | (simp only [Qbe, Qbh]; rw [c3b0]) | skip)
   have H' := Qaa.mk H; clear H; go_wp2
   go_meet
   case rel => exact ⟨_, (true), (by first | rfl | (simp; done) | (simp [*]; done)), H', ⟨by first | omega | exact Nat.le_refl _⟩, ⟨bw_⟩⟩
  ·rw [if_neg c3] at H; have c3b0 : decide (a0 < 1) = false := decide_eq_false c3; clear c3
   (first | rw [c3b0] | (simp only [Qbe, Qbh]; rw [c3b0]) | skip)
   have H' := Qaa.mk H; clear H; go_wp2
   go_meet
   case rel => exact ⟨_, (decide (a0 > 16)), (by first | rfl | (simp; done) | (simp [*]; done)), H', ⟨by first | omega | exact Nat.le_refl _⟩, ⟨bw_⟩⟩
 case rest =>
  clear HC2; (try clear p2); (try clear c3); (try clear c3b0); obtain ⟨kq, x8_1, rfl, HA, HJ1, HB⟩ := hcut
  cases kq with
  | zero => exact absurd HA.out (by simp [QaG.j0])
  | succ kj1 =>
   have H := HA.out; clear HA; simp only [QaG.j0] at H
   by_cases c4 : x8_1 = true
   ·subst c4
    have H1 : (some (⟨#[]⟩ : ByteArray)) = some r := by rw [if_pos rfl] at H; exact H
    clear H; have H := H1; clear H1; obtain rfl := Option.some.inj H; go_wp2; go_ret; exact ⟨by first | rfl | (simp [Qap, Qao] <;> rfl) | (simp [*, Qap, Qao] <;> rfl), bw_⟩
   ·replace c4 := Bool.eq_false_iff.mpr c4; subst c4
    have H1 : (if a0 < 10 then ((some (([(wrap64 (48 + a0)) % 256] : List Int) : List Int)).bind fun y101 => (if 1 + (strOfNums y101).size ≤ 9223372036854775807 then (some ((⟨#[100]⟩ : ByteArray) ++ (strOfNums y101))) else (none))) else ((some (([(wrap64 ((wrap64 (48 + a0)) - 10)) % 256] : List Int) : List Int)).bind fun y104 => (if 2 + (strOfNums y104).size ≤ 9223372036854775807 then (some ((⟨#[100, 49]⟩ : ByteArray) ++ (strOfNums y104))) else (none)))) = some r := by rw [if_neg (show ¬ (false = true) by decide)] at H; exact H
    clear H; have H := H1; clear H1
    by_cases c5 : a0 < 10
    ·rw [if_pos c5] at H; have c5b0 : decide (a0 < 10) = true := decide_eq_true c5; clear c5
     obtain ⟨y101, hy101⟩ : ∃ y_ : List Int, y_ = (([(wrap64 (48 + a0)) % 256] : List Int)) := ⟨_, rfl⟩
     replace H : (if 1 + (strOfNums y101).size ≤ 9223372036854775807 then (some ((⟨#[100]⟩ : ByteArray) ++ (strOfNums y101))) else (none)) = some r := by first | (rw [hy101]; with_reducible exact H) | (have H2_ := (Option.bind_some _ _).symm.trans H; rw [hy101]; with_reducible exact H2_) | (have H2_ := (Option.bind_some _ _).symm.trans H; with_reducible exact H2_) | with_reducible exact H | (rw [hy101]; exact H) | exact H
     have Ny101 := Qaa.mk hy101; clear hy101
     by_cases c6 : 1 + (strOfNums y101).size ≤ 9223372036854775807
     ·rw [if_pos c6] at H; have c6b0 := eq_true c6; have c6b1 : decide (1 + (strOfNums y101).size ≤ 9223372036854775807) = true := decide_eq_true c6
      try have c6b2 : (9223372036854775807 < 1 + (strOfNums y101).size) = False := eq_false (Nat.not_lt.2 c6)
      obtain rfl := Option.some.inj H
      go_wp2_with (first | ((with_reducible refine QaA (N := 14) rfl ?_); refine Kd.R_lit (Kd.int .u8) _ 5 ?hg (N := 14) ?hd (xs := ([(wrap64 (48 + a0)) % 256] : List Int)) (inner := [.int .u8 ((wrap64 (48 + a0)) % 256)]) (ok := fun _ => True) (okp := fun _ => True) ?hr ?hp (fun _ hk => hk) trivial (Below.refl _ _) (Nat.le_refl _) (by simp) ?_; (case hd => rfl); (case hg => rfl); (case hr => first | (go_simp; done) | (go_simp; rfl)); (case hp => exact (Reps.one (show Kd.M (Kd.int .u8) _ _ _ ((wrap64 (48 + a0)) % 256) [.int .u8 ((wrap64 (48 + a0)) % 256)] from rfl) (Reps.none _ _))); intro v102 w7 ho8 hb hg_ hnew_; clear hg_ hnew_; (first | rw [← Ny101.out] at ho8 | (simp only [Int.reduceToNat] at ho8; rw [← Ny101.out] at ho8)); have HO103 := Qaa.mk (Kd.QbW ho8 (QaI bw_)); replace HB := Qaa.mk (Qac bw_ hb); clear hb ho8; have hcv9 := own_string (P := Tryz.prog) Tryz.underlying39 Tryz.underlying5 Tryz.underlying9 (Kd.own_of_R HO103.out)))
      go_ret; exact ⟨by first | rfl | (simp [Qap, Qao] <;> rfl) | (simp [*, Qap, Qao] <;> rfl), bw_⟩
     ·rw [if_neg c6] at H; exact absurd H (by simp)
    ·rw [if_neg c5] at H; have c5b0 : decide (a0 < 10) = false := decide_eq_false c5; clear c5
     obtain ⟨y104, hy104⟩ : ∃ y_ : List Int, y_ = (([(wrap64 ((wrap64 (48 + a0)) - 10)) % 256] : List Int)) := ⟨_, rfl⟩
     replace H : (if 2 + (strOfNums y104).size ≤ 9223372036854775807 then (some ((⟨#[100, 49]⟩ : ByteArray) ++ (strOfNums y104))) else (none)) = some r := by first | (rw [hy104]; with_reducible exact H) | (have H2_ := (Option.bind_some _ _).symm.trans H; rw [hy104]; with_reducible exact H2_) | (have H2_ := (Option.bind_some _ _).symm.trans H; with_reducible exact H2_) | with_reducible exact H | (rw [hy104]; exact H) | exact H
     have Ny104 := Qaa.mk hy104; clear hy104
     by_cases c10 : 2 + (strOfNums y104).size ≤ 9223372036854775807
     ·rw [if_pos c10] at H; have c10b0 := eq_true c10; have c10b1 : decide (2 + (strOfNums y104).size ≤ 9223372036854775807) = true := decide_eq_true c10
      try have c10b2 : (9223372036854775807 < 2 + (strOfNums y104).size) = False := eq_false (Nat.not_lt.2 c10)
      obtain rfl := Option.some.inj H
      go_wp2_with (first | ((with_reducible refine QaA (N := 21) rfl ?_); refine Kd.R_lit (Kd.int .u8) _ 5 ?hg (N := 21) ?hd (xs := ([(wrap64 ((wrap64 (48 + a0)) - 10)) % 256] : List Int)) (inner := [.int .u8 ((wrap64 ((wrap64 (48 + a0)) - 10)) % 256)]) (ok := fun _ => True) (okp := fun _ => True) ?hr ?hp (fun _ hk => hk) trivial (Below.refl _ _) (Nat.le_refl _) (by simp) ?_; (case hd => rfl); (case hg => rfl); (case hr => first | (go_simp; done) | (go_simp; rfl)); (case hp => exact (Reps.one (show Kd.M (Kd.int .u8) _ _ _ ((wrap64 ((wrap64 (48 + a0)) - 10)) % 256) [.int .u8 ((wrap64 ((wrap64 (48 + a0)) - 10)) % 256)] from rfl) (Reps.none _ _))); intro v105 w11 ho12 hb hg_ hnew_; clear hg_ hnew_; (first | rw [← Ny104.out] at ho12 | (simp only [Int.reduceToNat] at ho12; rw [← Ny104.out] at ho12)); have HO106 := Qaa.mk (Kd.QbW ho12 (QaI bw_)); replace HB := Qaa.mk (Qac bw_ hb); clear hb ho12; have hcv13 := own_string (P := Tryz.prog) Tryz.underlying39 Tryz.underlying5 Tryz.underlying9 (Kd.own_of_R HO106.out)))
      go_ret; exact ⟨by first | rfl | (simp [Qap, Qao] <;> rfl) | (simp [*, Qap, Qao] <;> rfl), bw_⟩
     ·rw [if_neg c10] at H; exact absurd H (by simp)

def QaU.f (k : Nat) (a0_0 : Int) (a0_1 : Int) (a0_2 : ByteArray) (a0_3 : Int) (a0_4 : ByteArray) (a0_5 : ByteArray) (a0_6 : ByteArray) (a0_7 : ByteArray) (a0_8 : ByteArray) : Option (ByteArray × ByteArray) := (QaG.f k a0_0).bind fun t103 => (some (t103, a0_2))
def QaU.T1 : Bool × List (List Nat × List Nat) := (true, [([], []), ([0], [0]), ([1], [1]), ([2], [2]), ([], []), ([4], [4]), ([3, 5], [3, 5]), ([6, 3, 0, 1, 2, 3, 4, 5, 6], [6])])
def QaU.B1 : List Nat := [0, 1, 3, 7, 0, 16, 63, 127]
theorem QaU.tab1 : rtab .any (opsOf Tryz.f62 1) = QaU.T1 := by kernel_rfl
theorem QaU.bits1 : waitsOk QaU.T1.2 QaU.B1 = true := by kernel_rfl
set_option maxHeartbeats 8000000 in
set_option maxRecDepth 100000 in
theorem QaU.calls (k : Nat) (a0_0 : Int) (a0_1 : Int) (a0_2 : ByteArray) (a0_3 : Int) (a0_4 : ByteArray) (a0_5 : ByteArray) (a0_6 : ByteArray) (a0_7 : ByteArray) (a0_8 : ByteArray) (r1 : ByteArray) (r2 : ByteArray) (w : World) (h : QaU.f k a0_0 a0_1 a0_2 a0_3 a0_4 a0_5 a0_6 a0_7 a0_8 = some (r1, r2)) :
  Calls Tryz.prog 62 #[.agg #[.int .i64 a0_0, .int .i64 a0_1, .string a0_2, .int .i64 a0_3, .string a0_4, .string a0_5, .string a0_6, .string a0_7, .string a0_8]] w fun e w' => e = .returned (.agg #[.string r1, .string r2]) ∧ Below w.heap.size w w' := by
 have hu35 := Tryz.underlying35; have hu33 := Tryz.underlying33; have HB := Qaa.mk (Below.refl w.heap.size w); have H : ((QaG.f k a0_0).bind fun t103 => (some (t103, a0_2))) = some (r1, r2) := h; clear h; replace H := Option.bind_eq_some_iff.mp H; obtain ⟨t103, A20, H⟩ := H; replace H : (some (t103, a0_2)) = some (r1, r2) := H; have A2 := Qaa.mk A20; clear A20; simp only [Option.some.injEq, Prod.mk.injEq] at H; obtain ⟨rfl, rfl⟩ := H; go_enter Tryz.func62, Tryz.ntmps62
 try go_wp2_with (first | ((with_reducible refine QaA (N := 1) rfl ?_); refine Qax ?hg (N := 1) ?hd (cs := #[.int .i64 a0_0, .int .i64 a0_1, .string a0_2, .int .i64 a0_3, .string a0_4, .string a0_5, .string a0_6, .string a0_7, .string a0_8]) (t := 35) ?hr ?_; (case hd => rfl); (case hg => rfl); (case hr => first | (go_simp; done) | (go_simp; rfl)); intro gb101 hg w3 hbox hb; have BK101 := Qaa.mk (hbox); have GW101 := (gz_ hg : Qaa (w.heap.size ≤ gb101)); have GE101 := (gz_ hg : Qaa (w.heap.size ≤ gb101)); replace HB := Qaa.mk (Qac bw_ hb); clear hb hbox hg) | ((with_reducible refine QaA (N := 2) rfl ?_); refine Qax ?hg (N := 2) ?hd (cs := #[.string (⟨#[]⟩ : ByteArray), .string (⟨#[]⟩ : ByteArray)]) (t := 33) ?hr ?_; (case hd => rfl); (case hg => rfl); (case hr => first | (go_simp; done) | (go_simp; rfl)); intro gb102 hg w4 hbox hb; have BK102 := Qaa.mk (hbox); have GW102 := (gz_ hg : Qaa (w.heap.size ≤ gb102)); have GE102 := (gz_ hg : Qaa (w.heap.size ≤ gb102)); have NB101_102 := (nl_ hg : Qaa (gb101 ≠ gb102)); have NB102_101 := (ng_ hg : Qaa (gb102 ≠ gb101)); replace BK101 := Qaa.mk (Qad (g := gb101) bk_ hb); replace HB := Qaa.mk (Qac bw_ hb); clear hb hbox hg))
 replace BK101 := Qaa.mk (Qan BK101.out); replace BK102 := Qaa.mk (Qan BK102.out); replace HB := Qaa.mk (Qau HB.out); refine Qbo (n := 8) (S := fun w' => cgl_iisisssss w' gb101 a0_0 a0_1 a0_2 a0_3 a0_4 a0_5 a0_6 a0_7 a0_8) (ds := []) #[ff,ff,ff,ff,ff,ff,ff,ff] (by kernel_rfl) rfl rfl (cl_9 BK101.out) (fun hHeld => ?_); refine Qa9 QaU.tab1 QaU.bits1 (fun HT_ HW_ => ?_)
 generalize w4.drew = w5 at BK101 BK102 HB hHeld ⊢
 refine pz 0 3 ?_; refine pz 1 4 ?_; refine pz 4 7 ?_; refine tk9 2 5 ?_; refine tk9 5 8 ?_; refine one_ (i := 3) (N := some 6) #[tt,tt,tt,tt,tt,tt,ff,ff] rfl rfl (QbK HT_.out (by kernel_rfl)) (by decide) (fun K hK => ?_); refine goes_ Tryz.func69 (by kernel_rfl) rfl #[.int .i64 a0_0] (by rfl) rfl rfl (by (try simp only [List.map_toArray, List.map_cons, List.map_nil]); first | done | rfl | (simp only [List.length_drop, List.length_take]; rfl)) ?_
 with_reducible refine (QaG.calls k a0_0 t103 _ A2.out).mono ?_
 rintro e w6 ⟨rfl, hb⟩; refine ⟨_, rfl, ?_⟩; replace BK101 := Qaa.mk (Qad (g := gb101) bk_ hb); replace BK102 := Qaa.mk (Qad (g := gb102) bk_ hb); replace HB := Qaa.mk (Qac bw_ hb)
 (try clear hb)
 (try clear hb2)
 (try clear hk)
 (try clear hi)
 refine hK.out _ _ (cl_9 BK101.out) (fun hHeld => ?_); clear hK K; refine norm_ (a' := ?_) ?_ ?_; rotate_left
 ·show Act.put _ (some 6) _ = _
  simp only [Act.put, put_, Qbe, Qbh]; rfl
 refine pz 6 9 ?_; refine one_ (i := 7) (N := none) #[tt,tt,tt,tt,tt,tt,tt,tt] rfl rfl (QbK HT_.out (by kernel_rfl)) (by decide) (fun K hK => ?_); have hs7 : w6.cell? ⟨gb102, 0, none⟩ = some (.string (⟨#[]⟩ : ByteArray)) := (Qak BK102.out 0).trans rfl; have hfs7 := QaP BK102.out 0; have hns7_0 := NB101_102.out; have hms7_0 := NB102_101.out; have hs8 : w6.cell? ⟨gb102, 1, none⟩ = some (.string (⟨#[]⟩ : ByteArray)) := (Qak BK102.out 1).trans rfl; have hfs8 := QaP BK102.out 1; have hns8_0 := NB101_102.out; have hms8_0 := NB102_101.out; refine skip_ (w1 := ?_) (by rfl) rfl ?_ ?_; rotate_left
 ·go_simp; rfl
 refine hK.out _ _ ⟨((cell_far (p := ⟨gb102, _, none⟩) NB101_102.out _).trans (((cell_far (p := ⟨gb102, _, none⟩) NB101_102.out _).trans (hHeld.1)))), ((cell_far (p := ⟨gb102, _, none⟩) NB101_102.out _).trans (((cell_far (p := ⟨gb102, _, none⟩) NB101_102.out _).trans (hHeld.2.1)))), ((cell_far (p := ⟨gb102, _, none⟩) NB101_102.out _).trans (((cell_far (p := ⟨gb102, _, none⟩) NB101_102.out _).trans (hHeld.2.2.1)))), ((cell_far (p := ⟨gb102, _, none⟩) NB101_102.out _).trans (((cell_far (p := ⟨gb102, _, none⟩) NB101_102.out _).trans (hHeld.2.2.2.1)))), ((cell_far (p := ⟨gb102, _, none⟩) NB101_102.out _).trans (((cell_far (p := ⟨gb102, _, none⟩) NB101_102.out _).trans (hHeld.2.2.2.2.1)))), ((cell_far (p := ⟨gb102, _, none⟩) NB101_102.out _).trans (((cell_far (p := ⟨gb102, _, none⟩) NB101_102.out _).trans (hHeld.2.2.2.2.2.1)))), ((cell_far (p := ⟨gb102, _, none⟩) NB101_102.out _).trans (((cell_far (p := ⟨gb102, _, none⟩) NB101_102.out _).trans (hHeld.2.2.2.2.2.2.1)))), ((cell_far (p := ⟨gb102, _, none⟩) NB101_102.out _).trans (((cell_far (p := ⟨gb102, _, none⟩) NB101_102.out _).trans (hHeld.2.2.2.2.2.2.2.1)))), ((cell_far (p := ⟨gb102, _, none⟩) NB101_102.out _).trans (((cell_far (p := ⟨gb102, _, none⟩) NB101_102.out _).trans (hHeld.2.2.2.2.2.2.2.2))))⟩ (fun hHeld => ?_); clear hK K; refine QbS (Qbz HT_.out (by kernel_rfl)) ?_
 try go_wp2
 refine bodyPost_ret (results_cell_row rfl _ _ gb102 33 #[.string t103, .string a0_2] (0, 0) _ rfl (by (with_reducible repeat (first | refine Qat ?_ _ | refine Qan ?_ | refine Qam ?_ _)); refine Qbl (cs := #[.string t103, .string (⟨#[]⟩ : ByteArray)]) ?_ 1 _ rfl; (with_reducible repeat (first | refine Qat ?_ _ | refine Qan ?_ | refine Qam ?_ _)); refine Qbl (cs := #[.string (⟨#[]⟩ : ByteArray), .string (⟨#[]⟩ : ByteArray)]) ?_ 0 _ rfl; (with_reducible repeat (first | refine Qat ?_ _ | refine Qan ?_ | refine Qam ?_ _)); exact BK102.out) Tryz.underlying33 rfl (by kernel_rfl)) rfl ?_; exact ⟨by first | rfl | (simp [Qap, Qao] <;> rfl) | (simp [*, Qap, Qao] <;> rfl), bw_⟩

def QaJ.f (k : Nat) (a0_0 : Int) (a0_1 : Int) (a0_2 : ByteArray) (a0_3 : Int) (a0_4 : ByteArray) (a0_5 : ByteArray) (a0_6 : ByteArray) (a0_7 : ByteArray) (a0_8 : ByteArray) : Option (ByteArray × ByteArray) := (QaG.f k a0_0).bind fun t103 => (some (t103, a0_6))
def QaJ.T1 : Bool × List (List Nat × List Nat) := (true, [([], []), ([0], [0]), ([1], [1]), ([2], [2]), ([], []), ([4], [4]), ([5], [5]), ([3, 6], [3, 6]), ([7, 3, 0, 1, 2, 3, 4, 5, 6, 7], [7])])
def QaJ.B1 : List Nat := [0, 1, 3, 7, 0, 16, 48, 127, 255]
theorem QaJ.tab1 : rtab .any (opsOf Tryz.f63 1) = QaJ.T1 := by kernel_rfl
theorem QaJ.bits1 : waitsOk QaJ.T1.2 QaJ.B1 = true := by kernel_rfl
set_option maxHeartbeats 8000000 in
set_option maxRecDepth 100000 in
theorem QaJ.calls (k : Nat) (a0_0 : Int) (a0_1 : Int) (a0_2 : ByteArray) (a0_3 : Int) (a0_4 : ByteArray) (a0_5 : ByteArray) (a0_6 : ByteArray) (a0_7 : ByteArray) (a0_8 : ByteArray) (r1 : ByteArray) (r2 : ByteArray) (w : World) (h : QaJ.f k a0_0 a0_1 a0_2 a0_3 a0_4 a0_5 a0_6 a0_7 a0_8 = some (r1, r2)) :
  Calls Tryz.prog 63 #[.agg #[.int .i64 a0_0, .int .i64 a0_1, .string a0_2, .int .i64 a0_3, .string a0_4, .string a0_5, .string a0_6, .string a0_7, .string a0_8]] w fun e w' => e = .returned (.agg #[.string r1, .string r2]) ∧ Below w.heap.size w w' := by
 have hu35 := Tryz.underlying35; have hu33 := Tryz.underlying33; have HB := Qaa.mk (Below.refl w.heap.size w); have H : ((QaG.f k a0_0).bind fun t103 => (some (t103, a0_6))) = some (r1, r2) := h; clear h; replace H := Option.bind_eq_some_iff.mp H; obtain ⟨t103, A20, H⟩ := H; replace H : (some (t103, a0_6)) = some (r1, r2) := H; have A2 := Qaa.mk A20; clear A20; simp only [Option.some.injEq, Prod.mk.injEq] at H; obtain ⟨rfl, rfl⟩ := H; go_enter Tryz.func63, Tryz.ntmps63
 try go_wp2_with (first | ((with_reducible refine QaA (N := 1) rfl ?_); refine Qax ?hg (N := 1) ?hd (cs := #[.int .i64 a0_0, .int .i64 a0_1, .string a0_2, .int .i64 a0_3, .string a0_4, .string a0_5, .string a0_6, .string a0_7, .string a0_8]) (t := 35) ?hr ?_; (case hd => rfl); (case hg => rfl); (case hr => first | (go_simp; done) | (go_simp; rfl)); intro gb101 hg w3 hbox hb; have BK101 := Qaa.mk (hbox); have GW101 := (gz_ hg : Qaa (w.heap.size ≤ gb101)); have GE101 := (gz_ hg : Qaa (w.heap.size ≤ gb101)); replace HB := Qaa.mk (Qac bw_ hb); clear hb hbox hg) | ((with_reducible refine QaA (N := 2) rfl ?_); refine Qax ?hg (N := 2) ?hd (cs := #[.string (⟨#[]⟩ : ByteArray), .string (⟨#[]⟩ : ByteArray)]) (t := 33) ?hr ?_; (case hd => rfl); (case hg => rfl); (case hr => first | (go_simp; done) | (go_simp; rfl)); intro gb102 hg w4 hbox hb; have BK102 := Qaa.mk (hbox); have GW102 := (gz_ hg : Qaa (w.heap.size ≤ gb102)); have GE102 := (gz_ hg : Qaa (w.heap.size ≤ gb102)); have NB101_102 := (nl_ hg : Qaa (gb101 ≠ gb102)); have NB102_101 := (ng_ hg : Qaa (gb102 ≠ gb101)); replace BK101 := Qaa.mk (Qad (g := gb101) bk_ hb); replace HB := Qaa.mk (Qac bw_ hb); clear hb hbox hg))
 replace BK101 := Qaa.mk (Qan BK101.out); replace BK102 := Qaa.mk (Qan BK102.out); replace HB := Qaa.mk (Qau HB.out); refine Qbo (n := 9) (S := fun w' => cgl_iisisssss w' gb101 a0_0 a0_1 a0_2 a0_3 a0_4 a0_5 a0_6 a0_7 a0_8) (ds := []) #[ff,ff,ff,ff,ff,ff,ff,ff,ff] (by kernel_rfl) rfl rfl (cl_9 BK101.out) (fun hHeld => ?_); refine Qa9 QaJ.tab1 QaJ.bits1 (fun HT_ HW_ => ?_)
 generalize w4.drew = w5 at BK101 BK102 HB hHeld ⊢
 refine pz 0 3 ?_; refine pz 1 4 ?_; refine pz 4 7 ?_; refine pz 5 8 ?_; refine tk9 2 5 ?_; refine tk9 6 9 ?_; refine one_ (i := 3) (N := some 6) #[tt,tt,tt,tt,tt,tt,tt,ff,ff] rfl rfl (QbK HT_.out (by kernel_rfl)) (by decide) (fun K hK => ?_); refine goes_ Tryz.func69 (by kernel_rfl) rfl #[.int .i64 a0_0] (by rfl) rfl rfl (by (try simp only [List.map_toArray, List.map_cons, List.map_nil]); first | done | rfl | (simp only [List.length_drop, List.length_take]; rfl)) ?_
 with_reducible refine (QaG.calls k a0_0 t103 _ A2.out).mono ?_
 rintro e w6 ⟨rfl, hb⟩; refine ⟨_, rfl, ?_⟩; replace BK101 := Qaa.mk (Qad (g := gb101) bk_ hb); replace BK102 := Qaa.mk (Qad (g := gb102) bk_ hb); replace HB := Qaa.mk (Qac bw_ hb)
 (try clear hb)
 (try clear hb2)
 (try clear hk)
 (try clear hi)
 refine hK.out _ _ (cl_9 BK101.out) (fun hHeld => ?_); clear hK K; refine norm_ (a' := ?_) ?_ ?_; rotate_left
 ·show Act.put _ (some 6) _ = _
  simp only [Act.put, put_, Qbe, Qbh]; rfl
 refine pz 7 10 ?_; refine one_ (i := 8) (N := none) #[tt,tt,tt,tt,tt,tt,tt,tt,tt] rfl rfl (QbK HT_.out (by kernel_rfl)) (by decide) (fun K hK => ?_); have hs7 : w6.cell? ⟨gb102, 0, none⟩ = some (.string (⟨#[]⟩ : ByteArray)) := (Qak BK102.out 0).trans rfl; have hfs7 := QaP BK102.out 0; have hns7_0 := NB101_102.out; have hms7_0 := NB102_101.out; have hs8 : w6.cell? ⟨gb102, 1, none⟩ = some (.string (⟨#[]⟩ : ByteArray)) := (Qak BK102.out 1).trans rfl; have hfs8 := QaP BK102.out 1; have hns8_0 := NB101_102.out; have hms8_0 := NB102_101.out; refine skip_ (w1 := ?_) (by rfl) rfl ?_ ?_; rotate_left
 ·go_simp; rfl
 refine hK.out _ _ ⟨((cell_far (p := ⟨gb102, _, none⟩) NB101_102.out _).trans (((cell_far (p := ⟨gb102, _, none⟩) NB101_102.out _).trans (hHeld.1)))), ((cell_far (p := ⟨gb102, _, none⟩) NB101_102.out _).trans (((cell_far (p := ⟨gb102, _, none⟩) NB101_102.out _).trans (hHeld.2.1)))), ((cell_far (p := ⟨gb102, _, none⟩) NB101_102.out _).trans (((cell_far (p := ⟨gb102, _, none⟩) NB101_102.out _).trans (hHeld.2.2.1)))), ((cell_far (p := ⟨gb102, _, none⟩) NB101_102.out _).trans (((cell_far (p := ⟨gb102, _, none⟩) NB101_102.out _).trans (hHeld.2.2.2.1)))), ((cell_far (p := ⟨gb102, _, none⟩) NB101_102.out _).trans (((cell_far (p := ⟨gb102, _, none⟩) NB101_102.out _).trans (hHeld.2.2.2.2.1)))), ((cell_far (p := ⟨gb102, _, none⟩) NB101_102.out _).trans (((cell_far (p := ⟨gb102, _, none⟩) NB101_102.out _).trans (hHeld.2.2.2.2.2.1)))), ((cell_far (p := ⟨gb102, _, none⟩) NB101_102.out _).trans (((cell_far (p := ⟨gb102, _, none⟩) NB101_102.out _).trans (hHeld.2.2.2.2.2.2.1)))), ((cell_far (p := ⟨gb102, _, none⟩) NB101_102.out _).trans (((cell_far (p := ⟨gb102, _, none⟩) NB101_102.out _).trans (hHeld.2.2.2.2.2.2.2.1)))), ((cell_far (p := ⟨gb102, _, none⟩) NB101_102.out _).trans (((cell_far (p := ⟨gb102, _, none⟩) NB101_102.out _).trans (hHeld.2.2.2.2.2.2.2.2))))⟩ (fun hHeld => ?_); clear hK K; refine QbS (Qbz HT_.out (by kernel_rfl)) ?_
 try go_wp2
 refine bodyPost_ret (results_cell_row rfl _ _ gb102 33 #[.string t103, .string a0_6] (0, 0) _ rfl (by (with_reducible repeat (first | refine Qat ?_ _ | refine Qan ?_ | refine Qam ?_ _)); refine Qbl (cs := #[.string t103, .string (⟨#[]⟩ : ByteArray)]) ?_ 1 _ rfl; (with_reducible repeat (first | refine Qat ?_ _ | refine Qan ?_ | refine Qam ?_ _)); refine Qbl (cs := #[.string (⟨#[]⟩ : ByteArray), .string (⟨#[]⟩ : ByteArray)]) ?_ 0 _ rfl; (with_reducible repeat (first | refine Qat ?_ _ | refine Qan ?_ | refine Qam ?_ _)); exact BK102.out) Tryz.underlying33 rfl (by kernel_rfl)) rfl ?_; exact ⟨by first | rfl | (simp [Qap, Qao] <;> rfl) | (simp [*, Qap, Qao] <;> rfl), bw_⟩

def Qbs.f (a0_0 : ByteArray) (a0_1 : ByteArray) (a1_0 : ByteArray) (a1_1 : ByteArray) : Option (Bool) := if a0_0.toList = a1_0.toList then (some (Op.bytesLess a0_1.toList a1_1.toList)) else (some (Op.bytesLess a0_0.toList a1_0.toList))
set_option maxHeartbeats 8000000 in
set_option maxRecDepth 100000 in
theorem Qbs.calls (a0_0 : ByteArray) (a0_1 : ByteArray) (a1_0 : ByteArray) (a1_1 : ByteArray) (r : Bool) (w : World) (h : Qbs.f a0_0 a0_1 a1_0 a1_1 = some r) :
  Calls Tryz.prog 49 #[.agg #[.string a0_0, .string a0_1], .agg #[.string a1_0, .string a1_1]] w fun e w' => e = .returned (.bool r) ∧ Below w.heap.size w w' := by
 have hu33 := Tryz.underlying33; have HB := Qaa.mk (Below.refl w.heap.size w); have H : (if a0_0.toList = a1_0.toList then (some (Op.bytesLess a0_1.toList a1_1.toList)) else (some (Op.bytesLess a0_0.toList a1_0.toList))) = some r := h; clear h
 by_cases c3 : a0_0.toList = a1_0.toList
 ·rw [if_pos c3] at H; have c3b0 : (a0_0.toList == a1_0.toList) = true := beq_iff_eq.mpr c3; have c3b1 : (a0_0.toList != a1_0.toList) = false := bne_eq_false_iff_eq.mpr c3; clear c3; obtain rfl := Option.some.inj H; go_enter Tryz.func49, Tryz.ntmps49
  go_wp2_with (first | ((with_reducible refine QaA (N := 2) rfl ?_); refine Qax ?hg (N := 2) ?hd (cs := #[.string a0_0, .string a0_1]) (t := 33) ?hr ?_; (case hd => rfl); (case hg => rfl); (case hr => first | (go_simp; done) | (go_simp; rfl)); intro gb101 hg w4 hbox hb; have BK101 := Qaa.mk (hbox); have GW101 := (gz_ hg : Qaa (w.heap.size ≤ gb101)); have GE101 := (gz_ hg : Qaa (w.heap.size ≤ gb101)); replace HB := Qaa.mk (Qac bw_ hb); clear hb hbox hg) | ((with_reducible refine QaA (N := 3) rfl ?_); refine Qax ?hg (N := 3) ?hd (cs := #[.string a1_0, .string a1_1]) (t := 33) ?hr ?_; (case hd => rfl); (case hg => rfl); (case hr => first | (go_simp; done) | (go_simp; rfl)); intro gb102 hg w5 hbox hb; have BK102 := Qaa.mk (hbox); have GW102 := (gz_ hg : Qaa (w.heap.size ≤ gb102)); have GE102 := (gz_ hg : Qaa (w.heap.size ≤ gb102)); have NB101_102 := (nl_ hg : Qaa (gb101 ≠ gb102)); have NB102_101 := (ng_ hg : Qaa (gb102 ≠ gb101)); replace BK101 := Qaa.mk (Qad (g := gb101) bk_ hb); replace HB := Qaa.mk (Qac bw_ hb); clear hb hbox hg; have hnb6 := NB101_102.out; have hnc6 := NB102_101.out; obtain ⟨c7_0, c7_1⟩ := cz_ss BK101.out; obtain ⟨f7_0, f7_1⟩ := fz_2 BK101.out; obtain ⟨c8_0, c8_1⟩ := cz_ss BK102.out; obtain ⟨f8_0, f8_1⟩ := fz_2 BK102.out))
  go_ret; exact ⟨by first | rfl | (simp [Qap, Qao] <;> rfl) | (simp [*, Qap, Qao] <;> rfl), bw_⟩
 ·rw [if_neg c3] at H; have c3b0 : (a0_0.toList == a1_0.toList) = false := beq_eq_false_iff_ne.mpr c3; have c3b1 : (a0_0.toList != a1_0.toList) = true := bne_iff_ne.mpr c3; obtain rfl := Option.some.inj H; go_enter Tryz.func49, Tryz.ntmps49
  go_wp2_with (first | ((with_reducible refine QaA (N := 2) rfl ?_); refine Qax ?hg (N := 2) ?hd (cs := #[.string a0_0, .string a0_1]) (t := 33) ?hr ?_; (case hd => rfl); (case hg => rfl); (case hr => first | (go_simp; done) | (go_simp; rfl)); intro gb101 hg w9 hbox hb; have BK101 := Qaa.mk (hbox); have GW101 := (gz_ hg : Qaa (w.heap.size ≤ gb101)); have GE101 := (gz_ hg : Qaa (w.heap.size ≤ gb101)); replace HB := Qaa.mk (Qac bw_ hb); clear hb hbox hg) | ((with_reducible refine QaA (N := 3) rfl ?_); refine Qax ?hg (N := 3) ?hd (cs := #[.string a1_0, .string a1_1]) (t := 33) ?hr ?_; (case hd => rfl); (case hg => rfl); (case hr => first | (go_simp; done) | (go_simp; rfl)); intro gb102 hg w10 hbox hb; have BK102 := Qaa.mk (hbox); have GW102 := (gz_ hg : Qaa (w.heap.size ≤ gb102)); have GE102 := (gz_ hg : Qaa (w.heap.size ≤ gb102)); have NB101_102 := (nl_ hg : Qaa (gb101 ≠ gb102)); have NB102_101 := (ng_ hg : Qaa (gb102 ≠ gb101)); replace BK101 := Qaa.mk (Qad (g := gb101) bk_ hb); replace HB := Qaa.mk (Qac bw_ hb); clear hb hbox hg; have hnb11 := NB101_102.out; have hnc11 := NB102_101.out; obtain ⟨c12_0, c12_1⟩ := cz_ss BK101.out; obtain ⟨f12_0, f12_1⟩ := fz_2 BK101.out; obtain ⟨c13_0, c13_1⟩ := cz_ss BK102.out; obtain ⟨f13_0, f13_1⟩ := fz_2 BK102.out))
  go_ret; exact ⟨by first | rfl | (simp [Qap, Qao] <;> rfl) | (simp [*, Qap, Qao] <;> rfl), bw_⟩
end
section
attribute [local go_sem] QaE QaC QaS QaR Qaw Qav QaD QaB
attribute [local go_sem high] eqA33
def Qbk.f (a0_0 : ByteArray) (a0_1 : ByteArray) (a0_2 : ByteArray) (a1_0 : ByteArray) (a1_1 : ByteArray) (a1_2 : ByteArray) : Option (Bool) := if (!(a0_0.toList == a1_0.toList) || (!(a0_1.toList == a1_1.toList))) = true then ((Qbs.f a0_0 a0_1 a1_0 a1_1).bind fun t103 => (some t103)) else (some (Op.bytesLess a0_2.toList a1_2.toList))
set_option maxHeartbeats 8000000 in
set_option maxRecDepth 100000 in
theorem Qbk.calls (a0_0 : ByteArray) (a0_1 : ByteArray) (a0_2 : ByteArray) (a1_0 : ByteArray) (a1_1 : ByteArray) (a1_2 : ByteArray) (r : Bool) (w : World) (h : Qbk.f a0_0 a0_1 a0_2 a1_0 a1_1 a1_2 = some r) :
  Calls Tryz.prog 32 #[.agg #[.string a0_0, .string a0_1, .string a0_2], .agg #[.string a1_0, .string a1_1, .string a1_2]] w fun e w' => e = .returned (.bool r) ∧ Below w.heap.size w w' := by
 have hu62 := Tryz.underlying62; have hu33 := Tryz.underlying33; have HB := Qaa.mk (Below.refl w.heap.size w); have H : (if (!(a0_0.toList == a1_0.toList) || (!(a0_1.toList == a1_1.toList))) = true then ((Qbs.f a0_0 a0_1 a1_0 a1_1).bind fun t103 => (some t103)) else (some (Op.bytesLess a0_2.toList a1_2.toList))) = some r := h; clear h
 by_cases c3 : (!(a0_0.toList == a1_0.toList) || (!(a0_1.toList == a1_1.toList))) = true
 ·rw [if_pos c3] at H; have c3b0 : (!(a0_0.toList == a1_0.toList) || (!(a0_1.toList == a1_1.toList))) = true := c3; clear c3; replace H := Option.bind_eq_some_iff.mp H; obtain ⟨t103, A40, H⟩ := H; replace H : (some t103) = some r := H; have A4 := Qaa.mk A40; clear A40; obtain rfl := Option.some.inj H; go_enter Tryz.func32, Tryz.ntmps32
  go_wp2_with (first | ((with_reducible refine QaA (N := 2) rfl ?_); refine Qax ?hg (N := 2) ?hd (cs := #[.string a0_0, .string a0_1, .string a0_2]) (t := 62) ?hr ?_; (case hd => rfl); (case hg => rfl); (case hr => first | (go_simp; done) | (go_simp; rfl)); intro gb101 hg w5 hbox hb; have BK101 := Qaa.mk (hbox); have GW101 := (gz_ hg : Qaa (w.heap.size ≤ gb101)); have GE101 := (gz_ hg : Qaa (w.heap.size ≤ gb101)); replace HB := Qaa.mk (Qac bw_ hb); clear hb hbox hg) | ((with_reducible refine QaA (N := 3) rfl ?_); refine Qax ?hg (N := 3) ?hd (cs := #[.string a1_0, .string a1_1, .string a1_2]) (t := 62) ?hr ?_; (case hd => rfl); (case hg => rfl); (case hr => first | (go_simp; done) | (go_simp; rfl)); intro gb102 hg w6 hbox hb; have BK102 := Qaa.mk (hbox); have GW102 := (gz_ hg : Qaa (w.heap.size ≤ gb102)); have GE102 := (gz_ hg : Qaa (w.heap.size ≤ gb102)); have NB101_102 := (nl_ hg : Qaa (gb101 ≠ gb102)); have NB102_101 := (ng_ hg : Qaa (gb102 ≠ gb101)); replace BK101 := Qaa.mk (Qad (g := gb101) bk_ hb); replace HB := Qaa.mk (Qac bw_ hb); clear hb hbox hg; have hnb7 := NB101_102.out; have hnc7 := NB102_101.out; obtain ⟨c8_0, c8_1, c8_2⟩ := cz_sss BK101.out; obtain ⟨f8_0, f8_1, f8_2⟩ := fz_3 BK101.out; obtain ⟨c9_0, c9_1, c9_2⟩ := cz_sss BK102.out; obtain ⟨f9_0, f9_1, f9_2⟩ := fz_3 BK102.out) | ((with_reducible refine QaT (f := 49) rfl ?_); refine gL 14 Tryz.func49 #[.agg #[.string a0_0, .string a0_1], .agg #[.string a1_0, .string a1_1]] ?_; (with_reducible refine (Qbs.calls a0_0 a0_1 a1_0 a1_1 t103 _ A4.out).mono ?_); rintro e w10 ⟨rfl, hb⟩; refine ⟨_, rfl, ?_⟩; replace BK101 := Qaa.mk (Qad (g := gb101) bk_ hb); replace BK102 := Qaa.mk (Qad (g := gb102) bk_ hb); replace HB := Qaa.mk (Qac bw_ hb); (try clear hb); (try clear hb2); (try clear hk); (try clear hi)))
  go_ret; exact ⟨by first | rfl | (simp [Qap, Qao] <;> rfl) | (simp [*, Qap, Qao] <;> rfl), bw_⟩
 ·rw [if_neg c3] at H
  have c3b0 : (!(a0_0.toList == a1_0.toList) || (!(a0_1.toList == a1_1.toList))) = false := by simpa using c3
  clear c3; obtain rfl := Option.some.inj H; go_enter Tryz.func32, Tryz.ntmps32
  go_wp2_with (first | ((with_reducible refine QaA (N := 2) rfl ?_); refine Qax ?hg (N := 2) ?hd (cs := #[.string a0_0, .string a0_1, .string a0_2]) (t := 62) ?hr ?_; (case hd => rfl); (case hg => rfl); (case hr => first | (go_simp; done) | (go_simp; rfl)); intro gb101 hg w11 hbox hb; have BK101 := Qaa.mk (hbox); have GW101 := (gz_ hg : Qaa (w.heap.size ≤ gb101)); have GE101 := (gz_ hg : Qaa (w.heap.size ≤ gb101)); replace HB := Qaa.mk (Qac bw_ hb); clear hb hbox hg) | ((with_reducible refine QaA (N := 3) rfl ?_); refine Qax ?hg (N := 3) ?hd (cs := #[.string a1_0, .string a1_1, .string a1_2]) (t := 62) ?hr ?_; (case hd => rfl); (case hg => rfl); (case hr => first | (go_simp; done) | (go_simp; rfl)); intro gb102 hg w12 hbox hb; have BK102 := Qaa.mk (hbox); have GW102 := (gz_ hg : Qaa (w.heap.size ≤ gb102)); have GE102 := (gz_ hg : Qaa (w.heap.size ≤ gb102)); have NB101_102 := (nl_ hg : Qaa (gb101 ≠ gb102)); have NB102_101 := (ng_ hg : Qaa (gb102 ≠ gb101)); replace BK101 := Qaa.mk (Qad (g := gb101) bk_ hb); replace HB := Qaa.mk (Qac bw_ hb); clear hb hbox hg; have hnb13 := NB101_102.out; have hnc13 := NB102_101.out; obtain ⟨c14_0, c14_1, c14_2⟩ := cz_sss BK101.out; obtain ⟨f14_0, f14_1, f14_2⟩ := fz_3 BK101.out; obtain ⟨c15_0, c15_1, c15_2⟩ := cz_sss BK102.out; obtain ⟨f15_0, f15_1, f15_2⟩ := fz_3 BK102.out))
  go_ret; exact ⟨by first | rfl | (simp [Qap, Qao] <;> rfl) | (simp [*, Qap, Qao] <;> rfl), bw_⟩


end
section
attribute [local go_sem] QaE QaC QaS QaR Qaw Qav QaD QaB
attribute [local go_sem high] eqA31

end
section
attribute [local go_sem] QaE QaC QaS QaR Qaw Qav QaD QaB
attribute [local go_sem high] eqA33

end
section
variable {P : Program}
theorem run_loadAt_cells (w : World) (a : Addr) (ty : TypeId) (cs : List Value) (d : TypeDesc) (hc : ∀ j v, cs[j]? = some v → w.cell? (a.add j) = some v)
    (hu : P.underlying ty = some d) (hd : d.isRow = true) (hi : (P.info? ty).map (·.size) = some cs.length) : (Instr.loadAt ty (.pointer (some a))).run P w = .ok (.agg cs.toArray) w := by
  have hl : (loadCells a cs.length).run P w = .ok cs.toArray w := run_loadCells_list (P := P) w a cs hc
  cases hq : P.info? ty with
  | none => simp [hq] at hi
  | some i =>
    have hs : i.size = cs.length := by simpa [hq] using hi
    have hagg : (isAgg ty).run P w = .ok true w := by
      unfold isAgg; rw [Sem.run_bind, run_underlying hu w]
      cases d <;> simp_all
    simp [Instr.loadAt, Instr.sureAddr, loadVar, Sem.run_bind, hagg, sizeOf, typeInfo, hq, hs, hl]
theorem QaF {op : Oper} {rest : List Oper} {ops : Array Oper} {a : Act} {w : World} {Q : Exit → Act → World → Prop} (hgd : op.guard = none) (ty : TypeId) (x : Operand) (ho : op.op = .load ty x) (a0 : Addr) (hx : a.eval x = .pointer (some a0)) (E : Array Value) (d : TypeDesc)
    (hc : ∀ j v, E[j]? = some v → w.cell? (a0.add j) = some v) (hu : P.underlying ty = some d) (hd : d.isRow = true) (hi : (P.info? ty).map (·.size) = some E.size) (h : wpList P ops Q rest (a.put op.dst (.agg E)) w) : wpList P ops Q (op :: rest) a w :=
  wpList_plain hgd fun _ hK => by
    unfold Oper.wp execOp; have hr := run_loadAt_cells w a0 ty E.toList d (fun j v hv => hc j v (by simpa using hv)) hu hd (by simpa using hi); rw [Array.toArray_toList] at hr; simp only [ho, hx, hr, Sem.run_bind, Sem.run_pure, Result.andThen_ok]; exact hK _ _ h
theorem range_block {w : World} {b : Nat} {C : Array Value} {t : TypeId} {fr : Nat × Nat} (hb : w.heap[b]? = some (.cells C t fr)) (o n : Nat) : ∀ j v, (C.extract o (o + n))[j]? = some v → w.cell? ((⟨b, o, none⟩ : Addr).add j) = some v := fun j v hv => by
  rw [Addr.add_mid]; exact World.rangeAt_of_block hb o n j v (by rw [Array.getElem?_toList]; exact hv)
theorem Qbn {w : World} {b : Nat} {C : Array Value} {t : TypeId} {fr : Nat × Nat} (hb : w.heap[b]? = some (.cells C t fr)) : ∀ j v, C[j]? = some v → w.cell? ((⟨b, 0, none⟩ : Addr).add j) = some v := fun j v hv => by
  rw [Addr.add_mid, cell_of_row w b (0 + j) C t fr hb, Nat.zero_add]; exact hv
theorem Qbm {op : Oper} {rest : List Oper} {ops : Array Oper} {a : Act} {w V : World} {Q : Exit → Act → World → Prop} {Z : Array Value} (hgd : op.guard = none) (ty : TypeId) (x y : Operand) (ho : op.op = .store ty x y) (hw : w = V.alloc (.cells Z ty)) (hx : a.eval x = .pointer (some ⟨V.heap.size, 0, none⟩)) (U : Array Value) (hy : a.eval y = .agg U)
    (hi : (P.info? ty).map (·.size) = some U.size) (hz : Z.size = U.size) (h1 : U.all (·.oneCell') = true) (h : wpList P ops Q rest (a.put op.dst undef) (V.alloc (.cells U ty))) : wpList P ops Q (op :: rest) a w :=
  wpList_plain hgd fun _ hK => by
    subst hw; unfold Oper.wp execOp; simp only [ho, hx, hy, run_storeAt_new V ty Z U hi hz h1, Sem.run_bind, Sem.run_pure, Result.andThen_ok]; exact hK _ _ h
theorem wpList_putRow {op : Oper} {rest : List Oper} {ops : Array Oper} {a : Act} {w : World} {Q : Exit → Act → World → Prop} (hgd : op.guard = none) (ty : TypeId) (x y : Operand) (ho : op.op = .store ty x y) {b : Nat} {C : Array Value} {t : TypeId} (hb : w.heap[b]? = some (.cells C t (0, 0))) (hx : a.eval x = .pointer (some ⟨b, 0, none⟩)) (U : Array Value) (hy : a.eval y = .agg U)
    (hi : (P.info? ty).map (·.size) = some U.size) (hz : C.size = U.size) (h1 : U.all (·.oneCell') = true) (h : wpList P ops Q rest (a.put op.dst undef) (w.setRow b U)) : wpList P ops Q (op :: rest) a w :=
  wpList_plain hgd fun _ hK => by
    unfold Oper.wp execOp; simp only [ho, hx, hy, Instr.storeAt, Instr.sureAddr, run_storeVar_row w b t ty C U hb hi hz h1, Sem.run_bind, Sem.run_pure, Result.andThen_ok]; exact hK _ _ h
end
theorem nodup_le {α : Type} [DecidableEq α] : ∀ {l m : List α}, l.Nodup → (∀ x ∈ l, x ∈ m) → l.length ≤ m.length
  | [], m, _, _ => Nat.zero_le _
  | a :: l, m, h, hs => by
    have ha := hs a (List.mem_cons_self ..); rw [List.nodup_cons] at h; have := nodup_le (m := m.erase a) h.2 (fun x hx => (List.mem_erase_of_ne (fun e : x = a => h.1 (e ▸ hx))).mpr (hs x (List.mem_cons_of_mem _ hx))); rw [List.length_erase_of_mem ha] at this; have := List.length_pos_of_mem ha; simp only [List.length_cons]; omega
theorem sorted_eq {α : Type} {R : α → α → Prop} (hi : ∀ x, ¬ R x x) (ht : ∀ x y z, R x y → R y z → R x z) : ∀ {a b : List α}, a.Pairwise R → b.Pairwise R → (∀ x, x ∈ a ↔ x ∈ b) → a = b
  | [], [], _, _, _ => rfl
  | [], y :: b, _, _, h => absurd ((h y).mpr (List.mem_cons_self ..)) (List.not_mem_nil)
  | x :: a, [], _, _, h => absurd ((h x).mp (List.mem_cons_self ..)) (List.not_mem_nil)
  | x :: a, y :: b, ha, hb, h => by
    rw [List.pairwise_cons] at ha hb
    have exy : x = y := by
      rcases List.mem_cons.mp ((h x).mp (List.mem_cons_self ..)) with e | h1
      · exact e
      · rcases List.mem_cons.mp ((h y).mpr (List.mem_cons_self ..)) with e | h2
        · exact e.symm
        · exact absurd (ht _ _ _ (ha.1 _ h2) (hb.1 _ h1)) (hi x)
    subst exy
    congr 1
    refine sorted_eq hi ht ha.2 hb.2 fun z => ⟨fun hz => ?_, fun hz => ?_⟩
    · rcases List.mem_cons.mp ((h z).mp (List.mem_cons_of_mem _ hz)) with e | h1
      · subst e; exact absurd (ha.1 _ hz) (hi z)
      · exact h1
    · rcases List.mem_cons.mp ((h z).mpr (List.mem_cons_of_mem _ hz)) with e | h1
      · subst e; exact absurd (hb.1 _ hz) (hi z)
      · exact h1
theorem sorted_nodup {α : Type} {R : α → α → Prop} (hi : ∀ x, ¬ R x x) {l : List α} (h : l.Pairwise R) : l.Nodup :=
  h.imp fun {a b} hab (e : a = b) => hi a (by subst e; exact hab)
section
variable {α : Type} [Inhabited α]
theorem swp_split (d : Array α) (j : Nat) (h : j + 1 < d.size) : ∃ a b, d.toList = a ++ d[j]! :: d[j + 1]! :: b ∧ (Go.Sort.swp d (j + 1) j).toList = a ++ d[j + 1]! :: d[j]! :: b := by
  have h1 : j < d.toList.length := by simp; omega
  have h2 : j + 1 < d.toList.length := by simp; omega
  have e : d.toList = d.toList.take j ++ d[j]! :: d[j + 1]! :: d.toList.drop (j + 2) := by
    rw [getElem!_pos d j (by omega), getElem!_pos d (j + 1) h]
    conv => lhs; rw [← List.take_append_drop j d.toList, List.drop_eq_getElem_cons h1, List.drop_eq_getElem_cons h2]
    rfl
  have hl : (d.toList.take j).length = j := by simp; omega
  generalize d.toList.take j = a at e hl
  generalize d.toList.drop (j + 2) = b at e
  refine ⟨a, b, e, ?_⟩; unfold Go.Sort.swp; rw [Array.toList_setIfInBounds, Array.toList_setIfInBounds]
  generalize d[j]! = x at *
  generalize d[j + 1]! = y at *
  rw [e]; rw [List.set_append_right _ _ (by omega), show j + 1 - a.length = 1 by omega, List.set_append_right _ _ (by omega), show j - a.length = 0 by omega]; rfl
theorem swp_size (d : Array α) (i j : Nat) : (Go.Sort.swp d i j).size = d.size := by simp [Go.Sort.swp]
theorem inner_filter (lt : α → α → Bool) (q : α → Bool) (hq : ∀ x y, lt x y = true → q x = true → q y = true → False) (a : Nat) : ∀ (j : Nat) (d : Array α), j < d.size → (Go.Sort.insInner lt a j d).toList.filter q = d.toList.filter q ∧ (Go.Sort.insInner lt a j d).size = d.size
  | 0, d, _ => ⟨rfl, rfl⟩
  | j + 1, d, h => by
    rw [Go.Sort.insInner]
    by_cases c : (decide (j + 1 > a) && lt d[j + 1]! d[j]!) = true
    · rw [if_pos c]
      rw [Bool.and_eq_true] at c; obtain ⟨l, r, e1, e2⟩ := swp_split d j h; have ih := inner_filter lt q hq a j (Go.Sort.swp d (j + 1) j) (by rw [swp_size]; omega); refine ⟨ih.1.trans ?_, ih.2.trans (swp_size _ _ _)⟩; rw [e1, e2, List.filter_append, List.filter_append]
      congr 1
      have := hq _ _ c.2; simp only [List.filter_cons]
      cases h1 : q d[j]! <;> cases h2 : q d[j + 1]! <;> simp_all
    · rw [if_neg c]
      exact ⟨rfl, rfl⟩
theorem outer_filter (lt : α → α → Bool) (q : α → Bool) (hq : ∀ x y, lt x y = true → q x = true → q y = true → False) (a b : Nat) : ∀ (n i : Nat) (d : Array α), b - i ≤ n → b ≤ d.size → (Go.Sort.insOuter lt a b i d).toList.filter q = d.toList.filter q
  | 0, i, d, h, hb => by
    rw [Go.Sort.insOuter, if_neg (by omega)]
  | n + 1, i, d, h, hb => by
    rw [Go.Sort.insOuter]
    by_cases c : i < b
    · rw [if_pos c]
      have := inner_filter lt q hq a i d (by omega); exact (outer_filter lt q hq a b n (i + 1) _ (by omega) (by rw [this.2]; exact hb)).trans this.1
    · rw [if_neg c]
theorem insertion_filter (lt : α → α → Bool) (q : α → Bool) (hq : ∀ x y, lt x y = true → q x = true → q y = true → False) (l : List α) : (Go.Sort.insertionSort lt l.toArray 0 l.length).toList.filter q = l.filter q := by
  have := outer_filter lt q hq 0 l.length l.length 1 l.toArray (by omega) (by simp)
  simpa [Go.Sort.insertionSort] using this
theorem insertion_sorted (lt : α → α → Bool) (h : Go.Sort.SWO lt) (l : List α) : (Go.Sort.insertionSort lt l.toArray 0 l.length).toList.Pairwise (fun x y => lt y x = false) := by
  obtain ⟨⟨hs, _, _⟩, hp⟩ := Go.Sort.insertionSort_holds h l.toArray 0 l.length (Nat.zero_le _) (by simp); rw [List.pairwise_iff_getElem]; intro i j hi hj hij
  have hsz : (Go.Sort.insertionSort lt l.toArray 0 l.length).size = l.length := by rw [hs]; simp
  have hj' : j < (Go.Sort.insertionSort lt l.toArray 0 l.length).size := by simpa using hj
  have := hp i j (Nat.zero_le _) hij (by omega); rw [getElem!_pos _ j hj', getElem!_pos _ i (by omega)] at this
  simpa using this
end
def Ev {α : Type} (f : Nat → Option α) (v : α) : Prop := ∃ K, ∀ k, K ≤ k → f k = some v
theorem Ev.from {α : Type} {f : Nat → Option α} {v : α} (K : Nat) (h : ∀ k, K ≤ k → f k = some v) : Ev f v := ⟨K, h⟩
theorem Ev.pure {α : Type} (v : α) : Ev (fun _ => some v) v := ⟨0, fun _ _ => rfl⟩
theorem Ev.step {α : Type} {f g : Nat → Option α} {v : α} (e : ∀ k, f (k + 1) = g k) (h : Ev g v) : Ev f v := by
  obtain ⟨K, h⟩ := h; refine ⟨K + 1, fun k hk => ?_⟩
  obtain ⟨j, rfl⟩ : ∃ j, k = j + 1 := ⟨k - 1, by omega⟩
  rw [e, h j (by omega)]
theorem Ev.congr {α : Type} {f g : Nat → Option α} {v : α} (e : ∀ k, f k = g k) (h : Ev g v) : Ev f v := by
  obtain ⟨K, h⟩ := h; exact ⟨K, fun k hk => (e k).trans (h k hk)⟩
theorem Ev.bind {α β : Type} {g : Nat → Option β} {h : Nat → β → Option α} {a : β} {v : α} (hg : Ev g a) (hh : Ev (fun k => h k a) v) : Ev (fun k => (g k).bind (h k)) v := by
  obtain ⟨K, hg⟩ := hg; obtain ⟨K', hh⟩ := hh; refine ⟨K + K', fun k hk => ?_⟩
  show (g k).bind (h k) = some v
  rw [hg k (by omega), Option.bind_some]; exact hh k (by omega)
section
variable {α : Type} [Inhabited α]
def selLeast (less : α → α → Bool) (l : List α) : Nat → Nat → Nat → Nat
  | 0, m, _ => m
  | n + 1, m, i => selLeast less l n (if less l[i]! l[m]! then i else m) (i + 1)
theorem selLeast_spec (less : α → α → Bool) (hi : ∀ x, less x x = false) (ht : ∀ x y z, less x y = true → less y z = true → less x z = true) (l : List α) : ∀ (n m i : Nat), n + i = l.length → m < i → 0 < i → (∀ j, j < i → less l[j]! l[m]! = false) →
    selLeast less l n m i < l.length ∧ ∀ j, j < l.length → less l[j]! l[selLeast less l n m i]! = false
  | 0, m, i, hn, hm, h0, h => by
    rw [selLeast]; exact ⟨by omega, fun j hj => h j (by omega)⟩
  | n + 1, m, i, hn, hm, h0, h => by
    rw [selLeast]
    by_cases c : less l[i]! l[m]! = true
    · rw [if_pos c]
      refine selLeast_spec less hi ht l n i (i + 1) (by omega) (by omega) (by omega) fun j hj => ?_
      by_cases e : j = i
      · rw [e]; exact hi _
      · rw [Bool.eq_false_iff]
        intro h2; have := h j (by omega); rw [ht _ _ _ h2 c] at this; cases this
    · rw [if_neg c]
      refine selLeast_spec less hi ht l n m (i + 1) (by omega) (by omega) (by omega) fun j hj => ?_
      by_cases e : j = i
      · rw [e]; simpa using c
      · exact h j (by omega)
def selSort (less : α → α → Bool) : Nat → List α → List α → List α
  | 0, _, out => out
  | n + 1, l, out => if l.length > 0 then selSort less n (l.take (selLeast less l (l.length - 1) 0 1) ++ l.drop (selLeast less l (l.length - 1) 0 1 + 1)) (out ++ [l[selLeast less l (l.length - 1) 0 1]!]) else out
theorem sel_split (l : List α) (m : Nat) (h : m < l.length) : l = l.take m ++ l[m]! :: l.drop (m + 1) := by
  rw [getElem!_pos l m h]
  conv => lhs; rw [← List.take_append_drop m l, List.drop_eq_getElem_cons h]
theorem selSort_spec (less : α → α → Bool) (hi : ∀ x, less x x = false) (ht : ∀ x y z, less x y = true → less y z = true → less x z = true) : ∀ (n : Nat) (l out : List α), l.length ≤ n → (out ++ l).Pairwise (fun a b => less a b = true ∨ less b a = true) → out.Pairwise (fun a b => less a b = true) → (∀ a ∈ out, ∀ b ∈ l, less a b = true) →
    (selSort less n l out).Pairwise (fun a b => less a b = true) ∧ ∀ x, x ∈ selSort less n l out ↔ x ∈ out ∨ x ∈ l
  | 0, l, out, hl, _, ho, _ => by
    have : l = [] := List.eq_nil_of_length_eq_zero (by omega); subst this; rw [selSort]; exact ⟨ho, fun x => by simp⟩
  | n + 1, l, out, hl, hd, ho, hol => by
    rw [selSort]
    by_cases c : l.length > 0
    · rw [if_pos c]
      obtain ⟨hm, hleast⟩ := selLeast_spec less hi ht l (l.length - 1) 0 1 (by omega) (by omega) (by omega) (fun j hj => by rw [show j = 0 by omega]; exact hi _)
      generalize selLeast less l (l.length - 1) 0 1 = m at hm hleast ⊢
      have hs := sel_split l m hm
      generalize hx : l[m]! = x at hs hleast ⊢
      generalize ha : l.take m = a at hs ⊢
      generalize hb : l.drop (m + 1) = b at hs ⊢
      have hmem : ∀ y, y ∈ l ↔ y = x ∨ y ∈ a ++ b := fun y => by
        rw [hs]; simp only [List.mem_append, List.mem_cons]; constructor
        · rintro (h | h | h)
          · exact .inr (.inl h)
          · exact .inl h
          · exact .inr (.inr h)
        · rintro (h | h | h)
          · exact .inr (.inl h)
          · exact .inl h
          · exact .inr (.inr h)
      have hlen : (a ++ b).length + 1 = l.length := by rw [hs]; simp; omega
      have hpx : ((out ++ [x]) ++ (a ++ b)).Pairwise (fun p q => less p q = true ∨ less q p = true) := by
        refine List.Pairwise.perm hd ?_ (fun h => h.symm); rw [hs, List.append_assoc]; refine List.Perm.append_left out ?_; exact List.perm_middle
      have hxl : ∀ y ∈ a ++ b, less x y = true := fun y hy => by
        have h1 : less x y = true ∨ less y x = true := by
          rw [List.append_assoc, List.pairwise_append] at hpx; have h2 := hpx.2.1; rw [List.singleton_append, List.pairwise_cons] at h2; exact h2.1 y hy
        rcases h1 with h1 | h1
        · exact h1
        · obtain ⟨j, hj, e⟩ := List.getElem_of_mem ((hmem y).mpr (.inr hy))
          have h3 := hleast j hj; rw [getElem!_pos l j hj, e, h1] at h3; cases h3
      obtain ⟨s1, s2⟩ := selSort_spec less hi ht n (a ++ b) (out ++ [x]) (by omega) hpx (by
        rw [List.pairwise_append]
        exact ⟨ho, List.pairwise_singleton _ _, fun p hp q hq => by rw [List.mem_singleton.mp hq]; exact hol p hp x ((hmem x).mpr (.inl rfl))⟩) (by
        intro p hp q hq
        rcases List.mem_append.mp hp with h | h
        · exact hol p h q ((hmem q).mpr (.inr hq))
        · rw [List.mem_singleton.mp h]; exact hxl q hq)
      refine ⟨s1, fun y => (s2 y).trans ?_⟩; rw [hmem y, List.mem_append, List.mem_singleton, or_assoc]
    · rw [if_neg c]
      have : l = [] := List.eq_nil_of_length_eq_zero (by omega); subst this; exact ⟨ho, fun x => by simp⟩
end
structure S64 where
  f0 : Int
  f1 : (List S33)
  f2 : Int
  f3 : ByteArray
def z64 : S64 := ⟨(0 : Int), ([] : List S33), (0 : Int), (⟨#[]⟩ : ByteArray)⟩
def k64 : Kd S64 := Kd.iso (Kd.pair (Kd.int .i64) (Kd.pair (Kd.slice 33 k33) (Kd.pair (Kd.int .i64) Kd.string))) (fun x : S64 => (x.f0, x.f1, x.f2, x.f3))
theorem k64_open {w : World} {x : S64} {cs : List Value} (h : k64.K w x cs) : ∃ A1 c1, cs = [.int .i64 x.f0, .slice A1 x.f1.length c1, .int .i64 x.f2, .string x.f3] ∧ x.f1.length ≤ c1 ∧ k33.C w A1 x.f1.length x.f1 := by
  obtain ⟨_, _, rfl, rfl, ⟨_, _, rfl, ⟨A1, c1, rfl, l1, g1⟩, ⟨_, _, rfl, rfl, rfl⟩⟩⟩ := h; exact ⟨A1, c1, rfl, l1, g1⟩
theorem k64_mk (w : World) (x : S64) {A1 : Option Addr} {c1 : Nat} (l1 : x.f1.length ≤ c1) (g1 : k33.C w A1 x.f1.length x.f1) : k64.K w x [.int .i64 x.f0, .slice A1 x.f1.length c1, .int .i64 x.f2, .string x.f3] := ⟨[.int .i64 x.f0], [.slice A1 x.f1.length c1, .int .i64 x.f2, .string x.f3], rfl, rfl, ⟨[.slice A1 x.f1.length c1], [.int .i64 x.f2, .string x.f3], rfl, ⟨A1, c1, rfl, l1, g1⟩, ⟨[.int .i64 x.f2], [.string x.f3], rfl, rfl, rfl⟩⟩⟩
structure S41 where
  f0 : Int
  f1 : Int
  f2 : Int
  f3 : ByteArray
  f4 : (List S33)
  f5 : Int
  f6 : (List S31)
  f7 : (List S64)
  f8 : (List Int)
def z41 : S41 := ⟨(0 : Int), (0 : Int), (0 : Int), (⟨#[]⟩ : ByteArray), ([] : List S33), (0 : Int), ([] : List S31), ([] : List S64), ([] : List Int)⟩
def k41 : Kd S41 := Kd.iso (Kd.pair (Kd.int .i64) (Kd.pair (Kd.int .i64) (Kd.pair (Kd.int .i64) (Kd.pair Kd.string (Kd.pair (Kd.slice 33 k33) (Kd.pair (Kd.int .i64) (Kd.pair (Kd.slice 31 k31) (Kd.pair (Kd.slice 64 k64) (Kd.slice 5 (Kd.int .u8)))))))))) (fun x : S41 => (x.f0, x.f1, x.f2, x.f3, x.f4, x.f5, x.f6, x.f7, x.f8))
theorem k41_open {w : World} {x : S41} {cs : List Value} (h : k41.K w x cs) : ∃ A4 c4 A6 c6 A7 c7 A8 c8, cs = [.int .i64 x.f0, .int .i64 x.f1, .int .i64 x.f2, .string x.f3, .slice A4 x.f4.length c4, .int .i64 x.f5, .slice A6 x.f6.length c6, .slice A7 x.f7.length c7, .slice A8 x.f8.length c8] ∧ x.f4.length ≤ c4 ∧ k33.C w A4 x.f4.length x.f4 ∧ x.f6.length ≤ c6 ∧ k31.C w A6 x.f6.length x.f6 ∧ x.f7.length ≤ c7 ∧ k64.C w A7 x.f7.length x.f7 ∧ x.f8.length ≤ c8 ∧ (Kd.int .u8).C w A8 x.f8.length x.f8 := by
  obtain ⟨_, _, rfl, rfl, ⟨_, _, rfl, rfl, ⟨_, _, rfl, rfl, ⟨_, _, rfl, rfl, ⟨_, _, rfl, ⟨A4, c4, rfl, l4, g4⟩, ⟨_, _, rfl, rfl, ⟨_, _, rfl, ⟨A6, c6, rfl, l6, g6⟩, ⟨_, _, rfl, ⟨A7, c7, rfl, l7, g7⟩, ⟨A8, c8, rfl, l8, g8⟩⟩⟩⟩⟩⟩⟩⟩⟩ := h; exact ⟨A4, c4, A6, c6, A7, c7, A8, c8, rfl, l4, g4, l6, g6, l7, g7, l8, g8⟩
theorem k41_mk (w : World) (x : S41) {A4 : Option Addr} {c4 : Nat} (l4 : x.f4.length ≤ c4) (g4 : k33.C w A4 x.f4.length x.f4) {A6 : Option Addr} {c6 : Nat} (l6 : x.f6.length ≤ c6) (g6 : k31.C w A6 x.f6.length x.f6) {A7 : Option Addr} {c7 : Nat} (l7 : x.f7.length ≤ c7) (g7 : k64.C w A7 x.f7.length x.f7) {A8 : Option Addr} {c8 : Nat} (l8 : x.f8.length ≤ c8) (g8 : (Kd.int .u8).C w A8 x.f8.length x.f8) : k41.K w x [.int .i64 x.f0, .int .i64 x.f1, .int .i64 x.f2, .string x.f3, .slice A4 x.f4.length c4, .int .i64 x.f5, .slice A6 x.f6.length c6, .slice A7 x.f7.length c7, .slice A8 x.f8.length c8] := ⟨[.int .i64 x.f0], [.int .i64 x.f1, .int .i64 x.f2, .string x.f3, .slice A4 x.f4.length c4, .int .i64 x.f5, .slice A6 x.f6.length c6, .slice A7 x.f7.length c7, .slice A8 x.f8.length c8], rfl, rfl, ⟨[.int .i64 x.f1], [.int .i64 x.f2, .string x.f3, .slice A4 x.f4.length c4, .int .i64 x.f5, .slice A6 x.f6.length c6, .slice A7 x.f7.length c7, .slice A8 x.f8.length c8], rfl, rfl, ⟨[.int .i64 x.f2], [.string x.f3, .slice A4 x.f4.length c4, .int .i64 x.f5, .slice A6 x.f6.length c6, .slice A7 x.f7.length c7, .slice A8 x.f8.length c8], rfl, rfl, ⟨[.string x.f3], [.slice A4 x.f4.length c4, .int .i64 x.f5, .slice A6 x.f6.length c6, .slice A7 x.f7.length c7, .slice A8 x.f8.length c8], rfl, rfl, ⟨[.slice A4 x.f4.length c4], [.int .i64 x.f5, .slice A6 x.f6.length c6, .slice A7 x.f7.length c7, .slice A8 x.f8.length c8], rfl, ⟨A4, c4, rfl, l4, g4⟩, ⟨[.int .i64 x.f5], [.slice A6 x.f6.length c6, .slice A7 x.f7.length c7, .slice A8 x.f8.length c8], rfl, rfl, ⟨[.slice A6 x.f6.length c6], [.slice A7 x.f7.length c7, .slice A8 x.f8.length c8], rfl, ⟨A6, c6, rfl, l6, g6⟩, ⟨[.slice A7 x.f7.length c7], [.slice A8 x.f8.length c8], rfl, ⟨A7, c7, rfl, l7, g7⟩, ⟨A8, c8, rfl, l8, g8⟩⟩⟩⟩⟩⟩⟩⟩⟩
structure S43 where
  f0 : Int
  f1 : S35
  f2 : Int
  f3 : ByteArray
  f4 : (List S33)
  f5 : ByteArray
  f6 : S41
  f7 : Int
def z43 : S43 := ⟨(0 : Int), z35, (0 : Int), (⟨#[]⟩ : ByteArray), ([] : List S33), (⟨#[]⟩ : ByteArray), z41, (0 : Int)⟩
def k43 : Kd S43 := Kd.iso (Kd.pair (Kd.int .i64) (Kd.pair k35 (Kd.pair (Kd.int .i64) (Kd.pair Kd.string (Kd.pair (Kd.slice 33 k33) (Kd.pair Kd.string (Kd.pair k41 (Kd.int .i64)))))))) (fun x : S43 => (x.f0, x.f1, x.f2, x.f3, x.f4, x.f5, x.f6, x.f7))
theorem k43_open {w : World} {x : S43} {cs : List Value} (h : k43.K w x cs) : ∃ A12 c12 A18 c18 A20 c20 A21 c21 A22 c22, cs = [.int .i64 x.f0, .int .i64 x.f1.f0.f0, .int .i64 x.f1.f0.f1, .string x.f1.f1, .int .i64 x.f1.f2, .string x.f1.f3, .string x.f1.f4.f0, .string x.f1.f4.f1, .string x.f1.f5.f0, .string x.f1.f5.f1, .int .i64 x.f2, .string x.f3, .slice A12 x.f4.length c12, .string x.f5, .int .i64 x.f6.f0, .int .i64 x.f6.f1, .int .i64 x.f6.f2, .string x.f6.f3, .slice A18 x.f6.f4.length c18, .int .i64 x.f6.f5, .slice A20 x.f6.f6.length c20, .slice A21 x.f6.f7.length c21, .slice A22 x.f6.f8.length c22, .int .i64 x.f7] ∧ x.f4.length ≤ c12 ∧ k33.C w A12 x.f4.length x.f4 ∧ x.f6.f4.length ≤ c18 ∧ k33.C w A18 x.f6.f4.length x.f6.f4 ∧ x.f6.f6.length ≤ c20 ∧ k31.C w A20 x.f6.f6.length x.f6.f6 ∧ x.f6.f7.length ≤ c21 ∧ k64.C w A21 x.f6.f7.length x.f6.f7 ∧ x.f6.f8.length ≤ c22 ∧ (Kd.int .u8).C w A22 x.f6.f8.length x.f6.f8 := by
  obtain ⟨_, _, rfl, rfl, ⟨_, _, rfl, s1, ⟨_, _, rfl, rfl, ⟨_, _, rfl, rfl, ⟨_, _, rfl, ⟨A12, c12, rfl, l12, g12⟩, ⟨_, _, rfl, rfl, ⟨_, _, rfl, s14, rfl⟩⟩⟩⟩⟩⟩⟩ := h; obtain rfl := k35_open s1; obtain ⟨A18, c18, A20, c20, A21, c21, A22, c22, rfl, l18, g18, l20, g20, l21, g21, l22, g22⟩ := k41_open s14; exact ⟨A12, c12, A18, c18, A20, c20, A21, c21, A22, c22, rfl, l12, g12, l18, g18, l20, g20, l21, g21, l22, g22⟩
theorem k43_mk (w : World) (x : S43) {A12 : Option Addr} {c12 : Nat} (l12 : x.f4.length ≤ c12) (g12 : k33.C w A12 x.f4.length x.f4) {A18 : Option Addr} {c18 : Nat} (l18 : x.f6.f4.length ≤ c18) (g18 : k33.C w A18 x.f6.f4.length x.f6.f4) {A20 : Option Addr} {c20 : Nat} (l20 : x.f6.f6.length ≤ c20) (g20 : k31.C w A20 x.f6.f6.length x.f6.f6) {A21 : Option Addr} {c21 : Nat} (l21 : x.f6.f7.length ≤ c21) (g21 : k64.C w A21 x.f6.f7.length x.f6.f7) {A22 : Option Addr} {c22 : Nat} (l22 : x.f6.f8.length ≤ c22) (g22 : (Kd.int .u8).C w A22 x.f6.f8.length x.f6.f8) : k43.K w x [.int .i64 x.f0, .int .i64 x.f1.f0.f0, .int .i64 x.f1.f0.f1, .string x.f1.f1, .int .i64 x.f1.f2, .string x.f1.f3, .string x.f1.f4.f0, .string x.f1.f4.f1, .string x.f1.f5.f0, .string x.f1.f5.f1, .int .i64 x.f2, .string x.f3, .slice A12 x.f4.length c12, .string x.f5, .int .i64 x.f6.f0, .int .i64 x.f6.f1, .int .i64 x.f6.f2, .string x.f6.f3, .slice A18 x.f6.f4.length c18, .int .i64 x.f6.f5, .slice A20 x.f6.f6.length c20, .slice A21 x.f6.f7.length c21, .slice A22 x.f6.f8.length c22, .int .i64 x.f7] := ⟨[.int .i64 x.f0], [.int .i64 x.f1.f0.f0, .int .i64 x.f1.f0.f1, .string x.f1.f1, .int .i64 x.f1.f2, .string x.f1.f3, .string x.f1.f4.f0, .string x.f1.f4.f1, .string x.f1.f5.f0, .string x.f1.f5.f1, .int .i64 x.f2, .string x.f3, .slice A12 x.f4.length c12, .string x.f5, .int .i64 x.f6.f0, .int .i64 x.f6.f1, .int .i64 x.f6.f2, .string x.f6.f3, .slice A18 x.f6.f4.length c18, .int .i64 x.f6.f5, .slice A20 x.f6.f6.length c20, .slice A21 x.f6.f7.length c21, .slice A22 x.f6.f8.length c22, .int .i64 x.f7], rfl, rfl, ⟨[.int .i64 x.f1.f0.f0, .int .i64 x.f1.f0.f1, .string x.f1.f1, .int .i64 x.f1.f2, .string x.f1.f3, .string x.f1.f4.f0, .string x.f1.f4.f1, .string x.f1.f5.f0, .string x.f1.f5.f1], [.int .i64 x.f2, .string x.f3, .slice A12 x.f4.length c12, .string x.f5, .int .i64 x.f6.f0, .int .i64 x.f6.f1, .int .i64 x.f6.f2, .string x.f6.f3, .slice A18 x.f6.f4.length c18, .int .i64 x.f6.f5, .slice A20 x.f6.f6.length c20, .slice A21 x.f6.f7.length c21, .slice A22 x.f6.f8.length c22, .int .i64 x.f7], rfl, (k35_mk w x.f1 ), ⟨[.int .i64 x.f2], [.string x.f3, .slice A12 x.f4.length c12, .string x.f5, .int .i64 x.f6.f0, .int .i64 x.f6.f1, .int .i64 x.f6.f2, .string x.f6.f3, .slice A18 x.f6.f4.length c18, .int .i64 x.f6.f5, .slice A20 x.f6.f6.length c20, .slice A21 x.f6.f7.length c21, .slice A22 x.f6.f8.length c22, .int .i64 x.f7], rfl, rfl, ⟨[.string x.f3], [.slice A12 x.f4.length c12, .string x.f5, .int .i64 x.f6.f0, .int .i64 x.f6.f1, .int .i64 x.f6.f2, .string x.f6.f3, .slice A18 x.f6.f4.length c18, .int .i64 x.f6.f5, .slice A20 x.f6.f6.length c20, .slice A21 x.f6.f7.length c21, .slice A22 x.f6.f8.length c22, .int .i64 x.f7], rfl, rfl, ⟨[.slice A12 x.f4.length c12], [.string x.f5, .int .i64 x.f6.f0, .int .i64 x.f6.f1, .int .i64 x.f6.f2, .string x.f6.f3, .slice A18 x.f6.f4.length c18, .int .i64 x.f6.f5, .slice A20 x.f6.f6.length c20, .slice A21 x.f6.f7.length c21, .slice A22 x.f6.f8.length c22, .int .i64 x.f7], rfl, ⟨A12, c12, rfl, l12, g12⟩, ⟨[.string x.f5], [.int .i64 x.f6.f0, .int .i64 x.f6.f1, .int .i64 x.f6.f2, .string x.f6.f3, .slice A18 x.f6.f4.length c18, .int .i64 x.f6.f5, .slice A20 x.f6.f6.length c20, .slice A21 x.f6.f7.length c21, .slice A22 x.f6.f8.length c22, .int .i64 x.f7], rfl, rfl, ⟨[.int .i64 x.f6.f0, .int .i64 x.f6.f1, .int .i64 x.f6.f2, .string x.f6.f3, .slice A18 x.f6.f4.length c18, .int .i64 x.f6.f5, .slice A20 x.f6.f6.length c20, .slice A21 x.f6.f7.length c21, .slice A22 x.f6.f8.length c22], [.int .i64 x.f7], rfl, (k41_mk w x.f6 l18 g18 l20 g20 l21 g21 l22 g22), rfl⟩⟩⟩⟩⟩⟩⟩
structure S45 where
  f0 : Int
  f1 : Int
  f2 : S41
def z45 : S45 := ⟨(0 : Int), (0 : Int), z41⟩
def k45 : Kd S45 := Kd.iso (Kd.pair (Kd.int .i64) (Kd.pair (Kd.int .i64) k41)) (fun x : S45 => (x.f0, x.f1, x.f2))
theorem k45_open {w : World} {x : S45} {cs : List Value} (h : k45.K w x cs) : ∃ A6 c6 A8 c8 A9 c9 A10 c10, cs = [.int .i64 x.f0, .int .i64 x.f1, .int .i64 x.f2.f0, .int .i64 x.f2.f1, .int .i64 x.f2.f2, .string x.f2.f3, .slice A6 x.f2.f4.length c6, .int .i64 x.f2.f5, .slice A8 x.f2.f6.length c8, .slice A9 x.f2.f7.length c9, .slice A10 x.f2.f8.length c10] ∧ x.f2.f4.length ≤ c6 ∧ k33.C w A6 x.f2.f4.length x.f2.f4 ∧ x.f2.f6.length ≤ c8 ∧ k31.C w A8 x.f2.f6.length x.f2.f6 ∧ x.f2.f7.length ≤ c9 ∧ k64.C w A9 x.f2.f7.length x.f2.f7 ∧ x.f2.f8.length ≤ c10 ∧ (Kd.int .u8).C w A10 x.f2.f8.length x.f2.f8 := by
  obtain ⟨_, _, rfl, rfl, ⟨_, _, rfl, rfl, s2⟩⟩ := h; obtain ⟨A6, c6, A8, c8, A9, c9, A10, c10, rfl, l6, g6, l8, g8, l9, g9, l10, g10⟩ := k41_open s2; exact ⟨A6, c6, A8, c8, A9, c9, A10, c10, rfl, l6, g6, l8, g8, l9, g9, l10, g10⟩
theorem k45_mk (w : World) (x : S45) {A6 : Option Addr} {c6 : Nat} (l6 : x.f2.f4.length ≤ c6) (g6 : k33.C w A6 x.f2.f4.length x.f2.f4) {A8 : Option Addr} {c8 : Nat} (l8 : x.f2.f6.length ≤ c8) (g8 : k31.C w A8 x.f2.f6.length x.f2.f6) {A9 : Option Addr} {c9 : Nat} (l9 : x.f2.f7.length ≤ c9) (g9 : k64.C w A9 x.f2.f7.length x.f2.f7) {A10 : Option Addr} {c10 : Nat} (l10 : x.f2.f8.length ≤ c10) (g10 : (Kd.int .u8).C w A10 x.f2.f8.length x.f2.f8) : k45.K w x [.int .i64 x.f0, .int .i64 x.f1, .int .i64 x.f2.f0, .int .i64 x.f2.f1, .int .i64 x.f2.f2, .string x.f2.f3, .slice A6 x.f2.f4.length c6, .int .i64 x.f2.f5, .slice A8 x.f2.f6.length c8, .slice A9 x.f2.f7.length c9, .slice A10 x.f2.f8.length c10] := ⟨[.int .i64 x.f0], [.int .i64 x.f1, .int .i64 x.f2.f0, .int .i64 x.f2.f1, .int .i64 x.f2.f2, .string x.f2.f3, .slice A6 x.f2.f4.length c6, .int .i64 x.f2.f5, .slice A8 x.f2.f6.length c8, .slice A9 x.f2.f7.length c9, .slice A10 x.f2.f8.length c10], rfl, rfl, ⟨[.int .i64 x.f1], [.int .i64 x.f2.f0, .int .i64 x.f2.f1, .int .i64 x.f2.f2, .string x.f2.f3, .slice A6 x.f2.f4.length c6, .int .i64 x.f2.f5, .slice A8 x.f2.f6.length c8, .slice A9 x.f2.f7.length c9, .slice A10 x.f2.f8.length c10], rfl, rfl, (k41_mk w x.f2 l6 g6 l8 g8 l9 g9 l10 g10)⟩⟩
structure S47 where
  f0 : Int
  f1 : Int
  f2 : S43
  f3 : S45
def z47 : S47 := ⟨(0 : Int), (0 : Int), z43, z45⟩
def k47 : Kd S47 := Kd.iso (Kd.pair (Kd.int .i64) (Kd.pair (Kd.int .i64) (Kd.pair k43 k45))) (fun x : S47 => (x.f0, x.f1, x.f2, x.f3))
theorem QbR {w : World} {x : S47} {cs : List Value} (h : k47.K w x cs) : ∃ A14 c14 A20 c20 A22 c22 A23 c23 A24 c24 A32 c32 A34 c34 A35 c35 A36 c36, cs = [.int .i64 x.f0, .int .i64 x.f1, .int .i64 x.f2.f0, .int .i64 x.f2.f1.f0.f0, .int .i64 x.f2.f1.f0.f1, .string x.f2.f1.f1, .int .i64 x.f2.f1.f2, .string x.f2.f1.f3, .string x.f2.f1.f4.f0, .string x.f2.f1.f4.f1, .string x.f2.f1.f5.f0, .string x.f2.f1.f5.f1, .int .i64 x.f2.f2, .string x.f2.f3, .slice A14 x.f2.f4.length c14, .string x.f2.f5, .int .i64 x.f2.f6.f0, .int .i64 x.f2.f6.f1, .int .i64 x.f2.f6.f2, .string x.f2.f6.f3, .slice A20 x.f2.f6.f4.length c20, .int .i64 x.f2.f6.f5, .slice A22 x.f2.f6.f6.length c22, .slice A23 x.f2.f6.f7.length c23, .slice A24 x.f2.f6.f8.length c24, .int .i64 x.f2.f7, .int .i64 x.f3.f0, .int .i64 x.f3.f1, .int .i64 x.f3.f2.f0, .int .i64 x.f3.f2.f1, .int .i64 x.f3.f2.f2, .string x.f3.f2.f3, .slice A32 x.f3.f2.f4.length c32, .int .i64 x.f3.f2.f5, .slice A34 x.f3.f2.f6.length c34, .slice A35 x.f3.f2.f7.length c35, .slice A36 x.f3.f2.f8.length c36] ∧ x.f2.f4.length ≤ c14 ∧ k33.C w A14 x.f2.f4.length x.f2.f4 ∧ x.f2.f6.f4.length ≤ c20 ∧ k33.C w A20 x.f2.f6.f4.length x.f2.f6.f4 ∧ x.f2.f6.f6.length ≤ c22 ∧ k31.C w A22 x.f2.f6.f6.length x.f2.f6.f6 ∧ x.f2.f6.f7.length ≤ c23 ∧ k64.C w A23 x.f2.f6.f7.length x.f2.f6.f7 ∧ x.f2.f6.f8.length ≤ c24 ∧ (Kd.int .u8).C w A24 x.f2.f6.f8.length x.f2.f6.f8 ∧ x.f3.f2.f4.length ≤ c32 ∧ k33.C w A32 x.f3.f2.f4.length x.f3.f2.f4 ∧ x.f3.f2.f6.length ≤ c34 ∧ k31.C w A34 x.f3.f2.f6.length x.f3.f2.f6 ∧ x.f3.f2.f7.length ≤ c35 ∧ k64.C w A35 x.f3.f2.f7.length x.f3.f2.f7 ∧ x.f3.f2.f8.length ≤ c36 ∧ (Kd.int .u8).C w A36 x.f3.f2.f8.length x.f3.f2.f8 := by
  obtain ⟨_, _, rfl, rfl, ⟨_, _, rfl, rfl, ⟨_, _, rfl, s2, s26⟩⟩⟩ := h; obtain ⟨A14, c14, A20, c20, A22, c22, A23, c23, A24, c24, rfl, l14, g14, l20, g20, l22, g22, l23, g23, l24, g24⟩ := k43_open s2; obtain ⟨A32, c32, A34, c34, A35, c35, A36, c36, rfl, l32, g32, l34, g34, l35, g35, l36, g36⟩ := k45_open s26; exact ⟨A14, c14, A20, c20, A22, c22, A23, c23, A24, c24, A32, c32, A34, c34, A35, c35, A36, c36, rfl, l14, g14, l20, g20, l22, g22, l23, g23, l24, g24, l32, g32, l34, g34, l35, g35, l36, g36⟩
theorem k47_mk (w : World) (x : S47) {A14 : Option Addr} {c14 : Nat} (l14 : x.f2.f4.length ≤ c14) (g14 : k33.C w A14 x.f2.f4.length x.f2.f4) {A20 : Option Addr} {c20 : Nat} (l20 : x.f2.f6.f4.length ≤ c20) (g20 : k33.C w A20 x.f2.f6.f4.length x.f2.f6.f4) {A22 : Option Addr} {c22 : Nat} (l22 : x.f2.f6.f6.length ≤ c22) (g22 : k31.C w A22 x.f2.f6.f6.length x.f2.f6.f6) {A23 : Option Addr} {c23 : Nat} (l23 : x.f2.f6.f7.length ≤ c23) (g23 : k64.C w A23 x.f2.f6.f7.length x.f2.f6.f7) {A24 : Option Addr} {c24 : Nat} (l24 : x.f2.f6.f8.length ≤ c24) (g24 : (Kd.int .u8).C w A24 x.f2.f6.f8.length x.f2.f6.f8) {A32 : Option Addr} {c32 : Nat} (l32 : x.f3.f2.f4.length ≤ c32) (g32 : k33.C w A32 x.f3.f2.f4.length x.f3.f2.f4) {A34 : Option Addr} {c34 : Nat} (l34 : x.f3.f2.f6.length ≤ c34) (g34 : k31.C w A34 x.f3.f2.f6.length x.f3.f2.f6) {A35 : Option Addr} {c35 : Nat} (l35 : x.f3.f2.f7.length ≤ c35) (g35 : k64.C w A35 x.f3.f2.f7.length x.f3.f2.f7) {A36 : Option Addr} {c36 : Nat} (l36 : x.f3.f2.f8.length ≤ c36) (g36 : (Kd.int .u8).C w A36 x.f3.f2.f8.length x.f3.f2.f8) : k47.K w x [.int .i64 x.f0, .int .i64 x.f1, .int .i64 x.f2.f0, .int .i64 x.f2.f1.f0.f0, .int .i64 x.f2.f1.f0.f1, .string x.f2.f1.f1, .int .i64 x.f2.f1.f2, .string x.f2.f1.f3, .string x.f2.f1.f4.f0, .string x.f2.f1.f4.f1, .string x.f2.f1.f5.f0, .string x.f2.f1.f5.f1, .int .i64 x.f2.f2, .string x.f2.f3, .slice A14 x.f2.f4.length c14, .string x.f2.f5, .int .i64 x.f2.f6.f0, .int .i64 x.f2.f6.f1, .int .i64 x.f2.f6.f2, .string x.f2.f6.f3, .slice A20 x.f2.f6.f4.length c20, .int .i64 x.f2.f6.f5, .slice A22 x.f2.f6.f6.length c22, .slice A23 x.f2.f6.f7.length c23, .slice A24 x.f2.f6.f8.length c24, .int .i64 x.f2.f7, .int .i64 x.f3.f0, .int .i64 x.f3.f1, .int .i64 x.f3.f2.f0, .int .i64 x.f3.f2.f1, .int .i64 x.f3.f2.f2, .string x.f3.f2.f3, .slice A32 x.f3.f2.f4.length c32, .int .i64 x.f3.f2.f5, .slice A34 x.f3.f2.f6.length c34, .slice A35 x.f3.f2.f7.length c35, .slice A36 x.f3.f2.f8.length c36] := ⟨[.int .i64 x.f0], [.int .i64 x.f1, .int .i64 x.f2.f0, .int .i64 x.f2.f1.f0.f0, .int .i64 x.f2.f1.f0.f1, .string x.f2.f1.f1, .int .i64 x.f2.f1.f2, .string x.f2.f1.f3, .string x.f2.f1.f4.f0, .string x.f2.f1.f4.f1, .string x.f2.f1.f5.f0, .string x.f2.f1.f5.f1, .int .i64 x.f2.f2, .string x.f2.f3, .slice A14 x.f2.f4.length c14, .string x.f2.f5, .int .i64 x.f2.f6.f0, .int .i64 x.f2.f6.f1, .int .i64 x.f2.f6.f2, .string x.f2.f6.f3, .slice A20 x.f2.f6.f4.length c20, .int .i64 x.f2.f6.f5, .slice A22 x.f2.f6.f6.length c22, .slice A23 x.f2.f6.f7.length c23, .slice A24 x.f2.f6.f8.length c24, .int .i64 x.f2.f7, .int .i64 x.f3.f0, .int .i64 x.f3.f1, .int .i64 x.f3.f2.f0, .int .i64 x.f3.f2.f1, .int .i64 x.f3.f2.f2, .string x.f3.f2.f3, .slice A32 x.f3.f2.f4.length c32, .int .i64 x.f3.f2.f5, .slice A34 x.f3.f2.f6.length c34, .slice A35 x.f3.f2.f7.length c35, .slice A36 x.f3.f2.f8.length c36], rfl, rfl, ⟨[.int .i64 x.f1], [.int .i64 x.f2.f0, .int .i64 x.f2.f1.f0.f0, .int .i64 x.f2.f1.f0.f1, .string x.f2.f1.f1, .int .i64 x.f2.f1.f2, .string x.f2.f1.f3, .string x.f2.f1.f4.f0, .string x.f2.f1.f4.f1, .string x.f2.f1.f5.f0, .string x.f2.f1.f5.f1, .int .i64 x.f2.f2, .string x.f2.f3, .slice A14 x.f2.f4.length c14, .string x.f2.f5, .int .i64 x.f2.f6.f0, .int .i64 x.f2.f6.f1, .int .i64 x.f2.f6.f2, .string x.f2.f6.f3, .slice A20 x.f2.f6.f4.length c20, .int .i64 x.f2.f6.f5, .slice A22 x.f2.f6.f6.length c22, .slice A23 x.f2.f6.f7.length c23, .slice A24 x.f2.f6.f8.length c24, .int .i64 x.f2.f7, .int .i64 x.f3.f0, .int .i64 x.f3.f1, .int .i64 x.f3.f2.f0, .int .i64 x.f3.f2.f1, .int .i64 x.f3.f2.f2, .string x.f3.f2.f3, .slice A32 x.f3.f2.f4.length c32, .int .i64 x.f3.f2.f5, .slice A34 x.f3.f2.f6.length c34, .slice A35 x.f3.f2.f7.length c35, .slice A36 x.f3.f2.f8.length c36], rfl, rfl, ⟨[.int .i64 x.f2.f0, .int .i64 x.f2.f1.f0.f0, .int .i64 x.f2.f1.f0.f1, .string x.f2.f1.f1, .int .i64 x.f2.f1.f2, .string x.f2.f1.f3, .string x.f2.f1.f4.f0, .string x.f2.f1.f4.f1, .string x.f2.f1.f5.f0, .string x.f2.f1.f5.f1, .int .i64 x.f2.f2, .string x.f2.f3, .slice A14 x.f2.f4.length c14, .string x.f2.f5, .int .i64 x.f2.f6.f0, .int .i64 x.f2.f6.f1, .int .i64 x.f2.f6.f2, .string x.f2.f6.f3, .slice A20 x.f2.f6.f4.length c20, .int .i64 x.f2.f6.f5, .slice A22 x.f2.f6.f6.length c22, .slice A23 x.f2.f6.f7.length c23, .slice A24 x.f2.f6.f8.length c24, .int .i64 x.f2.f7], [.int .i64 x.f3.f0, .int .i64 x.f3.f1, .int .i64 x.f3.f2.f0, .int .i64 x.f3.f2.f1, .int .i64 x.f3.f2.f2, .string x.f3.f2.f3, .slice A32 x.f3.f2.f4.length c32, .int .i64 x.f3.f2.f5, .slice A34 x.f3.f2.f6.length c34, .slice A35 x.f3.f2.f7.length c35, .slice A36 x.f3.f2.f8.length c36], rfl, (k43_mk w x.f2 l14 g14 l20 g20 l22 g22 l23 g23 l24 g24), (k45_mk w x.f3 l32 g32 l34 g34 l35 g35 l36 g36)⟩⟩⟩
section
variable {P : Program} {ops : Array Oper} {Q : Exit → Act → World → Prop} {md : Region.Mode} {S : World → Prop} {ds : List Nat}
theorem kb {W : World} {v : Value} {fuel : Nat} {l l' : Array Bool} {a a' : Act} {w : World} {oi : Oper} (i N : Nat) (h : wpAnyLast P md ops Q (fun w' => ∃ u : BW W, w' = u.now) ds fuel l' a' w) (hi : ops[i]? = some oi := by rfl) (hN : oi.dst = some N := by rfl) (hl : l.setIfInBounds i true = l' := by simp only [put_]; rfl) (hc : takeB md ops ds l l' i = true := by kernel_rfl) (hw : Region.wanted oi (yielded ops a.tmps) = true := by rfl) (hy : ∀ w, (∃ u : BW W, w = u.now) → (execOp a.eval oi).run P w = .ok (.value v) w := by rintro _ ⟨u, rfl⟩; go_simp; (with_reducible rfl)) (ha : a.put (some N) v = a' := by simp only [Act.put, put_, Qbe, Qbh]; rfl) (hQ : ∀ c a w, Q (.panic c) (a.put oi.dst v) w → Q (.panic c) a w := by exact fun _ _ _ h => h) (hS : ∃ u : BW W, w = u.now := by assumption) : wpAnyLast P md ops Q (fun w' => ∃ u : BW W, w' = u.now) ds (fuel + 1) l a w :=
  take_ l' hi hN hc hQ (.inl ⟨hw, hy⟩) hS ha h
theorem run_load {P : Program} {oi : Oper} {a : Act} {w : World} {ty : TypeId} {x : Operand} {a0 : Addr} {E : Array Value} {d : TypeDesc} (hc : ∀ j v, E[j]? = some v → w.cell? (a0.add j) = some v) (ho : oi.op = .load ty x) (hx : a.eval x = .pointer (some a0)) (hu : P.underlying ty = some d) (hd : d.isRow = true) (hi : (P.info? ty).map (·.size) = some E.size) : (execOp a.eval oi).run P w = .ok (.value (.agg E)) w := by
  have hr := run_loadAt_cells w a0 ty E.toList d (fun j v hv => hc j v (by simpa using hv)) hu hd (by simpa using hi); rw [Array.toArray_toList] at hr; unfold execOp; simp only [ho, hx, hr, Sem.run_bind, Sem.run_pure, Result.andThen_ok]
theorem QbX {P : Program} {ops : Array Oper} {W : World} {Q : Act → Prop} {o : Oper} {rest : List Oper} {a a' : Act} (N : Nat) (ty : TypeId) (x : Operand) (E : Array Value) (a0 : Addr) (hc : ∀ (u : BW W) j v, E[j]? = some v → u.now.cell? (a0.add j) = some v) (d : TypeDesc) (hu : P.underlying ty = some d) (hd : d.isRow = true) (hi : (P.info? ty).map (·.size) = some E.size)
    (hN : o.dst = some N) (ho : o.op = .load ty x) (hx : a.eval x = .pointer (some a0)) (hw : Region.wanted o (yielded ops a.tmps) = true) (ha : a.put (some N) (.agg E) = a') (h : wpQuiet P ops (fun w' => ∃ u : BW W, w' = u.now) Q rest a') : wpQuiet P ops (fun w' => ∃ u : BW W, w' = u.now) Q (o :: rest) a := by
  refine wpQuiet_step fun K hK => ?_
  rw [if_pos hw]; refine ⟨.agg E, ?_, hK _ (by rw [hN, ha]; exact h)⟩; rintro _ ⟨u, rfl⟩; unfold Oper.quietAt; rw [run_load (hc u) ho hx hu hd hi]; exact ⟨rfl, rfl⟩
theorem run_putNew {P : Program} {oi : Oper} {a : Act} {V : World} {Z : Array Value} {ty : TypeId} {x y : Operand} (ho : oi.op = .store ty x y) (hx : a.eval x = .pointer (some ⟨V.heap.size, 0, none⟩)) (U : Array Value) (hy : a.eval y = .agg U) (hi : (P.info? ty).map (·.size) = some U.size) (hz : Z.size = U.size) (h1 : U.all (·.oneCell') = true) : (execOp a.eval oi).run P (V.alloc (.cells Z ty)) = .ok .skip (V.alloc (.cells U ty)) := by
  unfold execOp; simp only [ho, hx, hy, run_storeAt_new V ty Z U hi hz h1, Sem.run_bind, Sem.run_pure, Result.andThen_ok]
theorem kv {v : Value} {fuel : Nat} {l l' : Array Bool} {a a' : Act} {w w' : World} {oi : Oper} (i N : Nat) (hS : S w') (h : wpAnyLast P md ops Q S ds fuel l' a' w') (hi : ops[i]? = some oi := by rfl) (hN : oi.dst = some N := by rfl) (hl : l.setIfInBounds i true = l' := by simp only [put_]; rfl) (hc : readyB md ops l l' i = true := by kernel_rfl) (hd : i ∉ ds := by decide) (hw : Region.wanted oi (yielded ops a.tmps) = true := by rfl) (hr : (execOp a.eval oi).run P w = .ok (.value v) w' := by go_simp; first | rfl | (constructor <;> rfl)) (ha : a.put (some N) v = a' := by simp only [Act.put, put_, Qbe, Qbh]; rfl) : wpAnyLast P md ops Q S ds (fuel + 1) l a w := by
  refine one_ l' hi hN hc hd fun K hK => ?_
  rw [if_pos hw]; unfold Oper.wp; rw [hr]; exact hK.out _ _ hS (fun _ => by rw [hN, ha]; exact h)
theorem ks {fuel : Nat} {l l' : Array Bool} {a : Act} {w w' : World} {oi : Oper} (i : Nat) (h : wpAnyLast P md ops Q S ds fuel l' a w') (hi : ops[i]? = some oi := by rfl) (hN : oi.dst = none := by rfl) (hl : l.setIfInBounds i true = l' := by simp only [put_]; rfl) (hc : readyB md ops l l' i = true := by kernel_rfl) (hd : i ∈ ds := by decide) (hw : Region.wanted oi (yielded ops a.tmps) = true := by rfl) (hr : (execOp a.eval oi).run P w = .ok .skip w' := by first | (go_simp; done) | (go_simp; rfl)) : wpAnyLast P md ops Q S ds (fuel + 1) l a w := by
  refine last_ l' hi hN hc hd fun K hK => ?_
  rw [if_pos hw]; unfold Oper.wp; rw [hr]; exact hK.out _ _ (by rw [hN]; exact h)
end
theorem k64_openF {W : World} {ok : Nat → Prop} {x : S64} {cs : List Value} (h : Kd.FK k64 W ok x cs) : ∃ A1 c1, cs = [.int .i64 x.f0, .slice A1 x.f1.length c1, .int .i64 x.f2, .string x.f3] ∧ x.f1.length ≤ c1 ∧ Kd.F k33 W ok A1 x.f1.length x.f1 := by
  obtain ⟨A1, c1, rfl, l1, _⟩ := k64_open (Kd.FK_now h); exact ⟨A1, c1, rfl, l1, (fun W' hW => by obtain ⟨A1_, c1_, he, l1_, g1_⟩ := k64_open (h W' hW); injection (Option.some.inj (show some (Value.slice A1 x.f1.length c1) = some (Value.slice A1_ x.f1.length c1_) from congrArg (fun l => l[1]?) he)) with ha_ _ _; rw [ha_]; exact g1_)⟩
theorem k64_mkF (W : World) (ok : Nat → Prop) (x : S64) {A1 : Option Addr} {c1 : Nat} (l1 : x.f1.length ≤ c1) (g1 : Kd.F k33 W ok A1 x.f1.length x.f1) : Kd.FK k64 W ok x [.int .i64 x.f0, .slice A1 x.f1.length c1, .int .i64 x.f2, .string x.f3] := fun W2 hW => k64_mk W2 x l1 (g1 W2 hW)
theorem k41_openF {W : World} {ok : Nat → Prop} {x : S41} {cs : List Value} (h : Kd.FK k41 W ok x cs) : ∃ A4 c4 A6 c6 A7 c7 A8 c8, cs = [.int .i64 x.f0, .int .i64 x.f1, .int .i64 x.f2, .string x.f3, .slice A4 x.f4.length c4, .int .i64 x.f5, .slice A6 x.f6.length c6, .slice A7 x.f7.length c7, .slice A8 x.f8.length c8] ∧ x.f4.length ≤ c4 ∧ Kd.F k33 W ok A4 x.f4.length x.f4 ∧ x.f6.length ≤ c6 ∧ Kd.F k31 W ok A6 x.f6.length x.f6 ∧ x.f7.length ≤ c7 ∧ Kd.F k64 W ok A7 x.f7.length x.f7 ∧ x.f8.length ≤ c8 ∧ Kd.F (Kd.int .u8) W ok A8 x.f8.length x.f8 := by
  obtain ⟨A4, c4, A6, c6, A7, c7, A8, c8, rfl, l4, _, l6, _, l7, _, l8, _⟩ := k41_open (Kd.FK_now h); exact ⟨A4, c4, A6, c6, A7, c7, A8, c8, rfl, l4, (fun W' hW => by obtain ⟨A4_, c4_, A6_, c6_, A7_, c7_, A8_, c8_, he, l4_, g4_, l6_, g6_, l7_, g7_, l8_, g8_⟩ := k41_open (h W' hW); injection (Option.some.inj (show some (Value.slice A4 x.f4.length c4) = some (Value.slice A4_ x.f4.length c4_) from congrArg (fun l => l[4]?) he)) with ha_ _ _; rw [ha_]; exact g4_), l6, (fun W' hW => by obtain ⟨A4_, c4_, A6_, c6_, A7_, c7_, A8_, c8_, he, l4_, g4_, l6_, g6_, l7_, g7_, l8_, g8_⟩ := k41_open (h W' hW); injection (Option.some.inj (show some (Value.slice A6 x.f6.length c6) = some (Value.slice A6_ x.f6.length c6_) from congrArg (fun l => l[6]?) he)) with ha_ _ _; rw [ha_]; exact g6_), l7, (fun W' hW => by obtain ⟨A4_, c4_, A6_, c6_, A7_, c7_, A8_, c8_, he, l4_, g4_, l6_, g6_, l7_, g7_, l8_, g8_⟩ := k41_open (h W' hW); injection (Option.some.inj (show some (Value.slice A7 x.f7.length c7) = some (Value.slice A7_ x.f7.length c7_) from congrArg (fun l => l[7]?) he)) with ha_ _ _; rw [ha_]; exact g7_), l8, (fun W' hW => by obtain ⟨A4_, c4_, A6_, c6_, A7_, c7_, A8_, c8_, he, l4_, g4_, l6_, g6_, l7_, g7_, l8_, g8_⟩ := k41_open (h W' hW); injection (Option.some.inj (show some (Value.slice A8 x.f8.length c8) = some (Value.slice A8_ x.f8.length c8_) from congrArg (fun l => l[8]?) he)) with ha_ _ _; rw [ha_]; exact g8_)⟩
theorem k41_mkF (W : World) (ok : Nat → Prop) (x : S41) {A4 : Option Addr} {c4 : Nat} (l4 : x.f4.length ≤ c4) (g4 : Kd.F k33 W ok A4 x.f4.length x.f4) {A6 : Option Addr} {c6 : Nat} (l6 : x.f6.length ≤ c6) (g6 : Kd.F k31 W ok A6 x.f6.length x.f6) {A7 : Option Addr} {c7 : Nat} (l7 : x.f7.length ≤ c7) (g7 : Kd.F k64 W ok A7 x.f7.length x.f7) {A8 : Option Addr} {c8 : Nat} (l8 : x.f8.length ≤ c8) (g8 : Kd.F (Kd.int .u8) W ok A8 x.f8.length x.f8) : Kd.FK k41 W ok x [.int .i64 x.f0, .int .i64 x.f1, .int .i64 x.f2, .string x.f3, .slice A4 x.f4.length c4, .int .i64 x.f5, .slice A6 x.f6.length c6, .slice A7 x.f7.length c7, .slice A8 x.f8.length c8] := fun W2 hW => k41_mk W2 x l4 (g4 W2 hW) l6 (g6 W2 hW) l7 (g7 W2 hW) l8 (g8 W2 hW)
theorem k47_openF {W : World} {ok : Nat → Prop} {x : S47} {cs : List Value} (h : Kd.FK k47 W ok x cs) : ∃ A14 c14 A20 c20 A22 c22 A23 c23 A24 c24 A32 c32 A34 c34 A35 c35 A36 c36, cs = [.int .i64 x.f0, .int .i64 x.f1, .int .i64 x.f2.f0, .int .i64 x.f2.f1.f0.f0, .int .i64 x.f2.f1.f0.f1, .string x.f2.f1.f1, .int .i64 x.f2.f1.f2, .string x.f2.f1.f3, .string x.f2.f1.f4.f0, .string x.f2.f1.f4.f1, .string x.f2.f1.f5.f0, .string x.f2.f1.f5.f1, .int .i64 x.f2.f2, .string x.f2.f3, .slice A14 x.f2.f4.length c14, .string x.f2.f5, .int .i64 x.f2.f6.f0, .int .i64 x.f2.f6.f1, .int .i64 x.f2.f6.f2, .string x.f2.f6.f3, .slice A20 x.f2.f6.f4.length c20, .int .i64 x.f2.f6.f5, .slice A22 x.f2.f6.f6.length c22, .slice A23 x.f2.f6.f7.length c23, .slice A24 x.f2.f6.f8.length c24, .int .i64 x.f2.f7, .int .i64 x.f3.f0, .int .i64 x.f3.f1, .int .i64 x.f3.f2.f0, .int .i64 x.f3.f2.f1, .int .i64 x.f3.f2.f2, .string x.f3.f2.f3, .slice A32 x.f3.f2.f4.length c32, .int .i64 x.f3.f2.f5, .slice A34 x.f3.f2.f6.length c34, .slice A35 x.f3.f2.f7.length c35, .slice A36 x.f3.f2.f8.length c36] ∧ x.f2.f4.length ≤ c14 ∧ Kd.F k33 W ok A14 x.f2.f4.length x.f2.f4 ∧ x.f2.f6.f4.length ≤ c20 ∧ Kd.F k33 W ok A20 x.f2.f6.f4.length x.f2.f6.f4 ∧ x.f2.f6.f6.length ≤ c22 ∧ Kd.F k31 W ok A22 x.f2.f6.f6.length x.f2.f6.f6 ∧ x.f2.f6.f7.length ≤ c23 ∧ Kd.F k64 W ok A23 x.f2.f6.f7.length x.f2.f6.f7 ∧ x.f2.f6.f8.length ≤ c24 ∧ Kd.F (Kd.int .u8) W ok A24 x.f2.f6.f8.length x.f2.f6.f8 ∧ x.f3.f2.f4.length ≤ c32 ∧ Kd.F k33 W ok A32 x.f3.f2.f4.length x.f3.f2.f4 ∧ x.f3.f2.f6.length ≤ c34 ∧ Kd.F k31 W ok A34 x.f3.f2.f6.length x.f3.f2.f6 ∧ x.f3.f2.f7.length ≤ c35 ∧ Kd.F k64 W ok A35 x.f3.f2.f7.length x.f3.f2.f7 ∧ x.f3.f2.f8.length ≤ c36 ∧ Kd.F (Kd.int .u8) W ok A36 x.f3.f2.f8.length x.f3.f2.f8 := by
  obtain ⟨A14, c14, A20, c20, A22, c22, A23, c23, A24, c24, A32, c32, A34, c34, A35, c35, A36, c36, rfl, l14, _, l20, _, l22, _, l23, _, l24, _, l32, _, l34, _, l35, _, l36, _⟩ := QbR (Kd.FK_now h); exact ⟨A14, c14, A20, c20, A22, c22, A23, c23, A24, c24, A32, c32, A34, c34, A35, c35, A36, c36, rfl, l14, (fun W' hW => by obtain ⟨A14_, c14_, A20_, c20_, A22_, c22_, A23_, c23_, A24_, c24_, A32_, c32_, A34_, c34_, A35_, c35_, A36_, c36_, he, l14_, g14_, l20_, g20_, l22_, g22_, l23_, g23_, l24_, g24_, l32_, g32_, l34_, g34_, l35_, g35_, l36_, g36_⟩ := QbR (h W' hW); injection (Option.some.inj (show some (Value.slice A14 x.f2.f4.length c14) = some (Value.slice A14_ x.f2.f4.length c14_) from congrArg (fun l => l[14]?) he)) with ha_ _ _; rw [ha_]; exact g14_), l20, (fun W' hW => by obtain ⟨A14_, c14_, A20_, c20_, A22_, c22_, A23_, c23_, A24_, c24_, A32_, c32_, A34_, c34_, A35_, c35_, A36_, c36_, he, l14_, g14_, l20_, g20_, l22_, g22_, l23_, g23_, l24_, g24_, l32_, g32_, l34_, g34_, l35_, g35_, l36_, g36_⟩ := QbR (h W' hW); injection (Option.some.inj (show some (Value.slice A20 x.f2.f6.f4.length c20) = some (Value.slice A20_ x.f2.f6.f4.length c20_) from congrArg (fun l => l[20]?) he)) with ha_ _ _; rw [ha_]; exact g20_), l22, (fun W' hW => by obtain ⟨A14_, c14_, A20_, c20_, A22_, c22_, A23_, c23_, A24_, c24_, A32_, c32_, A34_, c34_, A35_, c35_, A36_, c36_, he, l14_, g14_, l20_, g20_, l22_, g22_, l23_, g23_, l24_, g24_, l32_, g32_, l34_, g34_, l35_, g35_, l36_, g36_⟩ := QbR (h W' hW); injection (Option.some.inj (show some (Value.slice A22 x.f2.f6.f6.length c22) = some (Value.slice A22_ x.f2.f6.f6.length c22_) from congrArg (fun l => l[22]?) he)) with ha_ _ _; rw [ha_]; exact g22_), l23, (fun W' hW => by obtain ⟨A14_, c14_, A20_, c20_, A22_, c22_, A23_, c23_, A24_, c24_, A32_, c32_, A34_, c34_, A35_, c35_, A36_, c36_, he, l14_, g14_, l20_, g20_, l22_, g22_, l23_, g23_, l24_, g24_, l32_, g32_, l34_, g34_, l35_, g35_, l36_, g36_⟩ := QbR (h W' hW); injection (Option.some.inj (show some (Value.slice A23 x.f2.f6.f7.length c23) = some (Value.slice A23_ x.f2.f6.f7.length c23_) from congrArg (fun l => l[23]?) he)) with ha_ _ _; rw [ha_]; exact g23_), l24, (fun W' hW => by obtain ⟨A14_, c14_, A20_, c20_, A22_, c22_, A23_, c23_, A24_, c24_, A32_, c32_, A34_, c34_, A35_, c35_, A36_, c36_, he, l14_, g14_, l20_, g20_, l22_, g22_, l23_, g23_, l24_, g24_, l32_, g32_, l34_, g34_, l35_, g35_, l36_, g36_⟩ := QbR (h W' hW); injection (Option.some.inj (show some (Value.slice A24 x.f2.f6.f8.length c24) = some (Value.slice A24_ x.f2.f6.f8.length c24_) from congrArg (fun l => l[24]?) he)) with ha_ _ _; rw [ha_]; exact g24_), l32, (fun W' hW => by obtain ⟨A14_, c14_, A20_, c20_, A22_, c22_, A23_, c23_, A24_, c24_, A32_, c32_, A34_, c34_, A35_, c35_, A36_, c36_, he, l14_, g14_, l20_, g20_, l22_, g22_, l23_, g23_, l24_, g24_, l32_, g32_, l34_, g34_, l35_, g35_, l36_, g36_⟩ := QbR (h W' hW); injection (Option.some.inj (show some (Value.slice A32 x.f3.f2.f4.length c32) = some (Value.slice A32_ x.f3.f2.f4.length c32_) from congrArg (fun l => l[32]?) he)) with ha_ _ _; rw [ha_]; exact g32_), l34, (fun W' hW => by obtain ⟨A14_, c14_, A20_, c20_, A22_, c22_, A23_, c23_, A24_, c24_, A32_, c32_, A34_, c34_, A35_, c35_, A36_, c36_, he, l14_, g14_, l20_, g20_, l22_, g22_, l23_, g23_, l24_, g24_, l32_, g32_, l34_, g34_, l35_, g35_, l36_, g36_⟩ := QbR (h W' hW); injection (Option.some.inj (show some (Value.slice A34 x.f3.f2.f6.length c34) = some (Value.slice A34_ x.f3.f2.f6.length c34_) from congrArg (fun l => l[34]?) he)) with ha_ _ _; rw [ha_]; exact g34_), l35, (fun W' hW => by obtain ⟨A14_, c14_, A20_, c20_, A22_, c22_, A23_, c23_, A24_, c24_, A32_, c32_, A34_, c34_, A35_, c35_, A36_, c36_, he, l14_, g14_, l20_, g20_, l22_, g22_, l23_, g23_, l24_, g24_, l32_, g32_, l34_, g34_, l35_, g35_, l36_, g36_⟩ := QbR (h W' hW); injection (Option.some.inj (show some (Value.slice A35 x.f3.f2.f7.length c35) = some (Value.slice A35_ x.f3.f2.f7.length c35_) from congrArg (fun l => l[35]?) he)) with ha_ _ _; rw [ha_]; exact g35_), l36, (fun W' hW => by obtain ⟨A14_, c14_, A20_, c20_, A22_, c22_, A23_, c23_, A24_, c24_, A32_, c32_, A34_, c34_, A35_, c35_, A36_, c36_, he, l14_, g14_, l20_, g20_, l22_, g22_, l23_, g23_, l24_, g24_, l32_, g32_, l34_, g34_, l35_, g35_, l36_, g36_⟩ := QbR (h W' hW); injection (Option.some.inj (show some (Value.slice A36 x.f3.f2.f8.length c36) = some (Value.slice A36_ x.f3.f2.f8.length c36_) from congrArg (fun l => l[36]?) he)) with ha_ _ _; rw [ha_]; exact g36_)⟩
theorem k47_mkF (W : World) (ok : Nat → Prop) (x : S47) {A14 : Option Addr} {c14 : Nat} (l14 : x.f2.f4.length ≤ c14) (g14 : Kd.F k33 W ok A14 x.f2.f4.length x.f2.f4) {A20 : Option Addr} {c20 : Nat} (l20 : x.f2.f6.f4.length ≤ c20) (g20 : Kd.F k33 W ok A20 x.f2.f6.f4.length x.f2.f6.f4) {A22 : Option Addr} {c22 : Nat} (l22 : x.f2.f6.f6.length ≤ c22) (g22 : Kd.F k31 W ok A22 x.f2.f6.f6.length x.f2.f6.f6) {A23 : Option Addr} {c23 : Nat} (l23 : x.f2.f6.f7.length ≤ c23) (g23 : Kd.F k64 W ok A23 x.f2.f6.f7.length x.f2.f6.f7) {A24 : Option Addr} {c24 : Nat} (l24 : x.f2.f6.f8.length ≤ c24) (g24 : Kd.F (Kd.int .u8) W ok A24 x.f2.f6.f8.length x.f2.f6.f8) {A32 : Option Addr} {c32 : Nat} (l32 : x.f3.f2.f4.length ≤ c32) (g32 : Kd.F k33 W ok A32 x.f3.f2.f4.length x.f3.f2.f4) {A34 : Option Addr} {c34 : Nat} (l34 : x.f3.f2.f6.length ≤ c34) (g34 : Kd.F k31 W ok A34 x.f3.f2.f6.length x.f3.f2.f6) {A35 : Option Addr} {c35 : Nat} (l35 : x.f3.f2.f7.length ≤ c35) (g35 : Kd.F k64 W ok A35 x.f3.f2.f7.length x.f3.f2.f7) {A36 : Option Addr} {c36 : Nat} (l36 : x.f3.f2.f8.length ≤ c36) (g36 : Kd.F (Kd.int .u8) W ok A36 x.f3.f2.f8.length x.f3.f2.f8) : Kd.FK k47 W ok x [.int .i64 x.f0, .int .i64 x.f1, .int .i64 x.f2.f0, .int .i64 x.f2.f1.f0.f0, .int .i64 x.f2.f1.f0.f1, .string x.f2.f1.f1, .int .i64 x.f2.f1.f2, .string x.f2.f1.f3, .string x.f2.f1.f4.f0, .string x.f2.f1.f4.f1, .string x.f2.f1.f5.f0, .string x.f2.f1.f5.f1, .int .i64 x.f2.f2, .string x.f2.f3, .slice A14 x.f2.f4.length c14, .string x.f2.f5, .int .i64 x.f2.f6.f0, .int .i64 x.f2.f6.f1, .int .i64 x.f2.f6.f2, .string x.f2.f6.f3, .slice A20 x.f2.f6.f4.length c20, .int .i64 x.f2.f6.f5, .slice A22 x.f2.f6.f6.length c22, .slice A23 x.f2.f6.f7.length c23, .slice A24 x.f2.f6.f8.length c24, .int .i64 x.f2.f7, .int .i64 x.f3.f0, .int .i64 x.f3.f1, .int .i64 x.f3.f2.f0, .int .i64 x.f3.f2.f1, .int .i64 x.f3.f2.f2, .string x.f3.f2.f3, .slice A32 x.f3.f2.f4.length c32, .int .i64 x.f3.f2.f5, .slice A34 x.f3.f2.f6.length c34, .slice A35 x.f3.f2.f7.length c35, .slice A36 x.f3.f2.f8.length c36] := fun W2 hW => k47_mk W2 x l14 (g14 W2 hW) l20 (g20 W2 hW) l22 (g22 W2 hW) l23 (g23 W2 hW) l24 (g24 W2 hW) l32 (g32 W2 hW) l34 (g34 W2 hW) l35 (g35 W2 hW) l36 (g36 W2 hW)
end Go.Proofs.YtbjjonpkmplhbaaGreatDoor.Pr
end
