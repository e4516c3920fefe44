/- The proof's own texts, joined: part 3. No conditions. -/
import Derived.Test.YtbjjonpkmplhbaaGreatDoorProg
import Derived.Below
import Derived.Deep.Draws
import Derived.Deep.AppendLies
import Derived.Maps.AppendAt
import Derived.OwnWalk
import Derived.Laws.BytesArg
import Derived.Laws.MakeOwn
import Derived.Laws.OwnMore
import Derived.Deep.OwnRows
import Derived.Tactics
import Derived.Lib.ConvBytes
import Derived.Laws.Slices
import Derived.WalkKit
import Derived.KernelRfl
import Derived.RowKit3
import Derived.Deep.LoopGhost
import Derived.Deep.QuietTactic
import Derived.BigQuiet
import Derived.WideLaws
import Derived.Deep.DeepCutAuto
import Derived.Deep.CutBlock
import Derived.Deep.RegionHeld3
import Derived.Laws.Rows
import Derived.Lib.AppendStr
import Derived.ArgAppend
import Derived.Laws.IdiomCopy
import Derived.OrdersHeld
import Derived.Laws.BitsLemmas
import Derived.RowKit
import Derived.Laws.StructEq
import Derived.Test.YtbjjonpkmplhbaaGreatDoorPSaid0
import Derived.Test.YtbjjonpkmplhbaaGreatDoorPSaid1
import Derived.Test.YtbjjonpkmplhbaaGreatDoorPSaid2
section
namespace Go.Proofs.YtbjjonpkmplhbaaGreatDoor.Pr
open Go.RowKit Go.Proofs.YtbjjonpkmplhbaaGreatDoorW.PrintWords Go.Proofs.YtbjjonpkmplhbaaGreatDoorW.PrintLast Go.Proofs.YtbjjonpkmplhbaaGreatDoorW.PrintMore
set_option linter.unusedVariables false
set_option linter.unusedSimpArgs false
section
attribute [local go_sem] QaE QaC QaS QaR Qaw Qav QaD QaB
attribute [local go_sem high] eqA33
mutual
def Qab.l0 : Nat → List (S62) → List (S62) → Int → Int → Int → ByteArray → Int → ByteArray → ByteArray → ByteArray → ByteArray → ByteArray → ByteArray → ByteArray → Option ((List (S62)))
 | 0, _, _, _, _, _, _, _, _, _, _, _, _, _, _ => none
 | k + 1, x1, x6, x7, x102000, x102001, x102002, x102003, x102004, x102005, x102006, x102007, x102008, x105000, x105001 => if x7 < (x1.length : Int) then (if x102003 = 2 then (if 0 ≤ x7 then (Qab.j1 k x1 x6 x7 ((((Qah x1 x7).f0.f0).toList) == x102005.toList && ((((Qah x1 x7).f0.f1).toList) == x102006.toList)) x102000 x102001 x102002 x102003 x102004 x102005 x102006 x102007 x102008 x105000 x105001) else (none)) else (if x102003 = 4 then (if 0 ≤ x7 then (Qab.j1 k x1 x6 x7 ((((Qah x1 x7).f0.f0).toList) == x102005.toList && ((((Qah x1 x7).f0.f1).toList) == x102006.toList)) x102000 x102001 x102002 x102003 x102004 x102005 x102006 x102007 x102008 x105000 x105001) else (none)) else (Qab.j1 k x1 x6 x7 false x102000 x102001 x102002 x102003 x102004 x102005 x102006 x102007 x102008 x105000 x105001))) else (some x6)
def Qab.j1 : Nat → List (S62) → List (S62) → Int → Bool → Int → Int → ByteArray → Int → ByteArray → ByteArray → ByteArray → ByteArray → ByteArray → ByteArray → ByteArray → Option ((List (S62)))
 | 0, _, _, _, _, _, _, _, _, _, _, _, _, _, _, _ => none
 | k + 1, x1, x6, x7, x44, x102000, x102001, x102002, x102003, x102004, x102005, x102006, x102007, x102008, x105000, x105001 => if x44 = true then (if 0 ≤ x7 then (if x7 < (x1.length : Int) then ((Qay.f k x1 x102007 x102008 ((Qah x1 x7).f1)).bind fun t111 => (if x102003 = 2 then (if x6.length < 2932031007402 then (Qab.j2 k x1 (x6 ++ [(⟨(⟨x105000, x105001⟩ : S33), (Qah x1 x7).f1⟩ : S62)]) x7 x102000 x102001 x102002 x102003 x102004 x102005 x102006 x102007 x102008 x105000 x105001) else (none)) else (if t111 = true then (if x6.length < 2932031007402 then (Qab.j2 k x1 (x6 ++ [(⟨(⟨x105000, x105001⟩ : S33), (Qah x1 x7).f1⟩ : S62)]) x7 x102000 x102001 x102002 x102003 x102004 x102005 x102006 x102007 x102008 x105000 x105001) else (none)) else (Qab.j2 k x1 x6 x7 x102000 x102001 x102002 x102003 x102004 x102005 x102006 x102007 x102008 x105000 x105001)))) else (none)) else (none)) else (Qab.j2 k x1 x6 x7 x102000 x102001 x102002 x102003 x102004 x102005 x102006 x102007 x102008 x105000 x105001)
def Qab.j2 : Nat → List (S62) → List (S62) → Int → Int → Int → ByteArray → Int → ByteArray → ByteArray → ByteArray → ByteArray → ByteArray → ByteArray → ByteArray → Option ((List (S62)))
 | 0, _, _, _, _, _, _, _, _, _, _, _, _, _, _ => none
 | k + 1, x1, x6, x7, x102000, x102001, x102002, x102003, x102004, x102005, x102006, x102007, x102008, x105000, x105001 => if x102003 = 3 then (if 0 ≤ x7 then (if x7 < (x1.length : Int) then ((QaJ.f k x102000 x102001 x102002 x102003 x102004 x102005 x102006 x102007 x102008).bind fun bt121 => (if ((((Qah x1 x7).f0.f0).toList) == bt121.1.toList && ((((Qah x1 x7).f0.f1).toList) == bt121.2.toList)) = true then ((Qaj.f k ((Qah x1 x7).f1)).bind fun t124 => (Qab.j3 k x1 x6 x7 (decide (t124 > 0)) x102000 x102001 x102002 x102003 x102004 x102005 x102006 x102007 x102008 x105000 x105001)) else (Qab.j3 k x1 x6 x7 false x102000 x102001 x102002 x102003 x102004 x102005 x102006 x102007 x102008 x105000 x105001))) else (none)) else (none)) else (Qab.j3 k x1 x6 x7 false x102000 x102001 x102002 x102003 x102004 x102005 x102006 x102007 x102008 x105000 x105001)
def Qab.j3 : Nat → List (S62) → List (S62) → Int → Bool → Int → Int → ByteArray → Int → ByteArray → ByteArray → ByteArray → ByteArray → ByteArray → ByteArray → ByteArray → Option ((List (S62)))
 | 0, _, _, _, _, _, _, _, _, _, _, _, _, _, _, _ => none
 | k + 1, x1, x6, x7, x92, x102000, x102001, x102002, x102003, x102004, x102005, x102006, x102007, x102008, x105000, x105001 => if x92 = true then (if 0 ≤ x7 then (if x7 < (x1.length : Int) then (Qab.l1 k x1 x6 x7 0 x102000 x102001 x102002 x102003 x102004 x102005 x102006 x102007 x102008 x105000 x105001 ((Qah x1 x7).f1) x102008) else (none)) else (none)) else (Qab.l0 k x1 x6 (wrap64 (x7 + 1)) x102000 x102001 x102002 x102003 x102004 x102005 x102006 x102007 x102008 x105000 x105001)
def Qab.l1 : Nat → List (S62) → List (S62) → Int → Int → Int → Int → ByteArray → Int → ByteArray → ByteArray → ByteArray → ByteArray → ByteArray → ByteArray → ByteArray → ByteArray → ByteArray → Option ((List (S62)))
 | 0, _, _, _, _, _, _, _, _, _, _, _, _, _, _, _, _, _ => none
 | k + 1, x1, x6, x7, x10, x102000, x102001, x102002, x102003, x102004, x102005, x102006, x102007, x102008, x105000, x105001, x127000, x127001 => if x10 < (x1.length : Int) then (if 0 ≤ x10 then (if ((((Qah x1 x10).f0.f0).toList) == x127000.toList && ((((Qah x1 x10).f0.f1).toList) == x127001.toList)) = true then (if x6.length < 2932031007402 then (Qab.l1 k x1 (x6 ++ [(⟨(⟨x105000, x105001⟩ : S33), (Qah x1 x10).f1⟩ : S62)]) x7 (wrap64 (x10 + 1)) x102000 x102001 x102002 x102003 x102004 x102005 x102006 x102007 x102008 x105000 x105001 x127000 x127001) else (none)) else (Qab.l1 k x1 x6 x7 (wrap64 (x10 + 1)) x102000 x102001 x102002 x102003 x102004 x102005 x102006 x102007 x102008 x105000 x105001 x127000 x127001)) else (none)) else (Qab.l0 k x1 x6 (wrap64 (x7 + 1)) x102000 x102001 x102002 x102003 x102004 x102005 x102006 x102007 x102008 x105000 x105001)
end
def Qab.f (k : Nat) (a0_0 : Int) (a0_1 : Int) (a0_2 : ByteArray) (a0_3 : Int) (a0_4 : ByteArray) (a0_5 : ByteArray) (a0_6 : ByteArray) (a0_7 : ByteArray) (a0_8 : ByteArray) (l1 : List (S62)) : Option ((List (S62))) := (QaU.f k a0_0 a0_1 a0_2 a0_3 a0_4 a0_5 a0_6 a0_7 a0_8).bind fun bt102 => (if a0_3 = 1 then (some (([(⟨(⟨bt102.1, bt102.2⟩ : S33), a0_4⟩ : S62)] : List (S62)))) else (Qab.l0 k l1 ([] : List (S62)) 0 a0_0 a0_1 a0_2 a0_3 a0_4 a0_5 a0_6 a0_7 a0_8 bt102.1 bt102.2))
def Qab.T8 : Bool × List (List Nat × List Nat) := (true, [([], []), ([0], [0]), ([1], [1]), ([2], [2]), ([3], [3]), ([4, 3], [3, 4]), ([5, 3], [3, 5]), ([3, 6], [3, 6]), ([7, 3], [7]), ([8], [8]), ([8], [8]), ([9, 10, 8], [8, 9, 10]), ([11, 8], [8, 11]), ([12, 8], [8, 12]), ([8], [8]), ([14, 8], [8, 14]), ([13, 15, 8], [8, 13, 15]), ([8, 16], [8, 16])])
def Qab.B8 : List Nat := [0, 1, 3, 7, 15, 31, 63, 127, 255, 511, 511, 2047, 4095, 8191, 511, 16895, 65535, 131071]
theorem Qab.tab8 : rtab .any (opsOf Tryz.f48 8) = Qab.T8 := by kernel_rfl
theorem Qab.bits8 : waitsOk Qab.T8.2 Qab.B8 = true := by kernel_rfl
def Qab.T9 : Bool × List (List Nat × List Nat) := (true, [([], []), ([], []), ([1], [1]), ([], []), ([], []), ([3, 4], [3, 4]), ([5], [5]), ([6], [6]), ([2, 7], [2, 7]), ([0, 8], [0, 8]), ([9, 9, 0, 1, 2, 3, 4, 5, 6, 7, 8, 9], [9])])
def Qab.B9 : List Nat := [0, 0, 2, 0, 0, 24, 56, 120, 254, 511, 1023]
theorem Qab.tab9 : rtab .any (opsOf Tryz.f48 9) = Qab.T9 := by kernel_rfl
theorem Qab.bits9 : waitsOk Qab.T9.2 Qab.B9 = true := by kernel_rfl
def Qab.T11 : Bool × List (List Nat × List Nat) := (true, [([], []), ([], []), ([], []), ([], []), ([2, 3], [2, 3]), ([4], [4]), ([5], [5]), ([1, 6], [1, 6]), ([7], [7]), ([0, 8], [0, 8]), ([9, 9, 0, 1, 2, 3, 4, 5, 6, 7, 8, 9], [0, 9])])
def Qab.B11 : List Nat := [0, 0, 0, 0, 12, 28, 60, 126, 254, 511, 1023]
theorem Qab.tab11 : rtab .any (opsOf Tryz.f48 11) = Qab.T11 := by kernel_rfl
theorem Qab.bits11 : waitsOk Qab.T11.2 Qab.B11 = true := by kernel_rfl
def Qab.T12 : Bool × List (List Nat × List Nat) := (true, [([], []), ([0], [0]), ([1], [1]), ([2], [2]), ([3], [3]), ([3], [3]), ([4, 5, 3], [3, 4, 5]), ([6, 3], [3, 6]), ([7, 3], [3, 7]), ([3], [3]), ([9, 3, 3], [3, 9]), ([8, 10, 3], [3, 8, 10]), ([3, 11], [3, 11]), ([12, 10], [12]), ([13], [13]), ([13], [13]), ([14, 15, 13], [13, 14, 15]), ([16, 13], [13, 16]), ([17, 13], [13, 17]), ([18, 13, 13], [13, 18]), ([19, 13], [13, 19]), ([13, 20], [13, 20])])
def Qab.B12 : List Nat := [0, 1, 3, 7, 15, 15, 63, 127, 255, 15, 527, 2047, 4095, 8191, 16383, 16383, 65535, 131071, 262143, 524287, 1048575, 2097151]
theorem Qab.tab12 : rtab .any (opsOf Tryz.f48 12) = Qab.T12 := by kernel_rfl
theorem Qab.bits12 : waitsOk Qab.T12.2 Qab.B12 = true := by kernel_rfl
def Qab.T13 : Bool × List (List Nat × List Nat) := (true, [([], []), ([], []), ([0, 1], [0, 1]), ([2], [2]), ([3], [3]), ([], []), ([5], [5]), ([6], [6]), ([4, 7], [4, 7]), ([], []), ([9, 8, 0, 1, 2, 3, 4, 5, 6, 7, 8, 9], [8, 9])])
def Qab.B13 : List Nat := [0, 0, 3, 7, 15, 0, 32, 96, 255, 0, 1023]
theorem Qab.tab13 : rtab .any (opsOf Tryz.f48 13) = Qab.T13 := by kernel_rfl
theorem Qab.bits13 : waitsOk Qab.T13.2 Qab.B13 = true := by kernel_rfl
def Qab.T18 : Bool × List (List Nat × List Nat) := (true, [([], []), ([], []), ([], []), ([], []), ([2, 3], [2, 3]), ([4], [4]), ([5], [5]), ([1, 6], [1, 6]), ([7], [7]), ([0, 8], [0, 8]), ([9, 9, 0, 1, 2, 3, 4, 5, 6, 7, 8, 9], [0, 9])])
def Qab.B18 : List Nat := [0, 0, 0, 0, 12, 28, 60, 126, 254, 511, 1023]
theorem Qab.tab18 : rtab .any (opsOf Tryz.f48 18) = Qab.T18 := by kernel_rfl
theorem Qab.bits18 : waitsOk Qab.T18.2 Qab.B18 = true := by kernel_rfl
set_option maxHeartbeats 8000000 in
set_option maxRecDepth 100000 in
theorem Qab.calls (k : Nat) (a0_0 : Int) (a0_1 : Int) (a0_2 : ByteArray) (a0_3 : Int) (a0_4 : ByteArray) (a0_5 : ByteArray) (a0_6 : ByteArray) (a0_7 : ByteArray) (a0_8 : ByteArray) (A1 : Option Addr) (c1 : Nat) (l1 : List (S62)) (r : List (S62)) (w : World) (hr1 : Kd.C k62 w A1 l1.length l1) (hc1 : l1.length ≤ c1) (h : Qab.f k a0_0 a0_1 a0_2 a0_3 a0_4 a0_5 a0_6 a0_7 a0_8 l1 = some r) :
  Calls Tryz.prog 48 #[.agg #[.int .i64 a0_0, .int .i64 a0_1, .string a0_2, .int .i64 a0_3, .string a0_4, .string a0_5, .string a0_6, .string a0_7, .string a0_8], .slice A1 l1.length c1] w fun e w' => ∃ v0_ : Value, e = .returned (v0_) ∧ Kd.R k62 62 w' w.heap.size (fun _ => True) v0_ r ∧ Below w.heap.size w w' := by
 have hu35 := Tryz.underlying35; have hu33 := Tryz.underlying33; have hu62 := Tryz.underlying62; have HR1 := Qaa.mk hr1; have HC1 := Qaa.mk hc1; clear hr1 hc1; have HB := Qaa.mk (Below.refl w.heap.size w); have H : ((QaU.f k a0_0 a0_1 a0_2 a0_3 a0_4 a0_5 a0_6 a0_7 a0_8).bind fun bt102 => (if a0_3 = 1 then (some (([(⟨(⟨bt102.1, bt102.2⟩ : S33), a0_4⟩ : S62)] : List (S62)))) else (Qab.l0 k l1 ([] : List (S62)) 0 a0_0 a0_1 a0_2 a0_3 a0_4 a0_5 a0_6 a0_7 a0_8 bt102.1 bt102.2))) = some r := h; clear h; replace H := Option.bind_eq_some_iff.mp H; obtain ⟨⟨t102, t103⟩, A30, H⟩ := H; replace H : (if a0_3 = 1 then (some (([(⟨(⟨t102, t103⟩ : S33), a0_4⟩ : S62)] : List (S62)))) else (Qab.l0 k l1 ([] : List (S62)) 0 a0_0 a0_1 a0_2 a0_3 a0_4 a0_5 a0_6 a0_7 a0_8 t102 t103)) = some r := H; have A3 := Qaa.mk A30; clear A30
 by_cases c4 : a0_3 = 1
 ·rw [if_pos c4] at H; have c4b0 : (a0_3 == 1) = true := beq_iff_eq.mpr c4; have c4b1 : (a0_3 != 1) = false := bne_eq_false_iff_eq.mpr c4; clear c4
  obtain ⟨y105, hy105⟩ : ∃ y_ : List (S62), y_ = (([(⟨(⟨t102, t103⟩ : S33), a0_4⟩ : S62)] : List (S62))) := ⟨_, rfl⟩
  replace H : (some y105) = some r := by first | (rw [hy105]; with_reducible exact H) | (have H2_ := (Option.bind_some _ _).symm.trans H; rw [hy105]; with_reducible exact H2_) | (have H2_ := (Option.bind_some _ _).symm.trans H; with_reducible exact H2_) | with_reducible exact H | (rw [hy105]; exact H) | exact H
  have Ny105 := Qaa.mk hy105; clear hy105; obtain rfl := Option.some.inj H; go_enter Tryz.func48, Tryz.ntmps48
  go_wp2_with (first | ((with_reducible refine QaA (N := 2) rfl ?_); refine Qax ?hg (N := 2) ?hd (cs := #[.int .i64 a0_0, .int .i64 a0_1, .string a0_2, .int .i64 a0_3, .string a0_4, .string a0_5, .string a0_6, .string a0_7, .string a0_8]) (t := 35) ?hr ?_; (case hd => rfl); (case hg => rfl); (case hr => first | (go_simp; done) | (go_simp; rfl)); intro gb101 hg w5 hbox hb; have BK101 := Qaa.mk (hbox); have GW101 := (gz_ hg : Qaa (w.heap.size ≤ gb101)); have GE101 := (gz_ hg : Qaa (w.heap.size ≤ gb101)); replace HB := Qaa.mk (Qac bw_ hb); clear hb hbox hg; obtain ⟨c6_0, c6_1, c6_2, c6_3, c6_4, c6_5, c6_6, c6_7, c6_8⟩ := QaM BK101.out; obtain ⟨f6_0, f6_1, f6_2, f6_3, f6_4, f6_5, f6_6, f6_7, f6_8⟩ := fz_9 BK101.out) | ((with_reducible refine QaT (f := 62) rfl ?_); refine gL 12 Tryz.func62 #[.agg #[.int .i64 a0_0, .int .i64 a0_1, .string a0_2, .int .i64 a0_3, .string a0_4, .string a0_5, .string a0_6, .string a0_7, .string a0_8]] ?_; (with_reducible refine (QaU.calls k a0_0 a0_1 a0_2 a0_3 a0_4 a0_5 a0_6 a0_7 a0_8 t102 t103 _ A3.out).mono ?_); rintro e w7 ⟨rfl, hb⟩; refine ⟨_, rfl, ?_⟩; replace BK101 := Qaa.mk (Qad (g := gb101) bk_ hb); replace HB := Qaa.mk (Qac bw_ hb); (try clear hb); (try clear hb2); (try clear hk); (try clear hi)) | ((with_reducible refine QaA (N := 5) rfl ?_); refine Qax ?hg (N := 5) ?hd (cs := #[.string (⟨#[]⟩ : ByteArray), .string (⟨#[]⟩ : ByteArray)]) (t := 33) ?hr ?_; (case hd => rfl); (case hg => rfl); (case hr => first | (go_simp; done) | (go_simp; rfl)); intro gb104 hg w8 hbox hb; have BK104 := Qaa.mk (hbox); have GW104 := (gz_ hg : Qaa (w.heap.size ≤ gb104)); have GE104 := (gz_ hg : Qaa (w.heap.size ≤ gb104)); have NB101_104 := (nl_ hg : Qaa (gb101 ≠ gb104)); have NB104_101 := (ng_ hg : Qaa (gb104 ≠ gb101)); replace BK101 := Qaa.mk (Qad (g := gb101) bk_ hb); replace HB := Qaa.mk (Qac bw_ hb); clear hb hbox hg; have hnb9 := NB104_101.out; have hnc9 := NB101_104.out; obtain ⟨c10_0, c10_1⟩ := cz_ss BK104.out; obtain ⟨f10_0, f10_1⟩ := fz_2 BK104.out; obtain ⟨c11_0, c11_1, c11_2, c11_3, c11_4, c11_5, c11_6, c11_7, c11_8⟩ := QaM BK101.out; obtain ⟨f11_0, f11_1, f11_2, f11_3, f11_4, f11_5, f11_6, f11_7, f11_8⟩ := fz_9 BK101.out) | ((with_reducible refine QaA (N := 20) rfl ?_); refine Kd.R_lit k62 _ 62 ?hg (N := 20) ?hd (xs := ([(⟨(⟨t102, t103⟩ : S33), a0_4⟩ : S62)] : List (S62))) (inner := [.string t102, .string t103, .string a0_4]) (ok := fun _ => True) (okp := fun _ => True) ?hr ?hp (fun _ hk => hk) trivial (Below.refl _ _) (Nat.le_refl _) (by simp) ?_; (case hd => rfl); (case hg => rfl); (case hr => first | (go_simp; done) | (go_simp; rfl)); (case hp => exact (Reps.c3 (show Kd.M k62 _ _ _ (⟨(⟨t102, t103⟩ : S33), a0_4⟩ : S62) [.string t102, .string t103, .string a0_4] from (k62_mkM _ _ _ (⟨(⟨t102, t103⟩ : S33), a0_4⟩ : S62) )) (Reps.none _ _))); intro v106 w12 ho13 hb hg_ hnew_; clear hg_ hnew_; (first | rw [← Ny105.out] at ho13 | (simp only [Int.reduceToNat] at ho13; rw [← Ny105.out] at ho13)); have HO107 := Qaa.mk (Kd.QbW ho13 (QaI bw_)); replace BK101 := Qaa.mk (Qad (g := gb101) (o := ob_iisisssss a0_0 a0_1 a0_2 a0_3 a0_4 a0_5 a0_6 a0_7 a0_8 35) bf_ hb); replace BK104 := Qaa.mk (Qad (g := gb104) (o := ob_ss t102 t103 33) (by (with_reducible repeat (first | refine Qat ?_ _ | refine Qan ?_ | refine Qam ?_ _)); refine Qbl (cs := #[.string t102, .string (⟨#[]⟩ : ByteArray)]) ?_ 1 _ rfl; (with_reducible repeat (first | refine Qat ?_ _ | refine Qan ?_ | refine Qam ?_ _)); refine Qbl (cs := #[.string (⟨#[]⟩ : ByteArray), .string (⟨#[]⟩ : ByteArray)]) ?_ 0 _ rfl; (with_reducible repeat (first | refine Qat ?_ _ | refine Qan ?_ | refine Qam ?_ _)); exact BK104.out) hb); replace HB := Qaa.mk (Qac bw_ hb); clear hb ho13))
  go_ret; exact ⟨_, by first | rfl | (simp [Qap, Qao] <;> rfl) | (simp [*, Qap, Qao] <;> rfl), by (with_reducible repeat (first | apply Kd.QaN | apply Kd.QaQ | apply Kd.QaO)); exact HO107.out, bw_⟩
 ·rw [if_neg c4] at H; have c4b0 : (a0_3 == 1) = false := beq_eq_false_iff_ne.mpr c4; have c4b1 : (a0_3 != 1) = true := bne_iff_ne.mpr c4; have H' := Qaa.mk H; clear H; go_enter Tryz.func48, Tryz.ntmps48
  go_wp2_with (first | ((with_reducible refine QaA (N := 2) rfl ?_); refine Qax ?hg (N := 2) ?hd (cs := #[.int .i64 a0_0, .int .i64 a0_1, .string a0_2, .int .i64 a0_3, .string a0_4, .string a0_5, .string a0_6, .string a0_7, .string a0_8]) (t := 35) ?hr ?_; (case hd => rfl); (case hg => rfl); (case hr => first | (go_simp; done) | (go_simp; rfl)); intro gb101 hg w14 hbox hb; have BK101 := Qaa.mk (hbox); have GW101 := (gz_ hg : Qaa (w.heap.size ≤ gb101)); have GE101 := (gz_ hg : Qaa (w.heap.size ≤ gb101)); replace HB := Qaa.mk (Qac bw_ hb); clear hb hbox hg; obtain ⟨c15_0, c15_1, c15_2, c15_3, c15_4, c15_5, c15_6, c15_7, c15_8⟩ := QaM BK101.out; obtain ⟨f15_0, f15_1, f15_2, f15_3, f15_4, f15_5, f15_6, f15_7, f15_8⟩ := fz_9 BK101.out) | ((with_reducible refine QaT (f := 62) rfl ?_); refine gL 12 Tryz.func62 #[.agg #[.int .i64 a0_0, .int .i64 a0_1, .string a0_2, .int .i64 a0_3, .string a0_4, .string a0_5, .string a0_6, .string a0_7, .string a0_8]] ?_; (with_reducible refine (QaU.calls k a0_0 a0_1 a0_2 a0_3 a0_4 a0_5 a0_6 a0_7 a0_8 t102 t103 _ A3.out).mono ?_); rintro e w16 ⟨rfl, hb⟩; refine ⟨_, rfl, ?_⟩; replace BK101 := Qaa.mk (Qad (g := gb101) bk_ hb); replace HB := Qaa.mk (Qac bw_ hb); (try clear hb); (try clear hb2); (try clear hk); (try clear hi)) | ((with_reducible refine QaA (N := 5) rfl ?_); refine Qax ?hg (N := 5) ?hd (cs := #[.string (⟨#[]⟩ : ByteArray), .string (⟨#[]⟩ : ByteArray)]) (t := 33) ?hr ?_; (case hd => rfl); (case hg => rfl); (case hr => first | (go_simp; done) | (go_simp; rfl)); intro gb104 hg w17 hbox hb; have BK104 := Qaa.mk (hbox); have GW104 := (gz_ hg : Qaa (w.heap.size ≤ gb104)); have GE104 := (gz_ hg : Qaa (w.heap.size ≤ gb104)); have NB101_104 := (nl_ hg : Qaa (gb101 ≠ gb104)); have NB104_101 := (ng_ hg : Qaa (gb104 ≠ gb101)); replace BK101 := Qaa.mk (Qad (g := gb101) bk_ hb); replace HB := Qaa.mk (Qac bw_ hb); clear hb hbox hg; have hnb18 := NB104_101.out; have hnc18 := NB101_104.out; obtain ⟨c19_0, c19_1⟩ := cz_ss BK104.out; obtain ⟨f19_0, f19_1⟩ := fz_2 BK104.out; obtain ⟨c20_0, c20_1, c20_2, c20_3, c20_4, c20_5, c20_6, c20_7, c20_8⟩ := QaM BK101.out; obtain ⟨f20_0, f20_1, f20_2, f20_3, f20_4, f20_5, f20_6, f20_7, f20_8⟩ := fz_9 BK101.out))
  go_loopg [6, 7] k (fun kq v6 v7 w' => ∃ (x6_1 : List (S62)) (x7_1 : Int), v7 = .int .i64 x7_1 ∧ Qaa (Qab.l0 kq l1 x6_1 x7_1 a0_0 a0_1 a0_2 a0_3 a0_4 a0_5 a0_6 a0_7 a0_8 t102 t103 = some r) ∧ Qaa (kq ≤ k) ∧ Qaa (Kd.R k62 62 w' w.heap.size (fun _ => True) v6 x6_1) ∧ Qaa (w'.heap[gb101]? = some (.cells #[.int .i64 a0_0, .int .i64 a0_1, .string a0_2, .int .i64 a0_3, .string a0_4, .string a0_5, .string a0_6, .string a0_7, .string a0_8] 35 (0, 0))) ∧ Qaa (w'.heap[gb104]? = some (.cells #[.string t102, .string t103] 33 (0, 0))) ∧ Qaa (Below w.heap.size w w'))
  case atStart => exact ⟨(([] : List (S62))), (0), (by first | rfl | (simp; done) | (simp [*]; done)), H', ⟨Nat.le_refl _⟩, ⟨by first | exact Kd.R_nil _ _ _ _ _ | exact Kd.N_nil _ _ _ _ _ | exact Kd.V_nil _ _ _ _ _ | exact Kd.Q_nil _ _ _ _ _ | exact Kd.S_nil _ _ _ _ _⟩, ⟨by (with_reducible repeat (first | refine Qat ?_ _ | refine Qan ?_ | refine Qam ?_ _)); refine blk_far ?_ NB101_104.out _; (with_reducible repeat (first | refine Qat ?_ _ | refine Qan ?_ | refine Qam ?_ _)); refine blk_far ?_ NB101_104.out _; (with_reducible repeat (first | refine Qat ?_ _ | refine Qan ?_ | refine Qam ?_ _)); exact BK101.out⟩, ⟨by (with_reducible repeat (first | refine Qat ?_ _ | refine Qan ?_ | refine Qam ?_ _)); refine Qbl (cs := #[.string t102, .string (⟨#[]⟩ : ByteArray)]) ?_ 1 _ rfl; (with_reducible repeat (first | refine Qat ?_ _ | refine Qan ?_ | refine Qam ?_ _)); refine Qbl (cs := #[.string (⟨#[]⟩ : ByteArray), .string (⟨#[]⟩ : ByteArray)]) ?_ 0 _ rfl; (with_reducible repeat (first | refine Qat ?_ _ | refine Qan ?_ | refine Qam ?_ _)); exact BK104.out⟩, ⟨bw_⟩⟩
  case round =>
   clear H'; (try clear c1); (try clear p2); (try clear c3); (try clear c4); (try clear c4b0); (try clear c4b1); (try clear c6); (try clear c9); (try clear c18); (try clear c10_0 c10_1); (try clear c11_0 c11_1 c11_2 c11_3 c11_4 c11_5 c11_6 c11_7 c11_8); (try clear c15_0 c15_1 c15_2 c15_3 c15_4 c15_5 c15_6 c15_7 c15_8); (try clear c19_0 c19_1); (try clear c20_0 c20_1 c20_2 c20_3 c20_4 c20_5 c20_6 c20_7 c20_8); (try clear c6_0 c6_1 c6_2 c6_3 c6_4 c6_5 c6_6 c6_7 c6_8); (try clear f10_0 f10_1); (try clear f11_0 f11_1 f11_2 f11_3 f11_4 f11_5 f11_6 f11_7 f11_8); (try clear f15_0 f15_1 f15_2 f15_3 f15_4 f15_5 f15_6 f15_7 f15_8); (try clear f19_0 f19_1); (try clear f20_0 f20_1 f20_2)
   (try clear f20_3 f20_4 f20_5 f20_6 f20_7 f20_8); (try clear f6_0 f6_1 f6_2 f6_3 f6_4 f6_5 f6_6 f6_7 f6_8); obtain ⟨x6_1, x7_1, rfl, HA, HK1, HO_6, BK101, BK104, HB⟩ := hrel
   cases gk with
   | zero => exact absurd HA.out (by simp [Qab.l0])
   | succ k1 =>
    have H := HA.out; clear HA; simp only [Qab.l0] at H
    by_cases c21 : x7_1 < (l1.length : Int)
    ·rw [if_pos c21] at H; have c21b0 : decide (x7_1 < (l1.length : Int)) = true := decide_eq_true c21; clear c21; have HC22 := Qaa.mk H; clear H
     go_upto_region 8 with (fail)
     go_cut [44] (fun v44 wc => ∃ (kq : Nat) (x44_21 : Bool), v44 = .bool x44_21 ∧ Qaa (Qab.j1 kq l1 x6_1 x7_1 x44_21 a0_0 a0_1 a0_2 a0_3 a0_4 a0_5 a0_6 a0_7 a0_8 t102 t103 = some r) ∧ Qaa (kq ≤ k1) ∧ Qaa (Kd.R k62 62 wc w.heap.size (fun _ => True) u6 x6_1) ∧ Qaa (wc.heap[gb101]? = some (.cells #[.int .i64 a0_0, .int .i64 a0_1, .string a0_2, .int .i64 a0_3, .string a0_4, .string a0_5, .string a0_6, .string a0_7, .string a0_8] 35 (0, 0))) ∧ Qaa (wc.heap[gb104]? = some (.cells #[.string t102, .string t103] 33 (0, 0))) ∧ Qaa (Below w.heap.size w wc))
     case first =>
      have H := HC22.out; clear HC22
      by_cases c23 : a0_3 = 2
      ·rw [if_pos c23] at H; have c23b0 : (a0_3 == 2) = true := beq_iff_eq.mpr c23; have c23b1 : (a0_3 != 2) = false := bne_eq_false_iff_eq.mpr c23; clear c23
       (first | rw [c23b0] | (simp only [Qbe, Qbh]; rw [c23b0]) | skip)
       by_cases c24 : 0 ≤ x7_1
       ·rw [if_pos c24] at H; have c24b0 : decide (0 ≤ x7_1) = true := decide_eq_true c24; clear c24; have H' := Qaa.mk H; clear H
        try go_wp2
        replace HO_6 := Qaa.mk (Kd.QaO HO_6.out); replace BK101 := Qaa.mk (Qan BK101.out); replace BK104 := Qaa.mk (Qan BK104.out); replace HB := Qaa.mk (Qau HB.out); have p108 : 0 ≤ (x7_1 : Int) := dd_; have q108 : x7_1 < (l1.length : Int) := dd_; obtain ⟨ad108, e108, hx108_0, hx108_1, hx108_2⟩ := QbL HR1.out x7_1 p108 q108; have hw108_2 := hx108_2; have hw108_1 := hx108_1; have hw108_0 := hx108_0; cases e108; replace hx108_0 := cb_ HB hx108_0; replace hx108_1 := cb_ HB hx108_1; replace hx108_2 := cb_ HB hx108_2; replace p108 := eq_true p108; replace q108 := eq_true q108; refine Qbo (n := 18) (S := fun w' => cg_iisisssss w' gb101 a0_0 a0_1 a0_2 a0_3 a0_4 a0_5 a0_6 a0_7 a0_8 (crl_sss w' (ad108.add ((x7_1).toNat * 3)) ((Qah l1 x7_1).f0.f0) ((Qah l1 x7_1).f0.f1) ((Qah l1 x7_1).f1))) (ds := []) #[ff,ff,ff,ff,ff,ff,ff,ff,ff,ff,ff,ff,ff,ff,ff,ff,ff,ff] (by kernel_rfl) rfl rfl (cw_9 BK101.out ⟨(cb_ HB hw108_0), (cb_ HB hw108_1), (cb_ HB hw108_2)⟩) (fun hHeld => ?_); refine Qa9 Qab.tab8 Qab.bits8 (fun HT_ HW_ => ?_)
        generalize wr.drew = w25 at HO_6 BK101 BK104 HB hx108_0 hx108_1 hx108_2 hHeld ⊢
        refine pz 0 27 ?_; refine tk12 1 28 ?_; refine pz 2 29 ?_; refine pz 3 30 ?_; refine pu 4 31 ?_; refine pu 5 32 ?_; refine pu 6 33 ?_; refine pz 7 34 ?_; refine pz 8 35 ?_; refine pz 9 36 ?_; refine pz 10 37 ?_; refine pz 11 38 ?_; refine pz 12 39 ?_; refine pz 14 41 ?_; refine tk12 13 40 ?_; refine tk12 15 42 ?_; refine pz 16 43 ?_; refine pz 17 44 ?_; refine QbS (Qbz HT_.out (by kernel_rfl)) ?_
        try go_wp2
        go_meet
        case rel => exact ⟨_, (((((Qah l1 x7_1).f0.f0).toList) == a0_5.toList && ((((Qah l1 x7_1).f0.f1).toList) == a0_6.toList))), (by first | rfl | (simp; done) | (simp [*]; done)), H', ⟨by have := HK1.out; first | omega | exact Nat.le_refl _⟩, ⟨by (with_reducible repeat (first | apply Kd.QaN | apply Kd.QaQ | apply Kd.QaO)); exact HO_6.out⟩, ⟨by (with_reducible repeat (first | refine Qat ?_ _ | refine Qan ?_ | refine Qam ?_ _)); exact BK101.out⟩, ⟨by (with_reducible repeat (first | refine Qat ?_ _ | refine Qan ?_ | refine Qam ?_ _)); exact BK104.out⟩, ⟨bw_⟩⟩
       ·rw [if_neg c24] at H; exact absurd H (by simp)
      ·rw [if_neg c23] at H; have c23b0 : (a0_3 == 2) = false := beq_eq_false_iff_ne.mpr c23; have c23b1 : (a0_3 != 2) = true := bne_iff_ne.mpr c23
       (first | rw [c23b0] | (simp only [Qbe, Qbh]; rw [c23b0]) | skip)
       by_cases c26 : a0_3 = 4
       ·rw [if_pos c26] at H; have c26b0 : (a0_3 == 4) = true := beq_iff_eq.mpr c26; have c26b1 : (a0_3 != 4) = false := bne_eq_false_iff_eq.mpr c26; clear c26
        by_cases c27 : 0 ≤ x7_1
        ·rw [if_pos c27] at H; have c27b0 : decide (0 ≤ x7_1) = true := decide_eq_true c27; clear c27; have H' := Qaa.mk H; clear H
         try go_wp2
         replace HO_6 := Qaa.mk (Kd.QaO HO_6.out); replace BK101 := Qaa.mk (Qan BK101.out); replace BK104 := Qaa.mk (Qan BK104.out); replace HB := Qaa.mk (Qau HB.out); have p109 : 0 ≤ (x7_1 : Int) := dd_; have q109 : x7_1 < (l1.length : Int) := dd_; obtain ⟨ad109, e109, hx109_0, hx109_1, hx109_2⟩ := QbL HR1.out x7_1 p109 q109; have hw109_2 := hx109_2; have hw109_1 := hx109_1; have hw109_0 := hx109_0; cases e109; replace hx109_0 := cb_ HB hx109_0; replace hx109_1 := cb_ HB hx109_1; replace hx109_2 := cb_ HB hx109_2; replace p109 := eq_true p109; replace q109 := eq_true q109; refine Qbo (n := 18) (S := fun w' => cg_iisisssss w' gb101 a0_0 a0_1 a0_2 a0_3 a0_4 a0_5 a0_6 a0_7 a0_8 (crl_sss w' (ad109.add ((x7_1).toNat * 3)) ((Qah l1 x7_1).f0.f0) ((Qah l1 x7_1).f0.f1) ((Qah l1 x7_1).f1))) (ds := []) #[ff,ff,ff,ff,ff,ff,ff,ff,ff,ff,ff,ff,ff,ff,ff,ff,ff,ff] (by kernel_rfl) rfl rfl (cw_9 BK101.out ⟨(cb_ HB hw109_0), (cb_ HB hw109_1), (cb_ HB hw109_2)⟩) (fun hHeld => ?_); refine Qa9 Qab.tab8 Qab.bits8 (fun HT_ HW_ => ?_)
         generalize wr.drew = w28 at HO_6 BK101 BK104 HB hx109_0 hx109_1 hx109_2 hHeld ⊢
         refine pz 0 27 ?_; refine tk12 1 28 ?_; refine pz 2 29 ?_; refine pz 3 30 ?_; refine pz 4 31 ?_; refine tk12 5 32 ?_; refine pz 6 33 ?_; refine pz 7 34 ?_; refine pz 8 35 ?_; refine pz 9 36 ?_; refine pz 10 37 ?_; refine pz 11 38 ?_; refine pz 12 39 ?_; refine pz 14 41 ?_; refine tk12 13 40 ?_; refine tk12 15 42 ?_; refine pz 16 43 ?_; refine pz 17 44 ?_; refine QbS (Qbz HT_.out (by kernel_rfl)) ?_
         try go_wp2
         go_meet
         case rel => exact ⟨_, (((((Qah l1 x7_1).f0.f0).toList) == a0_5.toList && ((((Qah l1 x7_1).f0.f1).toList) == a0_6.toList))), (by first | rfl | (simp; done) | (simp [*]; done)), H', ⟨by have := HK1.out; first | omega | exact Nat.le_refl _⟩, ⟨by (with_reducible repeat (first | apply Kd.QaN | apply Kd.QaQ | apply Kd.QaO)); exact HO_6.out⟩, ⟨by (with_reducible repeat (first | refine Qat ?_ _ | refine Qan ?_ | refine Qam ?_ _)); exact BK101.out⟩, ⟨by (with_reducible repeat (first | refine Qat ?_ _ | refine Qan ?_ | refine Qam ?_ _)); exact BK104.out⟩, ⟨bw_⟩⟩
        ·rw [if_neg c27] at H; exact absurd H (by simp)
       ·rw [if_neg c26] at H; have c26b0 : (a0_3 == 4) = false := beq_eq_false_iff_ne.mpr c26; have c26b1 : (a0_3 != 4) = true := bne_iff_ne.mpr c26; have H' := Qaa.mk H; clear H
        try go_wp2
        replace HO_6 := Qaa.mk (Kd.QaO HO_6.out); replace BK101 := Qaa.mk (Qan BK101.out); replace BK104 := Qaa.mk (Qan BK104.out); replace HB := Qaa.mk (Qau HB.out); refine Qbo (n := 18) (S := fun w' => cgl_iisisssss w' gb101 a0_0 a0_1 a0_2 a0_3 a0_4 a0_5 a0_6 a0_7 a0_8) (ds := []) #[ff,ff,ff,ff,ff,ff,ff,ff,ff,ff,ff,ff,ff,ff,ff,ff,ff,ff] (by kernel_rfl) rfl rfl (cl_9 BK101.out) (fun hHeld => ?_); refine Qa9 Qab.tab8 Qab.bits8 (fun HT_ HW_ => ?_)
        generalize wr.drew = w29 at HO_6 BK101 BK104 HB hHeld ⊢
        refine pz 0 27 ?_; refine tk9 1 28 ?_; refine pz 2 29 ?_; refine pz 3 30 ?_; refine pz 4 31 ?_; refine tk9 5 32 ?_; refine pz 6 33 ?_; refine pz 7 34 ?_; refine pz 8 35 ?_; refine pu 9 36 ?_; refine pu 10 37 ?_; refine pu 11 38 ?_; refine pu 12 39 ?_; refine pu 13 40 ?_; refine pu 14 41 ?_; refine pu 15 42 ?_; refine pu 16 43 ?_; refine pz 17 44 ?_; refine QbS (Qbz HT_.out (by kernel_rfl)) ?_
        try go_wp2
        go_meet
        case rel => exact ⟨_, (false), (by first | rfl | (simp; done) | (simp [*]; done)), H', ⟨by have := HK1.out; first | omega | exact Nat.le_refl _⟩, ⟨by (with_reducible repeat (first | apply Kd.QaN | apply Kd.QaQ | apply Kd.QaO)); exact HO_6.out⟩, ⟨by (with_reducible repeat (first | refine Qat ?_ _ | refine Qan ?_ | refine Qam ?_ _)); exact BK101.out⟩, ⟨by (with_reducible repeat (first | refine Qat ?_ _ | refine Qan ?_ | refine Qam ?_ _)); exact BK104.out⟩, ⟨bw_⟩⟩
     case rest =>
      clear HC22; (try clear p1); (try clear q1); (try clear hx1); (try clear c2); (try clear p2); (try clear p10); (try clear q10); (try clear hx10); (try clear c21); (try clear c21b0); (try clear c23); (try clear c23b0); (try clear c23b1); (try clear c24); (try clear c24b0); (try clear c26); (try clear c26b0); (try clear c26b1); (try clear c27); (try clear c27b0); (try clear c11_6 c11_7 c11_8); (try clear c15_0 c15_1 c15_2 c15_3 c15_4 c15_5 c15_6 c15_7 c15_8); (try clear c19_0 c19_1); (try clear c20_0 c20_1 c20_2 c20_3 c20_4 c20_5 c20_6 c20_7 c20_8); (try clear c6_0 c6_1 c6_2 c6_3 c6_4 c6_5 c6_6 c6_7 c6_8); (try clear f10_0 f10_1); (try clear f11_0 f11_1 f11_2 f11_3 f11_4 f11_5 f11_6 f11_7 f11_8); (try clear f15_0 f15_1 f15_2 f15_3 f15_4 f15_5 f15_6 f15_7 f15_8); (try clear f19_0 f19_1); (try clear f20_0)
      (try clear f20_1 f20_2 f20_3 f20_4 f20_5 f20_6 f20_7 f20_8); (try clear f6_0 f6_1 f6_2 f6_3 f6_4 f6_5 f6_6 f6_7 f6_8); (try clear hx108_0); (try clear hx108_1); (try clear hx108_2); (try clear hx109_0); (try clear hx109_1); (try clear hx109_2); (try clear p108); (try clear p109); (try clear q108); (try clear q109); obtain ⟨kq, x44_21, rfl, HA, HJ21, HO_6, BK101, BK104, HB⟩ := hcut
      cases kq with
      | zero => exact absurd HA.out (by simp [Qab.j1])
      | succ kj21 =>
       have H := HA.out; clear HA; simp only [Qab.j1] at H; have HC30 := Qaa.mk H; clear H
       go_upto_if 44 with (fail)
       go_cut [6] (fun v6 wc => ∃ (kq : Nat) (x6_29 : List (S62)), Qaa (Qab.j2 kq l1 x6_29 x7_1 a0_0 a0_1 a0_2 a0_3 a0_4 a0_5 a0_6 a0_7 a0_8 t102 t103 = some r) ∧ Qaa (kq ≤ kj21) ∧ Qaa (Kd.R k62 62 wc w.heap.size (fun _ => True) v6 x6_29) ∧ Qaa (wc.heap[gb101]? = some (.cells #[.int .i64 a0_0, .int .i64 a0_1, .string a0_2, .int .i64 a0_3, .string a0_4, .string a0_5, .string a0_6, .string a0_7, .string a0_8] 35 (0, 0))) ∧ Qaa (wc.heap[gb104]? = some (.cells #[.string t102, .string t103] 33 (0, 0))) ∧ Qaa (Below w.heap.size w wc))
       case first =>
        have H := HC30.out; clear HC30
        by_cases c31 : x44_21 = true
        ·subst c31
         have H1 : (if 0 ≤ x7_1 then (if x7_1 < (l1.length : Int) then ((Qay.f kj21 l1 a0_7 a0_8 ((Qah l1 x7_1).f1)).bind fun t111 => (if a0_3 = 2 then (if x6_1.length < 2932031007402 then (Qab.j2 kj21 l1 (x6_1 ++ [(⟨(⟨t102, t103⟩ : S33), (Qah l1 x7_1).f1⟩ : S62)]) x7_1 a0_0 a0_1 a0_2 a0_3 a0_4 a0_5 a0_6 a0_7 a0_8 t102 t103) else (none)) else (if t111 = true then (if x6_1.length < 2932031007402 then (Qab.j2 kj21 l1 (x6_1 ++ [(⟨(⟨t102, t103⟩ : S33), (Qah l1 x7_1).f1⟩ : S62)]) x7_1 a0_0 a0_1 a0_2 a0_3 a0_4 a0_5 a0_6 a0_7 a0_8 t102 t103) else (none)) else (Qab.j2 kj21 l1 x6_1 x7_1 a0_0 a0_1 a0_2 a0_3 a0_4 a0_5 a0_6 a0_7 a0_8 t102 t103)))) else (none)) else (none)) = some r := by rw [if_pos rfl] at H; exact H
         clear H; have H := H1; clear H1
         by_cases c32 : 0 ≤ x7_1
         ·rw [if_pos c32] at H; have c32b0 : decide (0 ≤ x7_1) = true := decide_eq_true c32; clear c32
          (first | rw [c32b0] | (simp only [Qbe, Qbh]; rw [c32b0]) | skip)
          by_cases c33 : x7_1 < (l1.length : Int)
          ·rw [if_pos c33] at H; have c33b0 : decide (x7_1 < (l1.length : Int)) = true := decide_eq_true c33; clear c33; replace H := Option.bind_eq_some_iff.mp H; obtain ⟨t111, A340, H⟩ := H; replace H : (if a0_3 = 2 then (if x6_1.length < 2932031007402 then (Qab.j2 kj21 l1 (x6_1 ++ [(⟨(⟨t102, t103⟩ : S33), (Qah l1 x7_1).f1⟩ : S62)]) x7_1 a0_0 a0_1 a0_2 a0_3 a0_4 a0_5 a0_6 a0_7 a0_8 t102 t103) else (none)) else (if t111 = true then (if x6_1.length < 2932031007402 then (Qab.j2 kj21 l1 (x6_1 ++ [(⟨(⟨t102, t103⟩ : S33), (Qah l1 x7_1).f1⟩ : S62)]) x7_1 a0_0 a0_1 a0_2 a0_3 a0_4 a0_5 a0_6 a0_7 a0_8 t102 t103) else (none)) else (Qab.j2 kj21 l1 x6_1 x7_1 a0_0 a0_1 a0_2 a0_3 a0_4 a0_5 a0_6 a0_7 a0_8 t102 t103))) = some r := H; have A34 := Qaa.mk A340; clear A340
           by_cases c35 : a0_3 = 2
           ·rw [if_pos c35] at H; have c35b0 : (a0_3 == 2) = true := beq_iff_eq.mpr c35; have c35b1 : (a0_3 != 2) = false := bne_eq_false_iff_eq.mpr c35; clear c35
            by_cases c36 : x6_1.length < 2932031007402
            ·rw [if_pos c36] at H; have LMc36 := Qaa.mk c36; clear c36
             obtain ⟨y113, hy113⟩ : ∃ y_ : List (S62), y_ = (x6_1 ++ [(⟨(⟨t102, t103⟩ : S33), (Qah l1 x7_1).f1⟩ : S62)]) := ⟨_, rfl⟩
             replace H : (Qab.j2 kj21 l1 y113 x7_1 a0_0 a0_1 a0_2 a0_3 a0_4 a0_5 a0_6 a0_7 a0_8 t102 t103) = some r := by first | (rw [hy113]; with_reducible exact H) | (have H2_ := (Option.bind_some _ _).symm.trans H; rw [hy113]; with_reducible exact H2_) | (have H2_ := (Option.bind_some _ _).symm.trans H; with_reducible exact H2_) | with_reducible exact H | (rw [hy113]; exact H) | exact H
             have Ny113 := Qaa.mk hy113; clear hy113; have H' := Qaa.mk H; clear H
             try go_wp2
             replace HO_6 := Qaa.mk (Kd.QaO HO_6.out); replace BK101 := Qaa.mk (Qan BK101.out); replace BK104 := Qaa.mk (Qan BK104.out); replace HB := Qaa.mk (Qau HB.out); have p110 : 0 ≤ (x7_1 : Int) := dd_; have q110 : x7_1 < (l1.length : Int) := dd_; obtain ⟨ad110, e110, hx110_0, hx110_1, hx110_2⟩ := QbL HR1.out x7_1 p110 q110; have hw110_2 := hx110_2; have hw110_1 := hx110_1; have hw110_0 := hx110_0; cases e110; replace hx110_0 := cb_ HB hx110_0; replace hx110_1 := cb_ HB hx110_1; replace hx110_2 := cb_ HB hx110_2; replace p110 := eq_true p110; replace q110 := eq_true q110; refine Qbo (n := 11) (S := fun w' => cg_iisisssss w' gb101 a0_0 a0_1 a0_2 a0_3 a0_4 a0_5 a0_6 a0_7 a0_8 (crl_sss w' (ad110.add ((x7_1).toNat * 3)) ((Qah l1 x7_1).f0.f0) ((Qah l1 x7_1).f0.f1) ((Qah l1 x7_1).f1))) (ds := []) #[ff,ff,ff,ff,ff,ff,ff,ff,ff,ff,ff] (by kernel_rfl) rfl rfl (cw_9 BK101.out ⟨(cb_ HB hw110_0), (cb_ HB hw110_1), (cb_ HB hw110_2)⟩) (fun hHeld => ?_); refine Qa9 Qab.tab9 Qab.bits9 (fun HT_ HW_ => ?_)
             generalize wc.drew = w37 at HO_6 BK101 BK104 HB hx110_0 hx110_1 hx110_2 hHeld ⊢
             refine pz 0 45 ?_; refine pz 1 46 ?_; refine pz 3 48 ?_; refine pz 4 49 ?_; refine pz 5 50 ?_; refine pz 6 51 ?_; refine tk12 2 47 ?_; refine tk12 7 52 ?_; refine pz 8 53 ?_; refine one_ (i := 9) (N := some 54) #[tt,tt,tt,tt,tt,tt,tt,tt,tt,tt,ff] rfl rfl (QbK HT_.out (by kernel_rfl)) (by decide) (fun K hK => ?_); refine goes_ Tryz.func13 (by kernel_rfl) rfl #[.slice (some ad110) l1.length c1, .agg #[.string a0_7, .string a0_8, .string ((Qah l1 x7_1).f1)]] (by rfl) rfl rfl (by (try simp only [List.map_toArray, List.map_cons, List.map_nil]); first | done | rfl | (simp only [List.length_drop, List.length_take]; rfl)) ?_
             with_reducible refine (Qay.calls kj21 _ _ l1 a0_7 a0_8 ((Qah l1 x7_1).f1) t111 _ ?side1 ?side2 A34.out).mono ?_
             (case side1 => exact kd_ (Kd.Qa8 HR1.out HB.out))
             (case side2 => exact HC1.out)
             rintro e w38 ⟨rfl, hb⟩; refine ⟨_, rfl, ?_⟩; replace HO_6 := Qaa.mk (Kd.Qa3 (ro_ HO_6) hb); replace BK101 := Qaa.mk (Qad (g := gb101) bk_ hb); replace BK104 := Qaa.mk (Qad (g := gb104) bk_ hb); replace HB := Qaa.mk (Qac bw_ hb)
             (try clear hb)
             (try clear hb2)
             (try clear hk)
             (try clear hi)
             refine hK.out _ _ (cw_9 BK101.out ⟨(cb_ HB hw110_0), (cb_ HB hw110_1), (cb_ HB hw110_2)⟩) (fun hHeld => ?_); clear hK K; refine norm_ (a' := ?_) ?_ ?_; rotate_left
             ·show Act.put _ (some 54) _ = _
              simp only [Act.put, put_, Qbe, Qbh]; rfl
             refine pz 10 8 ?_; refine QbS (Qbz HT_.out (by kernel_rfl)) ?_; have hnb39 := NB101_104.out; have hnc39 := NB104_101.out; obtain ⟨c40_0, c40_1, c40_2, c40_3, c40_4, c40_5, c40_6, c40_7, c40_8⟩ := QaM BK101.out; obtain ⟨f40_0, f40_1, f40_2, f40_3, f40_4, f40_5, f40_6, f40_7, f40_8⟩ := fz_9 BK101.out
             try go_wp2
             replace HO_6 := Qaa.mk (Kd.QaO HO_6.out); replace BK101 := Qaa.mk (Qan BK101.out); replace BK104 := Qaa.mk (Qan BK104.out); replace HB := Qaa.mk (Qau HB.out); have p112 : 0 ≤ (x7_1 : Int) := dd_; have q112 : x7_1 < (l1.length : Int) := dd_; obtain ⟨ad112, e112, hx112_0, hx112_1, hx112_2⟩ := QbL HR1.out x7_1 p112 q112; have hw112_2 := hx112_2; have hw112_1 := hx112_1; have hw112_0 := hx112_0
             obtain rfl : ad110 = ad112 := (by injection e112)
             replace hx112_0 := cb_ HB hx112_0; replace hx112_1 := cb_ HB hx112_1; replace hx112_2 := cb_ HB hx112_2; replace p112 := eq_true p112; replace q112 := eq_true q112; refine Qbo (n := 11) (S := fun w' => cg_ss w' gb104 t102 t103 (crl_sss w' (ad110.add ((x7_1).toNat * 3)) ((Qah l1 x7_1).f0.f0) ((Qah l1 x7_1).f0.f1) ((Qah l1 x7_1).f1))) (ds := []) #[ff,ff,ff,ff,ff,ff,ff,ff,ff,ff,ff] (by kernel_rfl) rfl rfl (cw_2 BK104.out ⟨(cb_ HB hw112_0), (cb_ HB hw112_1), (cb_ HB hw112_2)⟩) (fun hHeld => ?_); refine Qa9 Qab.tab11 Qab.bits11 (fun HT_ HW_ => ?_)
             generalize w38.drew = w41 at HO_6 BK101 BK104 HB hx112_0 hx112_1 hx112_2 hHeld ⊢
             refine pz 0 61 ?_; refine pz 2 63 ?_; refine pz 3 64 ?_; refine pz 4 65 ?_; refine pz 5 66 ?_; refine tk5 1 62 ?_; refine tk5 6 67 ?_; refine pz 7 68 ?_; refine one_ (i := 8) (N := some 69) #[tt,tt,tt,tt,tt,tt,tt,tt,tt,ff,ff] rfl rfl (QbK HT_.out (by kernel_rfl)) (by decide) (fun K hK => ?_); refine value_ (w1 := ?_) (v := ?_) (by rfl) rfl ?_ ?_; rotate_left 2
             ·go_simp; constructor
              ·rfl
              ·rfl
             refine hK.out _ _ ⟨(Qak (Qam BK104.out _) 0).trans rfl, (Qak (Qam BK104.out _) 1).trans rfl, (World.cell?_alloc_lt _ _ _ (World.block_lt_of_cell? _ _ ((cb_ HB hw112_0)))).trans ((cb_ HB hw112_0)), (World.cell?_alloc_lt _ _ _ (World.block_lt_of_cell? _ _ ((cb_ HB hw112_1)))).trans ((cb_ HB hw112_1)), (World.cell?_alloc_lt _ _ _ (World.block_lt_of_cell? _ _ ((cb_ HB hw112_2)))).trans ((cb_ HB hw112_2))⟩ (fun hHeld => ?_); clear hK K; refine norm_ (a' := ?_) ?_ ?_; rotate_left
             ·show Act.put _ (some 69) _ = _
              simp only [Act.put, put_, Qbe, Qbh]; rfl
             refine one_ (i := 9) (N := some 70) #[tt,tt,tt,tt,tt,tt,tt,tt,tt,tt,ff] rfl rfl (QbK HT_.out (by kernel_rfl)) (by decide) (fun K hK => ?_); refine Kd.R_append_step k62 (w0 := w) w.heap.size (by rfl) (.tmp 61) (.tmp 69) 59 62 (.agg #[(.string ⟨#[]⟩), (.string ⟨#[]⟩), (.string ⟨#[]⟩)]) 48 rfl Tryz.underlying59 info62 rfl (by decide) (by omega) u6 x6_1 (⟨(⟨t102, t103⟩ : S33), (Qah l1 x7_1).f1⟩ : S62) [.string t102, .string t103, .string ((Qah l1 x7_1).f1)] (fun _ => True) (fun _ => False) rfl rfl ?aP (fun _ hk => hk.elim) ?aF ?aO ?aB ?aS ?aL ?_
             (case aP => exact k62_mkM _ _ _ (⟨(⟨t102, t103⟩ : S33), (Qah l1 x7_1).f1⟩ : S62))
             (case aB => exact bw_)
             (case aF => exact (fun _ _ => trivial))
             (case aO => exact (ro_ HO_6))
             (case aS => exact (QaI bw_))
             (case aL => have := LMc36.out; omega)
             intro v114 w42 ho hb hg hat
             rw [← Ny113.out] at ho; have n0_ := Qaa.mk (blk_grown (g := gb101) bk_ hg (Kd.R_ne HO_6.out BK101.out (by decide))); have n1_ := Qaa.mk (blk_grown (g := gb104) bk_ hg (Kd.R_ne HO_6.out BK104.out (by decide))); have n2_ := Qaa.mk (hb); have n3_ := Qaa.mk (ho); clear BK101; clear BK104; clear HB; clear HO_6; have BK101 := n0_; have BK104 := n1_; have HB := n2_; have HO115 := n3_; clear n0_ n1_ n2_ n3_
             clear ho hb hg hat
             refine hK.out _ _ (cw_2 BK104.out ⟨(cb_ HB hw112_0), (cb_ HB hw112_1), (cb_ HB hw112_2)⟩) (fun hHeld => ?_); clear hK K; refine norm_ (a' := ?_) ?_ ?_; rotate_left
             ·show Act.put _ (some 70) _ = _
              simp only [Act.put, put_, Qbe, Qbh]; rfl
             refine pz 10 6 ?_; refine QbS (Qbz HT_.out (by kernel_rfl)) ?_
             try go_wp2
             go_meet
             case rel => exact ⟨_, (y113), H', ⟨by have := HK1.out; have := HJ21.out; first | omega | exact Nat.le_refl _⟩, ⟨by (with_reducible repeat (first | apply Kd.QaN | apply Kd.QaQ | apply Kd.QaO)); exact HO115.out⟩, ⟨by (with_reducible repeat (first | refine Qat ?_ _ | refine Qan ?_ | refine Qam ?_ _)); exact BK101.out⟩, ⟨by (with_reducible repeat (first | refine Qat ?_ _ | refine Qan ?_ | refine Qam ?_ _)); exact BK104.out⟩, ⟨bw_⟩⟩
            ·rw [if_neg c36] at H; exact absurd H (by simp)
           ·rw [if_neg c35] at H; have c35b0 : (a0_3 == 2) = false := beq_eq_false_iff_ne.mpr c35; have c35b1 : (a0_3 != 2) = true := bne_iff_ne.mpr c35
            by_cases c43 : t111 = true
            ·subst c43
             have H1 : (if x6_1.length < 2932031007402 then (Qab.j2 kj21 l1 (x6_1 ++ [(⟨(⟨t102, t103⟩ : S33), (Qah l1 x7_1).f1⟩ : S62)]) x7_1 a0_0 a0_1 a0_2 a0_3 a0_4 a0_5 a0_6 a0_7 a0_8 t102 t103) else (none)) = some r := by rw [if_pos rfl] at H; exact H
             clear H; have H := H1; clear H1
             by_cases c44 : x6_1.length < 2932031007402
             ·rw [if_pos c44] at H; have LMc44 := Qaa.mk c44; clear c44
              obtain ⟨y117, hy117⟩ : ∃ y_ : List (S62), y_ = (x6_1 ++ [(⟨(⟨t102, t103⟩ : S33), (Qah l1 x7_1).f1⟩ : S62)]) := ⟨_, rfl⟩
              replace H : (Qab.j2 kj21 l1 y117 x7_1 a0_0 a0_1 a0_2 a0_3 a0_4 a0_5 a0_6 a0_7 a0_8 t102 t103) = some r := by first | (rw [hy117]; with_reducible exact H) | (have H2_ := (Option.bind_some _ _).symm.trans H; rw [hy117]; with_reducible exact H2_) | (have H2_ := (Option.bind_some _ _).symm.trans H; with_reducible exact H2_) | with_reducible exact H | (rw [hy117]; exact H) | exact H
              have Ny117 := Qaa.mk hy117; clear hy117; have H' := Qaa.mk H; clear H
              try go_wp2
              replace HO_6 := Qaa.mk (Kd.QaO HO_6.out); replace BK101 := Qaa.mk (Qan BK101.out); replace BK104 := Qaa.mk (Qan BK104.out); replace HB := Qaa.mk (Qau HB.out); have p110 : 0 ≤ (x7_1 : Int) := dd_; have q110 : x7_1 < (l1.length : Int) := dd_; obtain ⟨ad110, e110, hx110_0, hx110_1, hx110_2⟩ := QbL HR1.out x7_1 p110 q110; have hw110_2 := hx110_2; have hw110_1 := hx110_1; have hw110_0 := hx110_0; cases e110; replace hx110_0 := cb_ HB hx110_0; replace hx110_1 := cb_ HB hx110_1; replace hx110_2 := cb_ HB hx110_2; replace p110 := eq_true p110; replace q110 := eq_true q110; refine Qbo (n := 11) (S := fun w' => cg_iisisssss w' gb101 a0_0 a0_1 a0_2 a0_3 a0_4 a0_5 a0_6 a0_7 a0_8 (crl_sss w' (ad110.add ((x7_1).toNat * 3)) ((Qah l1 x7_1).f0.f0) ((Qah l1 x7_1).f0.f1) ((Qah l1 x7_1).f1))) (ds := []) #[ff,ff,ff,ff,ff,ff,ff,ff,ff,ff,ff] (by kernel_rfl) rfl rfl (cw_9 BK101.out ⟨(cb_ HB hw110_0), (cb_ HB hw110_1), (cb_ HB hw110_2)⟩) (fun hHeld => ?_); refine Qa9 Qab.tab9 Qab.bits9 (fun HT_ HW_ => ?_)
              generalize wc.drew = w45 at HO_6 BK101 BK104 HB hx110_0 hx110_1 hx110_2 hHeld ⊢
              refine pz 0 45 ?_; refine pz 1 46 ?_; refine pz 3 48 ?_; refine pz 4 49 ?_; refine pz 5 50 ?_; refine pz 6 51 ?_; refine tk12 2 47 ?_; refine tk12 7 52 ?_; refine pz 8 53 ?_; refine one_ (i := 9) (N := some 54) #[tt,tt,tt,tt,tt,tt,tt,tt,tt,tt,ff] rfl rfl (QbK HT_.out (by kernel_rfl)) (by decide) (fun K hK => ?_); refine goes_ Tryz.func13 (by kernel_rfl) rfl #[.slice (some ad110) l1.length c1, .agg #[.string a0_7, .string a0_8, .string ((Qah l1 x7_1).f1)]] (by rfl) rfl rfl (by (try simp only [List.map_toArray, List.map_cons, List.map_nil]); first | done | rfl | (simp only [List.length_drop, List.length_take]; rfl)) ?_
              with_reducible refine (Qay.calls kj21 _ _ l1 a0_7 a0_8 ((Qah l1 x7_1).f1) true _ ?side1 ?side2 A34.out).mono ?_
              (case side1 => exact kd_ (Kd.Qa8 HR1.out HB.out))
              (case side2 => exact HC1.out)
              rintro e w46 ⟨rfl, hb⟩; refine ⟨_, rfl, ?_⟩; replace HO_6 := Qaa.mk (Kd.Qa3 (ro_ HO_6) hb); replace BK101 := Qaa.mk (Qad (g := gb101) bk_ hb); replace BK104 := Qaa.mk (Qad (g := gb104) bk_ hb); replace HB := Qaa.mk (Qac bw_ hb)
              (try clear hb)
              (try clear hb2)
              (try clear hk)
              (try clear hi)
              refine hK.out _ _ (cw_9 BK101.out ⟨(cb_ HB hw110_0), (cb_ HB hw110_1), (cb_ HB hw110_2)⟩) (fun hHeld => ?_); clear hK K; refine norm_ (a' := ?_) ?_ ?_; rotate_left
              ·show Act.put _ (some 54) _ = _
               simp only [Act.put, put_, Qbe, Qbh]; rfl
              refine pz 10 8 ?_; refine QbS (Qbz HT_.out (by kernel_rfl)) ?_; have hnb47 := NB101_104.out; have hnc47 := NB104_101.out; obtain ⟨c48_0, c48_1, c48_2, c48_3, c48_4, c48_5, c48_6, c48_7, c48_8⟩ := QaM BK101.out; obtain ⟨f48_0, f48_1, f48_2, f48_3, f48_4, f48_5, f48_6, f48_7, f48_8⟩ := fz_9 BK101.out
              try go_wp2
              replace HO_6 := Qaa.mk (Kd.QaO HO_6.out); replace BK101 := Qaa.mk (Qan BK101.out); replace BK104 := Qaa.mk (Qan BK104.out); replace HB := Qaa.mk (Qau HB.out); have p116 : 0 ≤ (x7_1 : Int) := dd_; have q116 : x7_1 < (l1.length : Int) := dd_; obtain ⟨ad116, e116, hx116_0, hx116_1, hx116_2⟩ := QbL HR1.out x7_1 p116 q116; have hw116_2 := hx116_2; have hw116_1 := hx116_1; have hw116_0 := hx116_0
              obtain rfl : ad110 = ad116 := (by injection e116)
              replace hx116_0 := cb_ HB hx116_0; replace hx116_1 := cb_ HB hx116_1; replace hx116_2 := cb_ HB hx116_2; replace p116 := eq_true p116; replace q116 := eq_true q116; refine Qbo (n := 11) (S := fun w' => cg_ss w' gb104 t102 t103 (crl_sss w' (ad110.add ((x7_1).toNat * 3)) ((Qah l1 x7_1).f0.f0) ((Qah l1 x7_1).f0.f1) ((Qah l1 x7_1).f1))) (ds := []) #[ff,ff,ff,ff,ff,ff,ff,ff,ff,ff,ff] (by kernel_rfl) rfl rfl (cw_2 BK104.out ⟨(cb_ HB hw116_0), (cb_ HB hw116_1), (cb_ HB hw116_2)⟩) (fun hHeld => ?_); refine Qa9 Qab.tab11 Qab.bits11 (fun HT_ HW_ => ?_)
              generalize w46.drew = w49 at HO_6 BK101 BK104 HB hx116_0 hx116_1 hx116_2 hHeld ⊢
              refine pz 0 61 ?_; refine pz 2 63 ?_; refine pz 3 64 ?_; refine pz 4 65 ?_; refine pz 5 66 ?_; refine tk5 1 62 ?_; refine tk5 6 67 ?_; refine pz 7 68 ?_; refine one_ (i := 8) (N := some 69) #[tt,tt,tt,tt,tt,tt,tt,tt,tt,ff,ff] rfl rfl (QbK HT_.out (by kernel_rfl)) (by decide) (fun K hK => ?_); refine value_ (w1 := ?_) (v := ?_) (by rfl) rfl ?_ ?_; rotate_left 2
              ·go_simp; constructor
               ·rfl
               ·rfl
              refine hK.out _ _ ⟨(Qak (Qam BK104.out _) 0).trans rfl, (Qak (Qam BK104.out _) 1).trans rfl, (World.cell?_alloc_lt _ _ _ (World.block_lt_of_cell? _ _ ((cb_ HB hw116_0)))).trans ((cb_ HB hw116_0)), (World.cell?_alloc_lt _ _ _ (World.block_lt_of_cell? _ _ ((cb_ HB hw116_1)))).trans ((cb_ HB hw116_1)), (World.cell?_alloc_lt _ _ _ (World.block_lt_of_cell? _ _ ((cb_ HB hw116_2)))).trans ((cb_ HB hw116_2))⟩ (fun hHeld => ?_); clear hK K; refine norm_ (a' := ?_) ?_ ?_; rotate_left
              ·show Act.put _ (some 69) _ = _
               simp only [Act.put, put_, Qbe, Qbh]; rfl
              refine one_ (i := 9) (N := some 70) #[tt,tt,tt,tt,tt,tt,tt,tt,tt,tt,ff] rfl rfl (QbK HT_.out (by kernel_rfl)) (by decide) (fun K hK => ?_); refine Kd.R_append_step k62 (w0 := w) w.heap.size (by rfl) (.tmp 61) (.tmp 69) 59 62 (.agg #[(.string ⟨#[]⟩), (.string ⟨#[]⟩), (.string ⟨#[]⟩)]) 48 rfl Tryz.underlying59 info62 rfl (by decide) (by omega) u6 x6_1 (⟨(⟨t102, t103⟩ : S33), (Qah l1 x7_1).f1⟩ : S62) [.string t102, .string t103, .string ((Qah l1 x7_1).f1)] (fun _ => True) (fun _ => False) rfl rfl ?aP (fun _ hk => hk.elim) ?aF ?aO ?aB ?aS ?aL ?_
              (case aP => exact k62_mkM _ _ _ (⟨(⟨t102, t103⟩ : S33), (Qah l1 x7_1).f1⟩ : S62))
              (case aB => exact bw_)
              (case aF => exact (fun _ _ => trivial))
              (case aO => exact (ro_ HO_6))
              (case aS => exact (QaI bw_))
              (case aL => have := LMc44.out; omega)
              intro v118 w50 ho hb hg hat
              rw [← Ny117.out] at ho; have n0_ := Qaa.mk (blk_grown (g := gb101) bk_ hg (Kd.R_ne HO_6.out BK101.out (by decide))); have n1_ := Qaa.mk (blk_grown (g := gb104) bk_ hg (Kd.R_ne HO_6.out BK104.out (by decide))); have n2_ := Qaa.mk (hb); have n3_ := Qaa.mk (ho); clear BK101; clear BK104; clear HB; clear HO_6; have BK101 := n0_; have BK104 := n1_; have HB := n2_; have HO119 := n3_; clear n0_ n1_ n2_ n3_
              clear ho hb hg hat
              refine hK.out _ _ (cw_2 BK104.out ⟨(cb_ HB hw116_0), (cb_ HB hw116_1), (cb_ HB hw116_2)⟩) (fun hHeld => ?_); clear hK K; refine norm_ (a' := ?_) ?_ ?_; rotate_left
              ·show Act.put _ (some 70) _ = _
               simp only [Act.put, put_, Qbe, Qbh]; rfl
              refine pz 10 6 ?_; refine QbS (Qbz HT_.out (by kernel_rfl)) ?_
              try go_wp2
              go_meet
              case rel => exact ⟨_, (y117), H', ⟨by have := HK1.out; have := HJ21.out; first | omega | exact Nat.le_refl _⟩, ⟨by (with_reducible repeat (first | apply Kd.QaN | apply Kd.QaQ | apply Kd.QaO)); exact HO119.out⟩, ⟨by (with_reducible repeat (first | refine Qat ?_ _ | refine Qan ?_ | refine Qam ?_ _)); exact BK101.out⟩, ⟨by (with_reducible repeat (first | refine Qat ?_ _ | refine Qan ?_ | refine Qam ?_ _)); exact BK104.out⟩, ⟨bw_⟩⟩
             ·rw [if_neg c44] at H; exact absurd H (by simp)
            ·replace c43 := Bool.eq_false_iff.mpr c43; subst c43
             have H1 : (Qab.j2 kj21 l1 x6_1 x7_1 a0_0 a0_1 a0_2 a0_3 a0_4 a0_5 a0_6 a0_7 a0_8 t102 t103) = some r := by rw [if_neg (show ¬ (false = true) by decide)] at H; exact H
             clear H; have H := H1; clear H1; have H' := Qaa.mk H; clear H
             try go_wp2
             replace HO_6 := Qaa.mk (Kd.QaO HO_6.out); replace BK101 := Qaa.mk (Qan BK101.out); replace BK104 := Qaa.mk (Qan BK104.out); replace HB := Qaa.mk (Qau HB.out); have p110 : 0 ≤ (x7_1 : Int) := dd_; have q110 : x7_1 < (l1.length : Int) := dd_; obtain ⟨ad110, e110, hx110_0, hx110_1, hx110_2⟩ := QbL HR1.out x7_1 p110 q110; have hw110_2 := hx110_2; have hw110_1 := hx110_1; have hw110_0 := hx110_0; cases e110; replace hx110_0 := cb_ HB hx110_0; replace hx110_1 := cb_ HB hx110_1; replace hx110_2 := cb_ HB hx110_2; replace p110 := eq_true p110; replace q110 := eq_true q110; refine Qbo (n := 11) (S := fun w' => cg_iisisssss w' gb101 a0_0 a0_1 a0_2 a0_3 a0_4 a0_5 a0_6 a0_7 a0_8 (crl_sss w' (ad110.add ((x7_1).toNat * 3)) ((Qah l1 x7_1).f0.f0) ((Qah l1 x7_1).f0.f1) ((Qah l1 x7_1).f1))) (ds := []) #[ff,ff,ff,ff,ff,ff,ff,ff,ff,ff,ff] (by kernel_rfl) rfl rfl (cw_9 BK101.out ⟨(cb_ HB hw110_0), (cb_ HB hw110_1), (cb_ HB hw110_2)⟩) (fun hHeld => ?_); refine Qa9 Qab.tab9 Qab.bits9 (fun HT_ HW_ => ?_)
             generalize wc.drew = w51 at HO_6 BK101 BK104 HB hx110_0 hx110_1 hx110_2 hHeld ⊢
             refine pz 0 45 ?_; refine pz 1 46 ?_; refine pz 3 48 ?_; refine pz 4 49 ?_; refine pz 5 50 ?_; refine pz 6 51 ?_; refine tk12 2 47 ?_; refine tk12 7 52 ?_; refine pz 8 53 ?_; refine one_ (i := 9) (N := some 54) #[tt,tt,tt,tt,tt,tt,tt,tt,tt,tt,ff] rfl rfl (QbK HT_.out (by kernel_rfl)) (by decide) (fun K hK => ?_); refine goes_ Tryz.func13 (by kernel_rfl) rfl #[.slice (some ad110) l1.length c1, .agg #[.string a0_7, .string a0_8, .string ((Qah l1 x7_1).f1)]] (by rfl) rfl rfl (by (try simp only [List.map_toArray, List.map_cons, List.map_nil]); first | done | rfl | (simp only [List.length_drop, List.length_take]; rfl)) ?_
             with_reducible refine (Qay.calls kj21 _ _ l1 a0_7 a0_8 ((Qah l1 x7_1).f1) false _ ?side1 ?side2 A34.out).mono ?_
             (case side1 => exact kd_ (Kd.Qa8 HR1.out HB.out))
             (case side2 => exact HC1.out)
             rintro e w52 ⟨rfl, hb⟩; refine ⟨_, rfl, ?_⟩; replace HO_6 := Qaa.mk (Kd.Qa3 (ro_ HO_6) hb); replace BK101 := Qaa.mk (Qad (g := gb101) bk_ hb); replace BK104 := Qaa.mk (Qad (g := gb104) bk_ hb); replace HB := Qaa.mk (Qac bw_ hb)
             (try clear hb)
             (try clear hb2)
             (try clear hk)
             (try clear hi)
             refine hK.out _ _ (cw_9 BK101.out ⟨(cb_ HB hw110_0), (cb_ HB hw110_1), (cb_ HB hw110_2)⟩) (fun hHeld => ?_); clear hK K; refine norm_ (a' := ?_) ?_ ?_; rotate_left
             ·show Act.put _ (some 54) _ = _
              simp only [Act.put, put_, Qbe, Qbh]; rfl
             refine pz 10 8 ?_; refine QbS (Qbz HT_.out (by kernel_rfl)) ?_; have hnb53 := NB101_104.out; have hnc53 := NB104_101.out; obtain ⟨c54_0, c54_1, c54_2, c54_3, c54_4, c54_5, c54_6, c54_7, c54_8⟩ := QaM BK101.out; obtain ⟨f54_0, f54_1, f54_2, f54_3, f54_4, f54_5, f54_6, f54_7, f54_8⟩ := fz_9 BK101.out
             try go_wp2
             go_meet
             case rel => exact ⟨_, (x6_1), H', ⟨by have := HK1.out; have := HJ21.out; first | omega | exact Nat.le_refl _⟩, ⟨by (with_reducible repeat (first | apply Kd.QaN | apply Kd.QaQ | apply Kd.QaO)); exact HO_6.out⟩, ⟨by (with_reducible repeat (first | refine Qat ?_ _ | refine Qan ?_ | refine Qam ?_ _)); exact BK101.out⟩, ⟨by (with_reducible repeat (first | refine Qat ?_ _ | refine Qan ?_ | refine Qam ?_ _)); exact BK104.out⟩, ⟨bw_⟩⟩
          ·rw [if_neg c33] at H; exact absurd H (by simp)
         ·rw [if_neg c32] at H; exact absurd H (by simp)
        ·replace c31 := Bool.eq_false_iff.mpr c31; subst c31
         have H1 : (Qab.j2 kj21 l1 x6_1 x7_1 a0_0 a0_1 a0_2 a0_3 a0_4 a0_5 a0_6 a0_7 a0_8 t102 t103) = some r := by rw [if_neg (show ¬ (false = true) by decide)] at H; exact H
         clear H; have H := H1; clear H1; have H' := Qaa.mk H; clear H; go_wp2
         go_meet
         case rel => exact ⟨_, (x6_1), H', ⟨by have := HK1.out; have := HJ21.out; first | omega | exact Nat.le_refl _⟩, ⟨by (with_reducible repeat (first | apply Kd.QaN | apply Kd.QaQ | apply Kd.QaO)); exact HO_6.out⟩, ⟨by (with_reducible repeat (first | refine Qat ?_ _ | refine Qan ?_ | refine Qam ?_ _)); exact BK101.out⟩, ⟨by (with_reducible repeat (first | refine Qat ?_ _ | refine Qan ?_ | refine Qam ?_ _)); exact BK104.out⟩, ⟨bw_⟩⟩
       case rest =>
        clear HC30; (try clear c1); (try clear p1); (try clear q1); (try clear hx1); (try clear p2); (try clear c3); (try clear c4); (try clear c5); (try clear p11); (try clear q11); (try clear hx11); (try clear c13); (try clear c31); (try clear c32); (try clear c33); (try clear c35); (try clear c35b0); (try clear c35b1); (try clear c36); (try clear c43); (try clear c44); (try clear c47); (try clear c53); (try clear c48_0 c48_1 c48_2 c48_3 c48_4 c48_5 c48_6 c48_7 c48_8); (try clear c54_0 c54_1 c54_2 c54_3 c54_4 c54_5 c54_6 c54_7 c54_8); (try clear f48_0 f48_1 f48_2 f48_3 f48_4 f48_5 f48_6 f48_7 f48_8); (try clear f54_0 f54_1 f54_2 f54_3 f54_4 f54_5 f54_6 f54_7 f54_8); (try clear hx110_0); (try clear hx110_1); (try clear hx110_2); (try clear hx116_0); (try clear hx116_1); (try clear hx116_2); (try clear p110); (try clear p116); (try clear q110); (try clear q116); obtain ⟨kq, x6_29, HA, HJ29, HO_6, BK101, BK104, HB⟩ := hcut
        cases kq with
        | zero => exact absurd HA.out (by simp [Qab.j2])
        | succ kj29 =>
         have H := HA.out; clear HA; simp only [Qab.j2] at H; have HC55 := Qaa.mk H; clear H
         go_upto_region 12 with (fail)
         go_cut [92] (fun v92 wc => ∃ (kq : Nat) (x92_54 : Bool), v92 = .bool x92_54 ∧ Qaa (Qab.j3 kq l1 x6_29 x7_1 x92_54 a0_0 a0_1 a0_2 a0_3 a0_4 a0_5 a0_6 a0_7 a0_8 t102 t103 = some r) ∧ Qaa (kq ≤ kj29) ∧ Qaa (Kd.R k62 62 wc w.heap.size (fun _ => True) u6 x6_29) ∧ Qaa (wc.heap[gb101]? = some (.cells #[.int .i64 a0_0, .int .i64 a0_1, .string a0_2, .int .i64 a0_3, .string a0_4, .string a0_5, .string a0_6, .string a0_7, .string a0_8] 35 (0, 0))) ∧ Qaa (wc.heap[gb104]? = some (.cells #[.string t102, .string t103] 33 (0, 0))) ∧ Qaa (Below w.heap.size w wc))
         case first =>
          have H := HC55.out; clear HC55
          by_cases c56 : a0_3 = 3
          ·rw [if_pos c56] at H; have c56b0 : (a0_3 == 3) = true := beq_iff_eq.mpr c56; have c56b1 : (a0_3 != 3) = false := bne_eq_false_iff_eq.mpr c56; clear c56
           (first | rw [c56b0] | (simp only [Qbe, Qbh]; rw [c56b0]) | skip)
           by_cases c57 : 0 ≤ x7_1
           ·rw [if_pos c57] at H; have c57b0 : decide (0 ≤ x7_1) = true := decide_eq_true c57; clear c57
            by_cases c58 : x7_1 < (l1.length : Int)
            ·rw [if_pos c58] at H; have c58b0 : decide (x7_1 < (l1.length : Int)) = true := decide_eq_true c58; clear c58; replace H := Option.bind_eq_some_iff.mp H; obtain ⟨⟨t121, t122⟩, A590, H⟩ := H; replace H : (if ((((Qah l1 x7_1).f0.f0).toList) == t121.toList && ((((Qah l1 x7_1).f0.f1).toList) == t122.toList)) = true then ((Qaj.f kj29 ((Qah l1 x7_1).f1)).bind fun t124 => (Qab.j3 kj29 l1 x6_29 x7_1 (decide (t124 > 0)) a0_0 a0_1 a0_2 a0_3 a0_4 a0_5 a0_6 a0_7 a0_8 t102 t103)) else (Qab.j3 kj29 l1 x6_29 x7_1 false a0_0 a0_1 a0_2 a0_3 a0_4 a0_5 a0_6 a0_7 a0_8 t102 t103)) = some r := H; have A59 := Qaa.mk A590; clear A590
             by_cases c60 : ((((Qah l1 x7_1).f0.f0).toList) == t121.toList && ((((Qah l1 x7_1).f0.f1).toList) == t122.toList)) = true
             ·rw [if_pos c60] at H; have c60b0 : ((((Qah l1 x7_1).f0.f0).toList) == t121.toList && ((((Qah l1 x7_1).f0.f1).toList) == t122.toList)) = true := c60
              (try (have c60b1 : decide ((((Qah l1 x7_1).f0.f0).toList) = t121.toList && ((((Qah l1 x7_1).f0.f1).toList) == t122.toList)) = true := by simpa using c60))
              (try (have c60b2 : ((((Qah l1 x7_1).f0.f0).toList) == t121.toList && ((((Qah l1 x7_1).f0.f1).toList) == t122.toList)) = true := by simpa using c60))
              clear c60; replace H := Option.bind_eq_some_iff.mp H; obtain ⟨t124, A610, H⟩ := H; replace H : (Qab.j3 kj29 l1 x6_29 x7_1 (decide (t124 > 0)) a0_0 a0_1 a0_2 a0_3 a0_4 a0_5 a0_6 a0_7 a0_8 t102 t103) = some r := H; have A61 := Qaa.mk A610; clear A610; have H' := Qaa.mk H; clear H
              try go_wp2
              replace HO_6 := Qaa.mk (Kd.QaO HO_6.out); replace BK101 := Qaa.mk (Qan BK101.out); replace BK104 := Qaa.mk (Qan BK104.out); replace HB := Qaa.mk (Qau HB.out); have p120 : 0 ≤ (x7_1 : Int) := dd_; have q120 : x7_1 < (l1.length : Int) := dd_; obtain ⟨ad120, e120, hx120_0, hx120_1, hx120_2⟩ := QbL HR1.out x7_1 p120 q120; have hw120_2 := hx120_2; have hw120_1 := hx120_1; have hw120_0 := hx120_0; cases e120; replace hx120_0 := cb_ HB hx120_0; replace hx120_1 := cb_ HB hx120_1; replace hx120_2 := cb_ HB hx120_2; replace p120 := eq_true p120; replace q120 := eq_true q120; have p123 : 0 ≤ (x7_1 : Int) := dd_; have q123 : x7_1 < (l1.length : Int) := dd_; obtain ⟨ad123, e123, hx123_0, hx123_1, hx123_2⟩ := QbL HR1.out x7_1 p123 q123; have hw123_2 := hx123_2; have hw123_1 := hx123_1; have hw123_0 := hx123_0
              obtain rfl : ad120 = ad123 := (by injection e123)
              replace hx123_0 := cb_ HB hx123_0; replace hx123_1 := cb_ HB hx123_1; replace hx123_2 := cb_ HB hx123_2; replace p123 := eq_true p123; replace q123 := eq_true q123; refine Qbo (n := 22) (S := fun w' => cg_iisisssss w' gb101 a0_0 a0_1 a0_2 a0_3 a0_4 a0_5 a0_6 a0_7 a0_8 (cr_sss w' (ad120.add ((x7_1).toNat * 3)) ((Qah l1 x7_1).f0.f0) ((Qah l1 x7_1).f0.f1) ((Qah l1 x7_1).f1) (crl_sss w' (ad120.add ((x7_1).toNat * 3)) ((Qah l1 x7_1).f0.f0) ((Qah l1 x7_1).f0.f1) ((Qah l1 x7_1).f1)))) (ds := []) #[ff,ff,ff,ff,ff,ff,ff,ff,ff,ff,ff,ff,ff,ff,ff,ff,ff,ff,ff,ff,ff,ff] (by kernel_rfl) rfl rfl (cw_9 BK101.out ⟨(cb_ HB hw120_0), (cb_ HB hw120_1), (cb_ HB hw120_2), (cb_ HB hw123_0), (cb_ HB hw123_1), (cb_ HB hw123_2)⟩) (fun hHeld => ?_); refine Qa9 Qab.tab12 Qab.bits12 (fun HT_ HW_ => ?_)
              generalize wc.drew = w62 at HO_6 BK101 BK104 HB hx120_0 hx120_1 hx120_2 hx123_0 hx123_1 hx123_2 hHeld ⊢
              refine pz 0 71 ?_; refine tk15 1 72 ?_; refine pz 2 73 ?_; refine pz 3 74 ?_; refine pz 4 75 ?_; refine pz 5 76 ?_; refine pz 6 77 ?_; refine pz 7 78 ?_; refine tk15 8 79 ?_; refine tk15 9 80 ?_; refine one_ (i := 10) (N := some 81) #[tt,tt,tt,tt,tt,tt,tt,tt,tt,tt,tt,ff,ff,ff,ff,ff,ff,ff,ff,ff,ff,ff] rfl rfl (QbK HT_.out (by kernel_rfl)) (by decide) (fun K hK => ?_); refine goes_ Tryz.func63 (by kernel_rfl) rfl #[.agg #[.int .i64 a0_0, .int .i64 a0_1, .string a0_2, .int .i64 a0_3, .string a0_4, .string a0_5, .string a0_6, .string a0_7, .string a0_8]] (by rfl) rfl rfl (by (try simp only [List.map_toArray, List.map_cons, List.map_nil]); first | done | rfl | (simp only [List.length_drop, List.length_take]; rfl)) ?_
              with_reducible refine (QaJ.calls kj29 a0_0 a0_1 a0_2 a0_3 a0_4 a0_5 a0_6 a0_7 a0_8 t121 t122 _ A59.out).mono ?_
              rintro e w63 ⟨rfl, hb⟩; refine ⟨_, rfl, ?_⟩; replace HO_6 := Qaa.mk (Kd.Qa3 (ro_ HO_6) hb); replace BK101 := Qaa.mk (Qad (g := gb101) bk_ hb); replace BK104 := Qaa.mk (Qad (g := gb104) bk_ hb); replace HB := Qaa.mk (Qac bw_ hb)
              (try clear hb)
              (try clear hb2)
              (try clear hk)
              (try clear hi)
              refine hK.out _ _ (cw_9 BK101.out ⟨(cb_ HB hw120_0), (cb_ HB hw120_1), (cb_ HB hw120_2), (cb_ HB hw123_0), (cb_ HB hw123_1), (cb_ HB hw123_2)⟩) (fun hHeld => ?_); clear hK K; refine norm_ (a' := ?_) ?_ ?_; rotate_left
              ·show Act.put _ (some 81) _ = _
               simp only [Act.put, put_, Qbe, Qbh]; rfl
              refine pz 11 82 ?_; refine pz 12 83 ?_; refine pz 13 84 ?_; refine pz 14 85 ?_; refine pz 15 86 ?_; refine pz 16 87 ?_; refine pz 17 88 ?_; refine tk15 18 89 ?_; refine one_ (i := 19) (N := some 90) #[tt,tt,tt,tt,tt,tt,tt,tt,tt,tt,tt,tt,tt,tt,tt,tt,tt,tt,tt,tt,ff,ff] rfl rfl (QbK HT_.out (by kernel_rfl)) (by decide) (fun K hK => ?_); refine goes_ Tryz.func60 (by kernel_rfl) rfl #[.string ((Qah l1 x7_1).f1)] (by rfl) rfl rfl (by (try simp only [List.map_toArray, List.map_cons, List.map_nil]); first | done | rfl | (simp only [List.length_drop, List.length_take]; rfl)) ?_
              with_reducible refine (Qaj.calls kj29 ((Qah l1 x7_1).f1) t124 _ A61.out).mono ?_
              rintro e w' ⟨rfl, ⟨nd, rfl⟩⟩; refine ⟨_, rfl, ?_⟩; refine hK.out _ _ (cw_9 BK101.out ⟨(cb_ HB hw120_0 :), (cb_ HB hw120_1 :), (cb_ HB hw120_2 :), (cb_ HB hw123_0 :), (cb_ HB hw123_1 :), (cb_ HB hw123_2 :)⟩) (fun hHeld => ?_); clear hK K; refine norm_ (a' := ?_) ?_ ?_; rotate_left
              ·show Act.put _ (some 90) _ = _
               simp only [Act.put, put_, Qbe, Qbh]; rfl
              refine pz 20 91 ?_; refine pz 21 92 ?_; refine QbS (Qbz HT_.out (by kernel_rfl)) ?_
              try go_wp2
              go_meet
              case rel => exact ⟨_, (decide (t124 > 0)), (by first | rfl | (simp; done) | (simp [*]; done)), H', ⟨by have := HK1.out; have := HJ21.out; have := HJ29.out; first | omega | exact Nat.le_refl _⟩, ⟨by (with_reducible repeat (first | apply Kd.QaN | apply Kd.QaQ | apply Kd.QaO)); exact HO_6.out⟩, ⟨by (with_reducible repeat (first | refine Qat ?_ _ | refine Qan ?_ | refine Qam ?_ _)); exact BK101.out⟩, ⟨by (with_reducible repeat (first | refine Qat ?_ _ | refine Qan ?_ | refine Qam ?_ _)); exact BK104.out⟩, ⟨bw_⟩⟩
             ·rw [if_neg c60] at H
              have c60b0 : ((((Qah l1 x7_1).f0.f0).toList) == t121.toList && ((((Qah l1 x7_1).f0.f1).toList) == t122.toList)) = false := by simpa using c60
              (try (have c60b1 : decide ((((Qah l1 x7_1).f0.f0).toList) = t121.toList && ((((Qah l1 x7_1).f0.f1).toList) == t122.toList)) = false := by simpa using c60))
              (try (have c60b2 : ((((Qah l1 x7_1).f0.f0).toList) == t121.toList && ((((Qah l1 x7_1).f0.f1).toList) == t122.toList)) = false := by simpa using c60))
              (try (have c60b3 : ¬ ((((Qah l1 x7_1).f0.f0).toList) = t121.toList && ((((Qah l1 x7_1).f0.f1).toList) == t122.toList)) := by simpa using c60))
              clear c60; have H' := Qaa.mk H; clear H
              try go_wp2
              replace HO_6 := Qaa.mk (Kd.QaO HO_6.out); replace BK101 := Qaa.mk (Qan BK101.out); replace BK104 := Qaa.mk (Qan BK104.out); replace HB := Qaa.mk (Qau HB.out); have p120 : 0 ≤ (x7_1 : Int) := dd_; have q120 : x7_1 < (l1.length : Int) := dd_; obtain ⟨ad120, e120, hx120_0, hx120_1, hx120_2⟩ := QbL HR1.out x7_1 p120 q120; have hw120_2 := hx120_2; have hw120_1 := hx120_1; have hw120_0 := hx120_0; cases e120; replace hx120_0 := cb_ HB hx120_0; replace hx120_1 := cb_ HB hx120_1; replace hx120_2 := cb_ HB hx120_2; replace p120 := eq_true p120; replace q120 := eq_true q120; refine Qbo (n := 22) (S := fun w' => cg_iisisssss w' gb101 a0_0 a0_1 a0_2 a0_3 a0_4 a0_5 a0_6 a0_7 a0_8 (crl_sss w' (ad120.add ((x7_1).toNat * 3)) ((Qah l1 x7_1).f0.f0) ((Qah l1 x7_1).f0.f1) ((Qah l1 x7_1).f1))) (ds := []) #[ff,ff,ff,ff,ff,ff,ff,ff,ff,ff,ff,ff,ff,ff,ff,ff,ff,ff,ff,ff,ff,ff] (by kernel_rfl) rfl rfl (cw_9 BK101.out ⟨(cb_ HB hw120_0), (cb_ HB hw120_1), (cb_ HB hw120_2)⟩) (fun hHeld => ?_); refine Qa9 Qab.tab12 Qab.bits12 (fun HT_ HW_ => ?_)
              generalize wc.drew = w64 at HO_6 BK101 BK104 HB hx120_0 hx120_1 hx120_2 hHeld ⊢
              refine pz 0 71 ?_; refine tk12 1 72 ?_; refine pz 2 73 ?_; refine pz 3 74 ?_; refine pz 4 75 ?_; refine pz 5 76 ?_; refine pz 6 77 ?_; refine pz 7 78 ?_; refine tk12 8 79 ?_; refine tk12 9 80 ?_; refine one_ (i := 10) (N := some 81) #[tt,tt,tt,tt,tt,tt,tt,tt,tt,tt,tt,ff,ff,ff,ff,ff,ff,ff,ff,ff,ff,ff] rfl rfl (QbK HT_.out (by kernel_rfl)) (by decide) (fun K hK => ?_); refine goes_ Tryz.func63 (by kernel_rfl) rfl #[.agg #[.int .i64 a0_0, .int .i64 a0_1, .string a0_2, .int .i64 a0_3, .string a0_4, .string a0_5, .string a0_6, .string a0_7, .string a0_8]] (by rfl) rfl rfl (by (try simp only [List.map_toArray, List.map_cons, List.map_nil]); first | done | rfl | (simp only [List.length_drop, List.length_take]; rfl)) ?_
              with_reducible refine (QaJ.calls kj29 a0_0 a0_1 a0_2 a0_3 a0_4 a0_5 a0_6 a0_7 a0_8 t121 t122 _ A59.out).mono ?_
              rintro e w65 ⟨rfl, hb⟩; refine ⟨_, rfl, ?_⟩; replace HO_6 := Qaa.mk (Kd.Qa3 (ro_ HO_6) hb); replace BK101 := Qaa.mk (Qad (g := gb101) bk_ hb); replace BK104 := Qaa.mk (Qad (g := gb104) bk_ hb); replace HB := Qaa.mk (Qac bw_ hb)
              (try clear hb)
              (try clear hb2)
              (try clear hk)
              (try clear hi)
              refine hK.out _ _ (cw_9 BK101.out ⟨(cb_ HB hw120_0), (cb_ HB hw120_1), (cb_ HB hw120_2)⟩) (fun hHeld => ?_); clear hK K; refine norm_ (a' := ?_) ?_ ?_; rotate_left
              ·show Act.put _ (some 81) _ = _
               simp only [Act.put, put_, Qbe, Qbh]; rfl
              refine pz 11 82 ?_; refine pz 12 83 ?_; refine pz 13 84 ?_; refine pu 14 85 ?_; refine pu 15 86 ?_; refine pu 16 87 ?_; refine pu 17 88 ?_; refine pu 18 89 ?_; refine pu 19 90 ?_; refine pu 20 91 ?_; refine pz 21 92 ?_; refine QbS (Qbz HT_.out (by kernel_rfl)) ?_
              try go_wp2
              go_meet
              case rel => exact ⟨_, (false), (by first | rfl | (simp; done) | (simp [*]; done)), H', ⟨by have := HK1.out; have := HJ21.out; have := HJ29.out; first | omega | exact Nat.le_refl _⟩, ⟨by (with_reducible repeat (first | apply Kd.QaN | apply Kd.QaQ | apply Kd.QaO)); exact HO_6.out⟩, ⟨by (with_reducible repeat (first | refine Qat ?_ _ | refine Qan ?_ | refine Qam ?_ _)); exact BK101.out⟩, ⟨by (with_reducible repeat (first | refine Qat ?_ _ | refine Qan ?_ | refine Qam ?_ _)); exact BK104.out⟩, ⟨bw_⟩⟩
            ·rw [if_neg c58] at H; exact absurd H (by simp)
           ·rw [if_neg c57] at H; exact absurd H (by simp)
          ·rw [if_neg c56] at H; have c56b0 : (a0_3 == 3) = false := beq_eq_false_iff_ne.mpr c56; have c56b1 : (a0_3 != 3) = true := bne_iff_ne.mpr c56
           (first | rw [c56b0] | (simp only [Qbe, Qbh]; rw [c56b0]) | skip)
           have H' := Qaa.mk H; clear H
           try go_wp2
           replace HO_6 := Qaa.mk (Kd.QaO HO_6.out); replace BK101 := Qaa.mk (Qan BK101.out); replace BK104 := Qaa.mk (Qan BK104.out); replace HB := Qaa.mk (Qau HB.out); refine Qbo (n := 22) (S := fun w' => cgl_iisisssss w' gb101 a0_0 a0_1 a0_2 a0_3 a0_4 a0_5 a0_6 a0_7 a0_8) (ds := []) #[ff,ff,ff,ff,ff,ff,ff,ff,ff,ff,ff,ff,ff,ff,ff,ff,ff,ff,ff,ff,ff,ff] (by kernel_rfl) rfl rfl (cl_9 BK101.out) (fun hHeld => ?_); refine Qa9 Qab.tab12 Qab.bits12 (fun HT_ HW_ => ?_)
           generalize wc.drew = w66 at HO_6 BK101 BK104 HB hHeld ⊢
           refine pz 0 71 ?_; refine tk9 1 72 ?_; refine pz 2 73 ?_; refine pz 3 74 ?_; refine pu 4 75 ?_; refine pu 5 76 ?_; refine pu 6 77 ?_; refine pu 7 78 ?_; refine pu 8 79 ?_; refine pu 9 80 ?_; refine pu 10 81 ?_; refine pu 11 82 ?_; refine pz 12 83 ?_; refine pz 13 84 ?_; refine pu 14 85 ?_; refine pu 15 86 ?_; refine pu 16 87 ?_; refine pu 17 88 ?_; refine pu 18 89 ?_; refine pu 19 90 ?_; refine pu 20 91 ?_; refine pz 21 92 ?_; refine QbS (Qbz HT_.out (by kernel_rfl)) ?_
           try go_wp2
           go_meet
           case rel => exact ⟨_, (false), (by first | rfl | (simp; done) | (simp [*]; done)), H', ⟨by have := HK1.out; have := HJ21.out; have := HJ29.out; first | omega | exact Nat.le_refl _⟩, ⟨by (with_reducible repeat (first | apply Kd.QaN | apply Kd.QaQ | apply Kd.QaO)); exact HO_6.out⟩, ⟨by (with_reducible repeat (first | refine Qat ?_ _ | refine Qan ?_ | refine Qam ?_ _)); exact BK101.out⟩, ⟨by (with_reducible repeat (first | refine Qat ?_ _ | refine Qan ?_ | refine Qam ?_ _)); exact BK104.out⟩, ⟨bw_⟩⟩
         case rest =>
          clear HC55; (try clear p1); (try clear q1); (try clear hx1); (try clear p2); (try clear c5); (try clear c6); (try clear p12); (try clear q12); (try clear hx12); (try clear c56); (try clear c56b0); (try clear c56b1); (try clear c57); (try clear c58); (try clear c60); (try clear c60b0); (try clear c60b1); (try clear c60b2); (try clear c63); (try clear hx120_0); (try clear hx120_1); (try clear hx120_2); (try clear hx123_0); (try clear hx123_1); (try clear hx123_2); (try clear p120); (try clear p123); (try clear q120); (try clear q123); obtain ⟨kq, x92_54, rfl, HA, HJ54, HO_6, BK101, BK104, HB⟩ := hcut
          cases kq with
          | zero => exact absurd HA.out (by simp [Qab.j3])
          | succ kj54 =>
           have H := HA.out; clear HA; simp only [Qab.j3] at H
           by_cases c67 : x92_54 = true
           ·subst c67
            have H1 : (if 0 ≤ x7_1 then (if x7_1 < (l1.length : Int) then (Qab.l1 kj54 l1 x6_29 x7_1 0 a0_0 a0_1 a0_2 a0_3 a0_4 a0_5 a0_6 a0_7 a0_8 t102 t103 ((Qah l1 x7_1).f1) a0_8) else (none)) else (none)) = some r := by rw [if_pos rfl] at H; exact H
            clear H; have H := H1; clear H1
            by_cases c68 : 0 ≤ x7_1
            ·rw [if_pos c68] at H; have c68b0 : decide (0 ≤ x7_1) = true := decide_eq_true c68; clear c68
             by_cases c69 : x7_1 < (l1.length : Int)
             ·rw [if_pos c69] at H; have c69b0 : decide (x7_1 < (l1.length : Int)) = true := decide_eq_true c69; clear c69; have H' := Qaa.mk H; clear H
              try go_wp2
              replace HO_6 := Qaa.mk (Kd.QaO HO_6.out); replace BK101 := Qaa.mk (Qan BK101.out); replace BK104 := Qaa.mk (Qan BK104.out); replace HB := Qaa.mk (Qau HB.out); have p125 : 0 ≤ (x7_1 : Int) := dd_; have q125 : x7_1 < (l1.length : Int) := dd_; obtain ⟨ad125, e125, hx125_0, hx125_1, hx125_2⟩ := QbL HR1.out x7_1 p125 q125; have hw125_2 := hx125_2; have hw125_1 := hx125_1; have hw125_0 := hx125_0; cases e125; replace hx125_0 := cb_ HB hx125_0; replace hx125_1 := cb_ HB hx125_1; replace hx125_2 := cb_ HB hx125_2; replace p125 := eq_true p125; replace q125 := eq_true q125; refine Qbo (n := 11) (S := fun w' => cg_iisisssss w' gb101 a0_0 a0_1 a0_2 a0_3 a0_4 a0_5 a0_6 a0_7 a0_8 (crl_sss w' (ad125.add ((x7_1).toNat * 3)) ((Qah l1 x7_1).f0.f0) ((Qah l1 x7_1).f0.f1) ((Qah l1 x7_1).f1))) (ds := []) #[ff,ff,ff,ff,ff,ff,ff,ff,ff,ff,ff] (by kernel_rfl) rfl rfl (cw_9 BK101.out ⟨(cb_ HB hw125_0), (cb_ HB hw125_1), (cb_ HB hw125_2)⟩) (fun hHeld => ?_); refine Qa9 Qab.tab13 Qab.bits13 (fun HT_ HW_ => ?_)
              generalize wc.drew = w70 at HO_6 BK101 BK104 HB hx125_0 hx125_1 hx125_2 hHeld ⊢
              refine pz 0 93 ?_; refine pz 1 94 ?_; refine pz 2 95 ?_; refine pz 3 96 ?_; refine pz 5 98 ?_; refine pz 6 99 ?_; refine tk12 4 97 ?_; refine tk12 7 100 ?_; refine pz 8 101 ?_; refine one_ (i := 9) (N := some 9) #[tt,tt,tt,tt,tt,tt,tt,tt,tt,tt,ff] rfl rfl (QbK HT_.out (by kernel_rfl)) (by decide) (fun K hK => ?_); refine box_step ?hg (N := 9) ?hd (cs := #[.string (⟨#[]⟩ : ByteArray), .string (⟨#[]⟩ : ByteArray)]) (t := 33) ?hr ?_; (case hd => rfl); (case hg => rfl); (case hr => first | (go_simp; done) | (go_simp; rfl)); intro gb126 hg w71 hbox hb; have n0_ := Qaa.mk (Kd.Qa3 (ro_ HO_6) hb); have n1_ := Qaa.mk (Qad (g := gb101) bk_ hb); have n2_ := Qaa.mk (Qad (g := gb104) bk_ hb); have n3_ := Qaa.mk (Qac bw_ hb); have n4_ := Qaa.mk (hbox); have n5_ := (gz_ hg : Qaa (w.heap.size ≤ gb126)); have n6_ := (gz_ hg : Qaa (w.heap.size ≤ gb126)); have n7_ := (nl_ hg : Qaa (gb101 ≠ gb126)); have n8_ := (ng_ hg : Qaa (gb126 ≠ gb101)); have n9_ := (nl_ hg : Qaa (gb104 ≠ gb126)); have n10_ := (ng_ hg : Qaa (gb126 ≠ gb104)); clear HO_6; clear BK101; clear BK104; clear HB; have HO_6 := n0_; have BK101 := n1_; have BK104 := n2_
              have HB := n3_; have BK126 := n4_; have GW126 := n5_; have GE126 := n6_; have NB101_126 := n7_; have NB126_101 := n8_; have NB104_126 := n9_; have NB126_104 := n10_; clear n0_ n1_ n2_ n3_ n4_ n5_ n6_ n7_ n8_ n9_ n10_; clear hb hbox hg; refine hK.out _ _ (cw_9 BK101.out ⟨(cb_ HB hw125_0), (cb_ HB hw125_1), (cb_ HB hw125_2)⟩) (fun hHeld => ?_); clear hK K; refine norm_ (a' := ?_) ?_ ?_; rotate_left
              ·show Act.put _ (some 9) _ = _
               simp only [Act.put, put_, Qbe, Qbh]; rfl
              refine one_ (i := 10) (N := none) #[tt,tt,tt,tt,tt,tt,tt,tt,tt,tt,tt] rfl rfl (QbK HT_.out (by kernel_rfl)) (by decide) (fun K hK => ?_); have hs72 : w71.cell? ⟨gb126, 0, none⟩ = some (.string (⟨#[]⟩ : ByteArray)) := (Qak BK126.out 0).trans rfl; have hfs72 := QaP BK126.out 0; have hns72_0 := NB101_126.out; have hns72_1 := NB104_126.out; have hms72_0 := NB126_101.out; have hms72_1 := NB126_104.out; have hs73 : w71.cell? ⟨gb126, 1, none⟩ = some (.string (⟨#[]⟩ : ByteArray)) := (Qak BK126.out 1).trans rfl; have hfs73 := QaP BK126.out 1; have hns73_0 := NB101_126.out; have hns73_1 := NB104_126.out; have hms73_0 := NB126_101.out; have hms73_1 := NB126_104.out; refine skip_ (w1 := ?_) (by rfl) rfl ?_ ?_; rotate_left
              ·go_simp; rfl
              refine hK.out _ _ ⟨((cell_far (p := ⟨gb126, _, none⟩) NB101_126.out _).trans (((cell_far (p := ⟨gb126, _, none⟩) NB101_126.out _).trans (hHeld.1)))), ((cell_far (p := ⟨gb126, _, none⟩) NB101_126.out _).trans (((cell_far (p := ⟨gb126, _, none⟩) NB101_126.out _).trans (hHeld.2.1)))), ((cell_far (p := ⟨gb126, _, none⟩) NB101_126.out _).trans (((cell_far (p := ⟨gb126, _, none⟩) NB101_126.out _).trans (hHeld.2.2.1)))), ((cell_far (p := ⟨gb126, _, none⟩) NB101_126.out _).trans (((cell_far (p := ⟨gb126, _, none⟩) NB101_126.out _).trans (hHeld.2.2.2.1)))), ((cell_far (p := ⟨gb126, _, none⟩) NB101_126.out _).trans (((cell_far (p := ⟨gb126, _, none⟩) NB101_126.out _).trans (hHeld.2.2.2.2.1)))), ((cell_far (p := ⟨gb126, _, none⟩) NB101_126.out _).trans (((cell_far (p := ⟨gb126, _, none⟩) NB101_126.out _).trans (hHeld.2.2.2.2.2.1)))), ((cell_far (p := ⟨gb126, _, none⟩) NB101_126.out _).trans (((cell_far (p := ⟨gb126, _, none⟩) NB101_126.out _).trans (hHeld.2.2.2.2.2.2.1)))), ((cell_far (p := ⟨gb126, _, none⟩) NB101_126.out _).trans (((cell_far (p := ⟨gb126, _, none⟩) NB101_126.out _).trans (hHeld.2.2.2.2.2.2.2.1)))), ((cell_far (p := ⟨gb126, _, none⟩) NB101_126.out _).trans (((cell_far (p := ⟨gb126, _, none⟩) NB101_126.out _).trans (hHeld.2.2.2.2.2.2.2.2.1)))), ((cell_far (p := ⟨gb126, _, none⟩) (by first | exact Nat.ne_of_lt (Nat.lt_of_lt_of_le (by have := World.block_lt_of_cell? _ _ hw125_0; first | rwa [add_block] at this | exact this) GW126.out) | (rw [add_block]; exact Nat.ne_of_lt (Nat.lt_of_lt_of_le (by have := World.block_lt_of_cell? _ _ hw125_0; first | rwa [add_block] at this | exact this) GW126.out)) | (show (Addr.add _ _).block ≠ _; rw [add_block]; exact Nat.ne_of_lt (Nat.lt_of_lt_of_le (by have := World.block_lt_of_cell? _ _ hw125_0; first | rwa [add_block] at this | exact this) GW126.out)) | (dsimp only; exact Nat.ne_of_lt (Nat.lt_of_lt_of_le (by have := World.block_lt_of_cell? _ _ hw125_0; first | rwa [add_block] at this | exact this) GW126.out))) _).trans (((cell_far (p := ⟨gb126, _, none⟩) (by first | exact Nat.ne_of_lt (Nat.lt_of_lt_of_le (by have := World.block_lt_of_cell? _ _ hw125_0; first | rwa [add_block] at this | exact this) GW126.out) | (rw [add_block]; exact Nat.ne_of_lt (Nat.lt_of_lt_of_le (by have := World.block_lt_of_cell? _ _ hw125_0; first | rwa [add_block] at this | exact this) GW126.out)) | (show (Addr.add _ _).block ≠ _; rw [add_block]; exact Nat.ne_of_lt (Nat.lt_of_lt_of_le (by have := World.block_lt_of_cell? _ _ hw125_0; first | rwa [add_block] at this | exact this) GW126.out)) | (dsimp only; exact Nat.ne_of_lt (Nat.lt_of_lt_of_le (by have := World.block_lt_of_cell? _ _ hw125_0; first | rwa [add_block] at this | exact this) GW126.out))) _).trans (hHeld.2.2.2.2.2.2.2.2.2.1)))), ((cell_far (p := ⟨gb126, _, none⟩) (by first | exact Nat.ne_of_lt (Nat.lt_of_lt_of_le (by have := World.block_lt_of_cell? _ _ hw125_1; first | rwa [add_block] at this | exact this) GW126.out) | (rw [add_block]; exact Nat.ne_of_lt (Nat.lt_of_lt_of_le (by have := World.block_lt_of_cell? _ _ hw125_1; first | rwa [add_block] at this | exact this) GW126.out)) | (show (Addr.add _ _).block ≠ _; rw [add_block]; exact Nat.ne_of_lt (Nat.lt_of_lt_of_le (by have := World.block_lt_of_cell? _ _ hw125_1; first | rwa [add_block] at this | exact this) GW126.out)) | (dsimp only; exact Nat.ne_of_lt (Nat.lt_of_lt_of_le (by have := World.block_lt_of_cell? _ _ hw125_1; first | rwa [add_block] at this | exact this) GW126.out))) _).trans (((cell_far (p := ⟨gb126, _, none⟩) (by first | exact Nat.ne_of_lt (Nat.lt_of_lt_of_le (by have := World.block_lt_of_cell? _ _ hw125_1; first | rwa [add_block] at this | exact this) GW126.out) | (rw [add_block]; exact Nat.ne_of_lt (Nat.lt_of_lt_of_le (by have := World.block_lt_of_cell? _ _ hw125_1; first | rwa [add_block] at this | exact this) GW126.out)) | (show (Addr.add _ _).block ≠ _; rw [add_block]; exact Nat.ne_of_lt (Nat.lt_of_lt_of_le (by have := World.block_lt_of_cell? _ _ hw125_1; first | rwa [add_block] at this | exact this) GW126.out)) | (dsimp only; exact Nat.ne_of_lt (Nat.lt_of_lt_of_le (by have := World.block_lt_of_cell? _ _ hw125_1; first | rwa [add_block] at this | exact this) GW126.out))) _).trans (hHeld.2.2.2.2.2.2.2.2.2.2.1)))), ((cell_far (p := ⟨gb126, _, none⟩) (by first | exact Nat.ne_of_lt (Nat.lt_of_lt_of_le (by have := World.block_lt_of_cell? _ _ hw125_2; first | rwa [add_block] at this | exact this) GW126.out) | (rw [add_block]; exact Nat.ne_of_lt (Nat.lt_of_lt_of_le (by have := World.block_lt_of_cell? _ _ hw125_2; first | rwa [add_block] at this | exact this) GW126.out)) | (show (Addr.add _ _).block ≠ _; rw [add_block]; exact Nat.ne_of_lt (Nat.lt_of_lt_of_le (by have := World.block_lt_of_cell? _ _ hw125_2; first | rwa [add_block] at this | exact this) GW126.out)) | (dsimp only; exact Nat.ne_of_lt (Nat.lt_of_lt_of_le (by have := World.block_lt_of_cell? _ _ hw125_2; first | rwa [add_block] at this | exact this) GW126.out))) _).trans (((cell_far (p := ⟨gb126, _, none⟩) (by first | exact Nat.ne_of_lt (Nat.lt_of_lt_of_le (by have := World.block_lt_of_cell? _ _ hw125_2; first | rwa [add_block] at this | exact this) GW126.out) | (rw [add_block]; exact Nat.ne_of_lt (Nat.lt_of_lt_of_le (by have := World.block_lt_of_cell? _ _ hw125_2; first | rwa [add_block] at this | exact this) GW126.out)) | (show (Addr.add _ _).block ≠ _; rw [add_block]; exact Nat.ne_of_lt (Nat.lt_of_lt_of_le (by have := World.block_lt_of_cell? _ _ hw125_2; first | rwa [add_block] at this | exact this) GW126.out)) | (dsimp only; exact Nat.ne_of_lt (Nat.lt_of_lt_of_le (by have := World.block_lt_of_cell? _ _ hw125_2; first | rwa [add_block] at this | exact this) GW126.out))) _).trans (hHeld.2.2.2.2.2.2.2.2.2.2.2))))⟩ (fun hHeld => ?_)
              clear hK K; refine QbS (Qbz HT_.out (by kernel_rfl)) ?_
              try go_wp2
              go_loopg [6, 10] kj54 (fun kq v6 v10 w' => ∃ (x6_5 : List (S62)) (x10_5 : Int), v10 = .int .i64 x10_5 ∧ Qaa (Qab.l1 kq l1 x6_5 x7_1 x10_5 a0_0 a0_1 a0_2 a0_3 a0_4 a0_5 a0_6 a0_7 a0_8 t102 t103 ((Qah l1 x7_1).f1) a0_8 = some r) ∧ Qaa (kq ≤ kj54) ∧ Qaa (Kd.R k62 62 w' w.heap.size (fun _ => True) v6 x6_5) ∧ Qaa (w'.heap[gb101]? = some (.cells #[.int .i64 a0_0, .int .i64 a0_1, .string a0_2, .int .i64 a0_3, .string a0_4, .string a0_5, .string a0_6, .string a0_7, .string a0_8] 35 (0, 0))) ∧ Qaa (w'.heap[gb104]? = some (.cells #[.string t102, .string t103] 33 (0, 0))) ∧ Qaa (w'.heap[gb126]? = some (.cells #[.string ((Qah l1 x7_1).f1), .string a0_8] 33 (0, 0))) ∧ Qaa (Below w.heap.size w w'))
              case atStart => exact ⟨(x6_29), (0), (by first | rfl | (simp; done) | (simp [*]; done)), H', ⟨Nat.le_refl _⟩, ⟨by (with_reducible repeat (first | apply Kd.QaN | apply Kd.QaQ | apply Kd.QaO)); exact Kd.Qbf (Kd.R_far (p := ⟨gb126, 1, none⟩) (Kd.R_far (p := ⟨gb126, 0, none⟩) (Kd.R_types HO_6.out BK126.out (by decide)) (fun _ hk => hk.2) (.string ((Qah l1 x7_1).f1))) (fun _ hk => hk.2) (.string a0_8)) (fun _ hk => trivial)⟩, ⟨by (with_reducible repeat (first | refine Qat ?_ _ | refine Qan ?_ | refine Qam ?_ _)); refine blk_far ?_ NB101_126.out _; (with_reducible repeat (first | refine Qat ?_ _ | refine Qan ?_ | refine Qam ?_ _)); refine blk_far ?_ NB101_126.out _; (with_reducible repeat (first | refine Qat ?_ _ | refine Qan ?_ | refine Qam ?_ _)); exact BK101.out⟩, ⟨by (with_reducible repeat (first | refine Qat ?_ _ | refine Qan ?_ | refine Qam ?_ _)); refine blk_far ?_ NB104_126.out _; (with_reducible repeat (first | refine Qat ?_ _ | refine Qan ?_ | refine Qam ?_ _)); refine blk_far ?_ NB104_126.out _; (with_reducible repeat (first | refine Qat ?_ _ | refine Qan ?_ | refine Qam ?_ _)); exact BK104.out⟩, ⟨by (with_reducible repeat (first | refine Qat ?_ _ | refine Qan ?_ | refine Qam ?_ _)); refine Qbl (cs := #[.string ((Qah l1 x7_1).f1), .string (⟨#[]⟩ : ByteArray)]) ?_ 1 _ rfl; (with_reducible repeat (first | refine Qat ?_ _ | refine Qan ?_ | refine Qam ?_ _)); refine Qbl (cs := #[.string (⟨#[]⟩ : ByteArray), .string (⟨#[]⟩ : ByteArray)]) ?_ 0 _ rfl; (with_reducible repeat (first | refine Qat ?_ _ | refine Qan ?_ | refine Qam ?_ _)); exact BK126.out⟩, ⟨bw_⟩⟩
              case round =>
               clear H'; (try clear p1); (try clear q1); (try clear hx1); (try clear p2); (try clear c5); (try clear c6); (try clear p12); (try clear q12); (try clear hx12); (try clear c56); (try clear c56b0); (try clear c56b1); (try clear c57); (try clear c58); (try clear c60); (try clear c60b0); (try clear c60b1); (try clear c60b2); (try clear c63); (try clear c67); (try clear c68); (try clear c68b0); (try clear c69); (try clear c69b0); (try clear hx120_0); (try clear hx120_1); (try clear hx120_2); (try clear hx123_0); (try clear hx123_1); (try clear hx123_2); (try clear hx125_0); (try clear hx125_1); (try clear hx125_2); (try clear p1); (try clear p12); (try clear p120); (try clear p123); (try clear p125); (try clear p2); (try clear q1); (try clear q12); (try clear q120); (try clear q123); (try clear q125); obtain ⟨x6_5, x10_5, rfl, HA, HK5, HO_6, BK101, BK104, BK126, HB⟩ := hrel
               cases gk with
               | zero => exact absurd HA.out (by simp [Qab.l1])
               | succ k5 =>
                have H := HA.out; clear HA; simp only [Qab.l1] at H
                by_cases c74 : x10_5 < (l1.length : Int)
                ·rw [if_pos c74] at H; have c74b0 : decide (x10_5 < (l1.length : Int)) = true := decide_eq_true c74; clear c74
                 by_cases c75 : 0 ≤ x10_5
                 ·rw [if_pos c75] at H; have c75b0 : decide (0 ≤ x10_5) = true := decide_eq_true c75; clear c75
                  by_cases c76 : ((((Qah l1 x10_5).f0.f0).toList) == ((Qah l1 x7_1).f1).toList && ((((Qah l1 x10_5).f0.f1).toList) == a0_8.toList)) = true
                  ·rw [if_pos c76] at H; have c76b0 : ((((Qah l1 x10_5).f0.f0).toList) == ((Qah l1 x7_1).f1).toList && ((((Qah l1 x10_5).f0.f1).toList) == a0_8.toList)) = true := c76
                   (try (have c76b1 : decide ((((Qah l1 x10_5).f0.f0).toList) = ((Qah l1 x7_1).f1).toList && ((((Qah l1 x10_5).f0.f1).toList) == a0_8.toList)) = true := by simpa using c76))
                   (try (have c76b2 : ((((Qah l1 x10_5).f0.f0).toList) == ((Qah l1 x7_1).f1).toList && ((((Qah l1 x10_5).f0.f1).toList) == a0_8.toList)) = true := by simpa using c76))
                   clear c76
                   by_cases c77 : x6_5.length < 2932031007402
                   ·rw [if_pos c77] at H; have LMc77 := Qaa.mk c77; clear c77
                    obtain ⟨y129, hy129⟩ : ∃ y_ : List (S62), y_ = (x6_5 ++ [(⟨(⟨t102, t103⟩ : S33), (Qah l1 x10_5).f1⟩ : S62)]) := ⟨_, rfl⟩
                    replace H : (Qab.l1 k5 l1 y129 x7_1 (wrap64 (x10_5 + 1)) a0_0 a0_1 a0_2 a0_3 a0_4 a0_5 a0_6 a0_7 a0_8 t102 t103 ((Qah l1 x7_1).f1) a0_8) = some r := by first | (rw [hy129]; with_reducible exact H) | (have H2_ := (Option.bind_some _ _).symm.trans H; rw [hy129]; with_reducible exact H2_) | (have H2_ := (Option.bind_some _ _).symm.trans H; with_reducible exact H2_) | with_reducible exact H | (rw [hy129]; exact H) | exact H
                    have Ny129 := Qaa.mk hy129; clear hy129; have H' := Qaa.mk H; clear H
                    try go_wp2
                    replace HO_6 := Qaa.mk (Kd.QaO HO_6.out); replace BK101 := Qaa.mk (Qan BK101.out); replace BK104 := Qaa.mk (Qan BK104.out); replace BK126 := Qaa.mk (Qan BK126.out); replace HB := Qaa.mk (Qau HB.out); have p127 : 0 ≤ (x10_5 : Int) := dd_; have q127 : x10_5 < (l1.length : Int) := dd_; obtain ⟨ad127, e127, hx127_0, hx127_1, hx127_2⟩ := QbL HR1.out x10_5 p127 q127; have hw127_2 := hx127_2; have hw127_1 := hx127_1; have hw127_0 := hx127_0
                    obtain rfl : ad125 = ad127 := (by injection e127)
                    replace hx127_0 := cb_ HB hx127_0; replace hx127_1 := cb_ HB hx127_1; replace hx127_2 := cb_ HB hx127_2; replace p127 := eq_true p127; replace q127 := eq_true q127; refine Qbo (n := 7) (S := fun w' => cg_ss w' gb126 ((Qah l1 x7_1).f1) a0_8 (crl_sss w' (ad125.add ((x10_5).toNat * 3)) ((Qah l1 x10_5).f0.f0) ((Qah l1 x10_5).f0.f1) ((Qah l1 x10_5).f1))) (ds := []) #[ff,ff,ff,ff,ff,ff,ff] (by kernel_rfl) rfl rfl (cw_2 BK126.out ⟨(cb_ HB hw127_0), (cb_ HB hw127_1), (cb_ HB hw127_2)⟩) (fun hHeld => ?_)
                    generalize wr.drew = w78 at HO_6 BK101 BK104 BK126 HB hx127_0 hx127_1 hx127_2 hHeld ⊢
                    refine kz 0 108 ?_; refine kz 1 109 ?_; refine kz 2 110 ?_; refine kz 3 111 ?_; refine kk5 4 112 ?_; refine kk5 5 113 ?_; refine kz 6 114 ?_; refine QbS (by kernel_rfl) ?_
                    try go_wp2
                    replace HO_6 := Qaa.mk (Kd.QaO HO_6.out); replace BK101 := Qaa.mk (Qan BK101.out); replace BK104 := Qaa.mk (Qan BK104.out); replace BK126 := Qaa.mk (Qan BK126.out); replace HB := Qaa.mk (Qau HB.out); have p128 : 0 ≤ (x10_5 : Int) := dd_; have q128 : x10_5 < (l1.length : Int) := dd_; obtain ⟨ad128, e128, hx128_0, hx128_1, hx128_2⟩ := QbL HR1.out x10_5 p128 q128; have hw128_2 := hx128_2; have hw128_1 := hx128_1; have hw128_0 := hx128_0
                    obtain rfl : ad125 = ad128 := (by injection e128)
                    replace hx128_0 := cb_ HB hx128_0; replace hx128_1 := cb_ HB hx128_1; replace hx128_2 := cb_ HB hx128_2; replace p128 := eq_true p128; replace q128 := eq_true q128; refine Qbo (n := 11) (S := fun w' => cg_ss w' gb104 t102 t103 (crl_sss w' (ad125.add ((x10_5).toNat * 3)) ((Qah l1 x10_5).f0.f0) ((Qah l1 x10_5).f0.f1) ((Qah l1 x10_5).f1))) (ds := []) #[ff,ff,ff,ff,ff,ff,ff,ff,ff,ff,ff] (by kernel_rfl) rfl rfl (cw_2 BK104.out ⟨(cb_ HB hw128_0), (cb_ HB hw128_1), (cb_ HB hw128_2)⟩) (fun hHeld => ?_); refine Qa9 Qab.tab18 Qab.bits18 (fun HT_ HW_ => ?_)
                    generalize w78.drew = w79 at HO_6 BK101 BK104 BK126 HB hx128_0 hx128_1 hx128_2 hHeld ⊢
                    refine pz 0 115 ?_; refine pz 2 117 ?_; refine pz 3 118 ?_; refine pz 4 119 ?_; refine pz 5 120 ?_; refine tk5 1 116 ?_; refine tk5 6 121 ?_; refine pz 7 122 ?_; refine one_ (i := 8) (N := some 123) #[tt,tt,tt,tt,tt,tt,tt,tt,tt,ff,ff] rfl rfl (QbK HT_.out (by kernel_rfl)) (by decide) (fun K hK => ?_); refine value_ (w1 := ?_) (v := ?_) (by rfl) rfl ?_ ?_; rotate_left 2
                    ·go_simp; constructor
                     ·rfl
                     ·rfl
                    refine hK.out _ _ ⟨(Qak (Qam BK104.out _) 0).trans rfl, (Qak (Qam BK104.out _) 1).trans rfl, (World.cell?_alloc_lt _ _ _ (World.block_lt_of_cell? _ _ ((cb_ HB hw128_0)))).trans ((cb_ HB hw128_0)), (World.cell?_alloc_lt _ _ _ (World.block_lt_of_cell? _ _ ((cb_ HB hw128_1)))).trans ((cb_ HB hw128_1)), (World.cell?_alloc_lt _ _ _ (World.block_lt_of_cell? _ _ ((cb_ HB hw128_2)))).trans ((cb_ HB hw128_2))⟩ (fun hHeld => ?_); clear hK K; refine norm_ (a' := ?_) ?_ ?_; rotate_left
                    ·show Act.put _ (some 123) _ = _
                     simp only [Act.put, put_, Qbe, Qbh]; rfl
                    refine one_ (i := 9) (N := some 124) #[tt,tt,tt,tt,tt,tt,tt,tt,tt,tt,ff] rfl rfl (QbK HT_.out (by kernel_rfl)) (by decide) (fun K hK => ?_); refine Kd.R_append_step k62 (w0 := w) w.heap.size (by rfl) (.tmp 115) (.tmp 123) 59 62 (.agg #[(.string ⟨#[]⟩), (.string ⟨#[]⟩), (.string ⟨#[]⟩)]) 48 rfl Tryz.underlying59 info62 rfl (by decide) (by omega) u6 x6_5 (⟨(⟨t102, t103⟩ : S33), (Qah l1 x10_5).f1⟩ : S62) [.string t102, .string t103, .string ((Qah l1 x10_5).f1)] (fun _ => True) (fun _ => False) rfl rfl ?aP (fun _ hk => hk.elim) ?aF ?aO ?aB ?aS ?aL ?_
                    (case aP => exact k62_mkM _ _ _ (⟨(⟨t102, t103⟩ : S33), (Qah l1 x10_5).f1⟩ : S62))
                    (case aB => exact bw_)
                    (case aF => exact (fun _ _ => trivial))
                    (case aO => exact (ro_ HO_6))
                    (case aS => exact (QaI bw_))
                    (case aL => have := LMc77.out; omega)
                    intro v130 w80 ho hb hg hat
                    rw [← Ny129.out] at ho; have n0_ := Qaa.mk (blk_grown (g := gb101) bk_ hg (Kd.R_ne HO_6.out BK101.out (by decide))); have n1_ := Qaa.mk (blk_grown (g := gb104) bk_ hg (Kd.R_ne HO_6.out BK104.out (by decide))); have n2_ := Qaa.mk (blk_grown (g := gb126) bk_ hg (Kd.R_ne HO_6.out BK126.out (by decide))); have n3_ := Qaa.mk (hb); have n4_ := Qaa.mk (ho); clear BK101; clear BK104; clear BK126; clear HB; clear HO_6; have BK101 := n0_; have BK104 := n1_; have BK126 := n2_; have HB := n3_; have HO131 := n4_; clear n0_ n1_ n2_ n3_ n4_
                    clear ho hb hg hat
                    refine hK.out _ _ (cw_2 BK104.out ⟨(cb_ HB hw128_0), (cb_ HB hw128_1), (cb_ HB hw128_2)⟩) (fun hHeld => ?_); clear hK K; refine norm_ (a' := ?_) ?_ ?_; rotate_left
                    ·show Act.put _ (some 124) _ = _
                     simp only [Act.put, put_, Qbe, Qbh]; rfl
                    refine pz 10 6 ?_; refine QbS (Qbz HT_.out (by kernel_rfl)) ?_
                    try go_wp2
                    go_roundg k5
                    case measure => have := HK1.out; have := HJ21.out; have := HJ29.out; have := HJ54.out; have := HK5.out; omega
                    case rel => exact ⟨(y129), (wrap64 (x10_5 + 1)), (by first | rfl | (simp; done) | (simp [*]; done)), H', ⟨by have := HK1.out; have := HJ21.out; have := HJ29.out; have := HJ54.out; have := HK5.out; omega⟩, ⟨by (with_reducible repeat (first | apply Kd.QaN | apply Kd.QaQ | apply Kd.QaO)); exact HO131.out⟩, ⟨by (with_reducible repeat (first | refine Qat ?_ _ | refine Qan ?_ | refine Qam ?_ _)); exact BK101.out⟩, ⟨by (with_reducible repeat (first | refine Qat ?_ _ | refine Qan ?_ | refine Qam ?_ _)); exact BK104.out⟩, ⟨by (with_reducible repeat (first | refine Qat ?_ _ | refine Qan ?_ | refine Qam ?_ _)); exact BK126.out⟩, ⟨bw_⟩⟩
                   ·rw [if_neg c77] at H; exact absurd H (by simp)
                  ·rw [if_neg c76] at H
                   have c76b0 : ((((Qah l1 x10_5).f0.f0).toList) == ((Qah l1 x7_1).f1).toList && ((((Qah l1 x10_5).f0.f1).toList) == a0_8.toList)) = false := by simpa using c76
                   (try (have c76b1 : decide ((((Qah l1 x10_5).f0.f0).toList) = ((Qah l1 x7_1).f1).toList && ((((Qah l1 x10_5).f0.f1).toList) == a0_8.toList)) = false := by simpa using c76))
                   (try (have c76b2 : ((((Qah l1 x10_5).f0.f0).toList) == ((Qah l1 x7_1).f1).toList && ((((Qah l1 x10_5).f0.f1).toList) == a0_8.toList)) = false := by simpa using c76))
                   (try (have c76b3 : ¬ ((((Qah l1 x10_5).f0.f0).toList) = ((Qah l1 x7_1).f1).toList && ((((Qah l1 x10_5).f0.f1).toList) == a0_8.toList)) := by simpa using c76))
                   clear c76; have H' := Qaa.mk H; clear H
                   try go_wp2
                   replace HO_6 := Qaa.mk (Kd.QaO HO_6.out); replace BK101 := Qaa.mk (Qan BK101.out); replace BK104 := Qaa.mk (Qan BK104.out); replace BK126 := Qaa.mk (Qan BK126.out); replace HB := Qaa.mk (Qau HB.out); have p127 : 0 ≤ (x10_5 : Int) := dd_; have q127 : x10_5 < (l1.length : Int) := dd_; obtain ⟨ad127, e127, hx127_0, hx127_1, hx127_2⟩ := QbL HR1.out x10_5 p127 q127; have hw127_2 := hx127_2; have hw127_1 := hx127_1; have hw127_0 := hx127_0
                   obtain rfl : ad125 = ad127 := (by injection e127)
                   replace hx127_0 := cb_ HB hx127_0; replace hx127_1 := cb_ HB hx127_1; replace hx127_2 := cb_ HB hx127_2; replace p127 := eq_true p127; replace q127 := eq_true q127; refine Qbo (n := 7) (S := fun w' => cg_ss w' gb126 ((Qah l1 x7_1).f1) a0_8 (crl_sss w' (ad125.add ((x10_5).toNat * 3)) ((Qah l1 x10_5).f0.f0) ((Qah l1 x10_5).f0.f1) ((Qah l1 x10_5).f1))) (ds := []) #[ff,ff,ff,ff,ff,ff,ff] (by kernel_rfl) rfl rfl (cw_2 BK126.out ⟨(cb_ HB hw127_0), (cb_ HB hw127_1), (cb_ HB hw127_2)⟩) (fun hHeld => ?_)
                   generalize wr.drew = w81 at HO_6 BK101 BK104 BK126 HB hx127_0 hx127_1 hx127_2 hHeld ⊢
                   refine kz 0 108 ?_; refine kz 1 109 ?_; refine kz 2 110 ?_; refine kz 3 111 ?_; refine kk5 4 112 ?_; refine kk5 5 113 ?_; refine kz 6 114 ?_; refine QbS (by kernel_rfl) ?_
                   try go_wp2
                   go_roundg k5
                   case measure => have := HK1.out; have := HJ21.out; have := HJ29.out; have := HJ54.out; have := HK5.out; omega
                   case rel => exact ⟨(x6_5), (wrap64 (x10_5 + 1)), (by first | rfl | (simp; done) | (simp [*]; done)), H', ⟨by have := HK1.out; have := HJ21.out; have := HJ29.out; have := HJ54.out; have := HK5.out; omega⟩, ⟨by (with_reducible repeat (first | apply Kd.QaN | apply Kd.QaQ | apply Kd.QaO)); exact HO_6.out⟩, ⟨by (with_reducible repeat (first | refine Qat ?_ _ | refine Qan ?_ | refine Qam ?_ _)); exact BK101.out⟩, ⟨by (with_reducible repeat (first | refine Qat ?_ _ | refine Qan ?_ | refine Qam ?_ _)); exact BK104.out⟩, ⟨by (with_reducible repeat (first | refine Qat ?_ _ | refine Qan ?_ | refine Qam ?_ _)); exact BK126.out⟩, ⟨bw_⟩⟩
                 ·rw [if_neg c75] at H; exact absurd H (by simp)
                ·rw [if_neg c74] at H; have c74b0 : decide (x10_5 < (l1.length : Int)) = false := decide_eq_false c74; clear c74; have H' := Qaa.mk H; clear H; go_wp2
                 go_roundg k5
                 case measure => have := HK1.out; have := HJ21.out; have := HJ29.out; have := HJ54.out; have := HK5.out; omega
                 case rel => exact ⟨(x6_5), (wrap64 (x7_1 + 1)), (by first | rfl | (simp; done) | (simp [*]; done)), H', ⟨by have := HK1.out; have := HJ21.out; have := HJ29.out; have := HJ54.out; have := HK5.out; omega⟩, ⟨by (with_reducible repeat (first | apply Kd.QaN | apply Kd.QaQ | apply Kd.QaO)); exact HO_6.out⟩, ⟨by (with_reducible repeat (first | refine Qat ?_ _ | refine Qan ?_ | refine Qam ?_ _)); exact BK101.out⟩, ⟨by (with_reducible repeat (first | refine Qat ?_ _ | refine Qan ?_ | refine Qam ?_ _)); exact BK104.out⟩, ⟨bw_⟩⟩
             ·rw [if_neg c69] at H; exact absurd H (by simp)
            ·rw [if_neg c68] at H; exact absurd H (by simp)
           ·replace c67 := Bool.eq_false_iff.mpr c67; subst c67
            have H1 : (Qab.l0 kj54 l1 x6_29 (wrap64 (x7_1 + 1)) a0_0 a0_1 a0_2 a0_3 a0_4 a0_5 a0_6 a0_7 a0_8 t102 t103) = some r := by rw [if_neg (show ¬ (false = true) by decide)] at H; exact H
            clear H; have H := H1; clear H1; have H' := Qaa.mk H; clear H; go_wp2
            go_roundg kj54
            case measure => have := HK1.out; have := HJ21.out; have := HJ29.out; have := HJ54.out; omega
            case rel => exact ⟨(x6_29), (wrap64 (x7_1 + 1)), (by first | rfl | (simp; done) | (simp [*]; done)), H', ⟨by have := HK1.out; have := HJ21.out; have := HJ29.out; have := HJ54.out; omega⟩, ⟨by (with_reducible repeat (first | apply Kd.QaN | apply Kd.QaQ | apply Kd.QaO)); exact HO_6.out⟩, ⟨by (with_reducible repeat (first | refine Qat ?_ _ | refine Qan ?_ | refine Qam ?_ _)); exact BK101.out⟩, ⟨by (with_reducible repeat (first | refine Qat ?_ _ | refine Qan ?_ | refine Qam ?_ _)); exact BK104.out⟩, ⟨bw_⟩⟩
    ·rw [if_neg c21] at H; have c21b0 : decide (x7_1 < (l1.length : Int)) = false := decide_eq_false c21; clear c21; obtain rfl := Option.some.inj H; go_wp2; go_ret; exact ⟨_, by first | rfl | (simp [Qap, Qao] <;> rfl) | (simp [*, Qap, Qao] <;> rfl), by (with_reducible repeat (first | apply Kd.QaN | apply Kd.QaQ | apply Kd.QaO)); exact HO_6.out, bw_⟩
end
end Go.Proofs.YtbjjonpkmplhbaaGreatDoor.Pr
end
